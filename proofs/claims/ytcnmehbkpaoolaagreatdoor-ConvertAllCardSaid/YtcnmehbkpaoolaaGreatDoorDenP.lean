/-
 Proof.
-/
import Derived.Test.YtcnmehbkpaoolaaGreatDoorDenA
import Derived.Test.YtcnmehbkpaoolaaGreatDoorDenC
noncomputable section
namespace Go.Den
abbrev FT:=Nat→AV
abbrev CF:=Aa8 Prop FT
abbrev H:=Hp FT
abbrev KV:=AV→H→Prop
def Ae(f:FT)(d:Nat)(v:AV):FT:=fun u=>Bool.rec (f u) v (Nat.beq u d)
def Ab(l:List AV):FT:=fun t=>Option.rec .undef (fun v=>v) (En l t)
def Bc2:FI where
 T:=FT
 init l:=Ab l
 get f t:=f t
 set f t v:=Ae f t v
 force f k:=k f
abbrev CP(E:Env):Cx Prop:=⟨E,Bc2,False⟩
def fN(n:Nat)(K:Nat→Prop):Prop:=Nat.rec False (fun m _=>K m) (Nat.succ n)
def fI(n:Int)(K:Int→Prop):Prop:=Int.rec (fun m=>fN m (fun m=>K (.ofNat m))) (fun m=>fN m (fun m=>K (.negSucc m))) n
def Bz(n:Int)(K:Nat→Prop):Prop:=Int.rec (fun m=>K m) (fun _=>False) n
def Ao(M:(Bool→H→Prop)→Prop)(k:Bool→H→Prop):Prop:=M k
def oV{α:Type}(o:Option α)(K:α→Prop):Prop:=Option.rec False K o
def oK(o:Option (AV×H))(k:KV):Prop:=Option.rec False (fun p=>Prod.rec (fun v h=>Ca v (fun v=>Hp.rec (fun m n=>Jz m (fun m=>k v ⟨m,n⟩)) h)) p) o
def cnd(t:Bool)(A B:Prop):Prop:=Bool.rec B A t
def gate(w t:Bool)(A B:Prop):Prop:=Bool.rec (Bool.rec A B t) (Bool.rec B A t) w
def Ci(l c i:Nat)(K:Nat→Prop):Prop:=Bool.rec False (fN (Gh c i) K) (Nat.ble (Nat.add i 1) l)
def Fm(l c lo hi:Nat)(K:Nat→Nat→Prop):Prop:=Bool.rec False (fN (Nat.sub hi lo) (fun n=>fN (Vy c lo hi) (fun d=>K n d))) (Ai (Nat.ble lo hi) (Nat.ble hi l))
def Abu(l c m d:Nat)(K:Nat→Nat→Prop):Prop:=Bool.rec False (fN (Nat.add l m) (fun n=>fN (Zb l c d) (fun e=>K n e))) (Nat.ble (Nat.add l m) (intMax .i64))
def ltS(l c m d:Nat):Bool:=Rb (Hl l c) (Hl m d)
def Akd(k:IntKind)(a b:Int)(K:Int→Prop):Prop:=Bool.rec (fI (wrap k (a.tdiv b)) K) False (Ba b (.ofNat 0))
def Asb(a b:Int)(K:Int→Prop):Prop:=Bool.rec (fI (a.tmod b) K) False (Ba b (.ofNat 0))
def Ap2(k:IntKind)(a b:Int)(K:Int→Prop):Prop:=Bz b (fun b=>fI (wrap k (a*2^(min b k.bits))) K)
def Bac(k:IntKind)(a b:Int)(K:Int→Prop):Prop:=Bz b (fun b=>fI (a.fdiv (2^(min b k.bits))) K)
def Bbk(a b:Int)(K:Nat→Nat→Prop):Prop:=Bz a (fun a=>Bz b (fun b=>K a b))
def Abw(g:Nat→Nat→Nat)(k:IntKind)(a b:Int)(K:Int→Prop):Prop:=Bbk a b (fun a b=>Bool.rec False (fN (g a b) (fun n=>K (.ofNat n))) (Ai (Nat.ble a (intMax k)) (Nat.ble b (intMax k))))
def low(n:Nat):Nat:=(fun(_:Nat→(Nat→Prop)→Prop)(_:Int→(Int→Prop)→Prop)(_:((Bool→H→Prop)→Prop)→(Bool→H→Prop)→Prop)(_:Nat→Nat→Nat→(Nat→Prop)→Prop)(_:Nat→Nat→Nat→Nat→(Nat→Nat→Prop)→Prop)(_:Nat→Nat→Nat→Nat→(Nat→Nat→Prop)→Prop)
 (_:IntKind→Int→Int→(Int→Prop)→Prop) (_:IntKind→Int→Int→(Int→Prop)→Prop) (_:IntKind→Int→Int→(Int→Prop)→Prop) (_:(Nat→Nat→Nat)→IntKind→Int→Int→(Int→Prop)→Prop) (_:Option (AV×H)→KV→Prop) (_:H→P→Nat→Prop→(AV→Prop)→Prop) (_:H→P→Nat→List AV→Prop→(H→Prop)→Prop) (_:H→Ob FT→(P→H→Prop)→Prop)=>n)
 fN fI Ao Ci Fm Abu Akd Ap2 Bac Abw oK (fun h b o x k=>h.Hg b o x k) (fun h b o l x k=>h.He b o l x k) (fun h o k=>h.Fi o k)
def Am:Prop:=(fun(_:Nat)=>False) (low 0)
def Aii(a b:IntKind):Bool:=match a with
 |.i8=>match b with|.i8=>true|_=>false
 |.i16=>match b with|.i16=>true|_=>false
 |.i32=>match b with|.i32=>true|_=>false
 |.i64=>match b with|.i64=>true|_=>false
 |.u8=>match b with|.u8=>true|_=>false
 |.u16=>match b with|.u16=>true|_=>false
 |.u32=>match b with|.u32=>true|_=>false
 |.u64=>match b with|.u64=>true|_=>false
def chk(b:Bool)(K:Prop):Prop:=Bool.rec Am K b
section
def asI(k:IntKind)(v:AV)(K:Int→Prop):Prop:=AV.rec (motive_1:=fun _=>Prop) (motive_2:=fun _=>Unit)
 (fun _=>Am) (fun j n=>Bool.rec Am (K n) (Aii k j)) (fun _ _=>Am) Am (fun _ _=>Am) Am (fun _ _ _ _ _=>Am) Am (fun _=>Am) (fun _ _ _ _ _=>Am) Am (fun _ _ _=>Am) Am (fun _ _=>Am) (fun _ _=>Am) Am () (fun _ _ _ _=>()) v
def Arc(v:AV)(K:Int→Prop):Prop:=AV.rec (motive_1:=fun _=>Prop) (motive_2:=fun _=>Unit)
 (fun _=>Am) (fun _ n=>K n) (fun _ _=>Am) Am (fun _ _=>Am) Am (fun _ _ _ _ _=>Am) Am (fun _=>Am) (fun _ _ _ _ _=>Am) Am (fun _ _ _=>Am) Am (fun _ _=>Am) (fun _ _=>Am) Am () (fun _ _ _ _=>()) v
def asB(v:AV)(K:Bool→Prop):Prop:=AV.rec (motive_1:=fun _=>Prop) (motive_2:=fun _=>Unit)
 (fun b=>K b) (fun _ _=>Am) (fun _ _=>Am) Am (fun _ _=>Am) Am (fun _ _ _ _ _=>Am) Am (fun _=>Am) (fun _ _ _ _ _=>Am) Am (fun _ _ _=>Am) Am (fun _ _=>Am) (fun _ _=>Am) Am () (fun _ _ _ _=>()) v
def asS(v:AV)(K:Nat→Nat→Prop):Prop:=AV.rec (motive_1:=fun _=>Prop) (motive_2:=fun _=>Unit)
 (fun _=>Am) (fun _ _=>Am) (fun l c=>K l c) Am (fun _ _=>Am) Am (fun _ _ _ _ _=>Am) Am (fun _=>Am) (fun _ _ _ _ _=>Am) Am (fun _ _ _=>Am) Am (fun _ _=>Am) (fun _ _=>Am) Am () (fun _ _ _ _=>()) v
def asP(v:AV)(K:P→Nat→Prop):Prop:=AV.rec (motive_1:=fun _=>Prop) (motive_2:=fun _=>Unit)
 (fun _=>Am) (fun _ _=>Am) (fun _ _=>Am) Am (fun b o=>K b o) Am (fun _ _ _ _ _=>Am) Am (fun _=>Am) (fun _ _ _ _ _=>Am) Am (fun _ _ _=>Am) Am (fun _ _=>Am) (fun _ _=>Am) Am () (fun _ _ _ _=>()) v
def asG(v:AV)(K:List AV→Prop):Prop:=AV.rec (motive_1:=fun _=>Prop) (motive_2:=fun _=>Unit)
 (fun _=>Am) (fun _ _=>Am) (fun _ _=>Am) Am (fun _ _=>Am) Am (fun _ _ _ _ _=>Am) Am (fun _=>Am) (fun _ _ _ _ _=>Am) Am (fun _ _ _=>Am) Am (fun cs _=>K cs) (fun _ _=>Am) Am () (fun _ _ _ _=>()) v
def asT(v:AV)(K:List AV→Prop):Prop:=AV.rec (motive_1:=fun _=>Prop) (motive_2:=fun _=>Unit)
 (fun _=>Am) (fun _ _=>Am) (fun _ _=>Am) Am (fun _ _=>Am) Am (fun _ _ _ _ _=>Am) Am (fun _=>Am) (fun _ _ _ _ _=>Am) Am (fun _ _ _=>Am) Am (fun _ _=>Am) (fun cs _=>K cs) Am () (fun _ _ _ _=>()) v
def Bgk(v:AV)(K:Fn→List AV→List AV→Prop):Prop:=AV.rec (motive_1:=fun _=>Prop) (motive_2:=fun _=>Unit)
 (fun _=>Am) (fun _ _=>Am) (fun _ _=>Am) Am (fun _ _=>Am) Am (fun _ _ _ _ _=>Am) Am (fun _=>Am) (fun fn a c _ _=>K fn a c) Am (fun _ _ _=>Am) Am (fun _ _=>Am) (fun _ _=>Am) Am () (fun _ _ _ _=>()) v
def Awn(o:Ob FT)(K:(Nat→AV)→LpS→LoopState→AX→Prop):Prop:=Ob.rec Am (fun _ _ _ _ _=>Am) (fun _ _=>Am) (fun _ _=>Am) (fun _ _ _=>Am) (fun f s st pd=>K f s st pd) (fun _ _ _ _=>Am) o
def one(v:AV)(K:Prop):Prop:=AV.rec (motive_1:=fun _=>Prop) (motive_2:=fun _=>Unit)
 (fun _=>K) (fun _ _=>K) (fun _ _=>K) K (fun _ _=>K) K (fun _ _ _ _ _=>K) K (fun _=>K) (fun _ _ _ _ _=>K) K (fun _ _ _=>K) K (fun _ _=>Am) (fun _ _=>Am) Am () (fun _ _ _ _=>()) v
def Gn(v:AV)(K:Nat→Prop):Prop:=AV.rec (motive_1:=fun _=>Prop) (motive_2:=fun _=>Unit)
 (fun _=>Am) (fun _ _=>Am) (fun _ _=>Am) Am (fun _ _=>Am) (K 0) (fun _ _ n _ _=>K n) Am (fun _=>Am) (fun _ _ _ _ _=>Am) Am (fun _ _ _=>Am) Am (fun _ _=>Am) (fun _ _=>Am) Am () (fun _ _ _ _=>()) v
def Dd(sz i:Nat)(v:AV)(K:AV→Prop):Prop:=AV.rec (motive_1:=fun _=>Prop) (motive_2:=fun _=>Unit)
 (fun _=>Am) (fun _ _=>Am) (fun _ _=>Am) Am (fun _ _=>Am) Am (fun b o n z _=>Bool.rec Am (fN (Nat.add o (Nat.mul i sz)) (fun q=>K (.ptr b q))) (Ai (Nat.ble (Nat.add i 1) n) (Nat.beq sz z))) Am (fun _=>Am) (fun _ _ _ _ _=>Am) Am (fun _ _ _=>Am) Am (fun _ _=>Am) (fun _ _=>Am) Am () (fun _ _ _ _=>()) v
end
def As(o:Nat)(v:AV)(K:AV→Prop):Prop:=asP v (fun b q=>fN (Nat.add q o) (fun q=>K (.ptr b q)))
def ld1(a:AV)(h:H)(K:AV→Prop):Prop:=asP a (fun b o=>h.Hg b o Am K)
def ldn(n:Nat)(a:AV)(h:H)(K:AV→Prop):Prop:=asP a (fun b o=>h.Ht b o n Am (fun l=>K (.agg l)))
def st1(a v:AV)(h:H)(K:H→Prop):Prop:=asP a (fun b o=>one v (h.He b o [v] Am K))
def stn(n:Nat)(a v:AV)(h:H)(K:H→Prop):Prop:=asP a (fun b o=>asG v (fun cs=>Bool.rec Am (h.He b o cs Am K) (Ai (Nat.beq (len cs) n) (Nat.ble 1 n))))
def Bkf(o:Nat)(v:AV)(K:AV→Prop):Prop:=asG v (fun cs=>oV (En cs o) K)
def Bke(o n:Nat)(v:AV)(K:AV→Prop):Prop:=asG v (fun cs=>K (.agg (Ja n (Qp o cs))))
def ext(i:Nat)(v:AV)(K:AV→Prop):Prop:=asT v (fun cs=>oV (En cs i) K)
def Bgj(o:Ob FT)(K:P→Nat→List Nat→Nat→Prop):Prop:=Ob.rec Am (fun _ _ _ _ _=>Am) (fun _ _=>Am) (fun _ _=>Am) (fun _ _ _=>Am) (fun _ _ _ _=>Am) (fun m since seen stepped=>K m since seen stepped) o
abbrev Ent:=AV×AV×Nat
def Ah1(n:Nat)(l:List Nat):Bool:=List.rec false (fun x _ ih=>Bool.rec ih true (Nat.beq x n)) l
def leftOf(seen:List Nat)(es:List Ent):List Ent:=List.rec [] (fun e _ ih=>Bool.rec (e::ih) ih (Ah1 e.2.2 seen)) es
def Alu(since:Nat)(l:List Ent):Bool:=List.rec true (fun e _ ih=>Bool.rec false ih (Nat.ble (Nat.add e.2.2 1) since)) l
def Agj(stepped:Nat)(l:List Ent):Bool:=List.rec false (fun e _ ih=>Bool.rec ih true (Nat.ble (Nat.add e.2.2 1) stepped)) l
def Aae{α:Type}(l:List α):Bool:=List.rec true (fun _ _ _=>false) l
def Apc(K:Ent→Prop)(l:List Ent):Prop:=List.rec True (fun e r ih=>List.rec (K e) (fun _ _ _=>And (K e) ih) r) l
def Bbh(b m:P)(since:Nat)(seen:List Nat)(es:List Ent)(clock:Nat)(h:H)(k:KV):Prop:=
 List.rec (k (.tuple [.bool false]) h) (fun e r _=>Apc (fun e=>h.Qa b (.Pg m since (Ks seen [e.2.2]) clock) (fun h=>k (.tuple [.bool true,e.1,e.2.1]) h)) (e::r)) (leftOf seen es)
def Atm(it:AV)(h:H)(k:KV):Prop:=asP it (fun b o=>Bool.rec Am (Bgj (h.at b) (fun m since seen stepped=>oV (Pp (h.at m)) (fun p=>Bool.rec Am (Bbh b m since seen p.1 p.2 h k)
 (Ai (Alu since (leftOf seen p.1)) (Bool.rec (Bool.rec (Agj stepped p.1) true (Aae p.1)) true (Aae seen)))))) (Nat.beq o 0))
section
variable(E:Env)
def eval'(o:Operand)(f:FT):AV:=eval (CP E) o f
def coD(d:TypeDesc)(v:AV)(K:AV→Prop):Prop:=match d with
 |.int k=>asI k v (fun n=>K (.int k n))
 |.bool=>asB v (fun b=>K (.bool b))
 |.string=>asS v (fun l c=>K (.str l c))
 |_=>K v
def coK(t:TypeId)(v:AV)(K:AV→Prop):Prop:=match E.ty t with
 |some ti=>coD ti.desc v K
 |none=>K v
def bI(op:BinOp)(k:IntKind)(a b:Int)(K:AV→Prop):Prop:=match op with
 |.add=>fI (wrap k (Cd a b)) (fun n=>K (.int k n))
 |.sub=>fI (wrap k (Hw a b)) (fun n=>K (.int k n))
 |.mul=>fI (wrap k (a*b)) (fun n=>K (.int k n))
 |.eql=>K (.bool (Ba a b))
 |.neq=>K (.bool (Cn (Ba a b)))
 |.lss=>K (.bool (Cl a b))
 |.leq=>K (.bool (Fw a b))
 |.gtr=>K (.bool (Cl b a))
 |.geq=>K (.bool (Fw b a))
 |.quo=>Akd k a b (fun n=>K (.int k n))
 |.rem=>Asb a b (fun n=>K (.int k n))
 |.shl=>Ap2 k a b (fun n=>K (.int k n))
 |.shr=>Bac k a b (fun n=>K (.int k n))
 |.and=>Abw Nat.land k a b (fun n=>K (.int k n))
 |.or=>Abw Nat.lor k a b (fun n=>K (.int k n))
 |.xor=>Abw Nat.xor k a b (fun n=>K (.int k n))
 |.andNot=>False
def bS(op:BinOp)(l c m d:Nat)(K:AV→Prop):Prop:=match op with
 |.add=>Abu l c m d (fun n e=>K (.str n e))
 |.eql=>K (.bool (Bg l c m d))
 |.neq=>K (.bool (Cn (Bg l c m d)))
 |.lss=>K (.bool (ltS l c m d))
 |.geq=>K (.bool (Cn (ltS l c m d)))
 |_=>False
def Aou(op:BinOp):Bool:=match op with
 |.shl=>true
 |.shr=>true
 |_=>false
def A70(op:BinOp)(k:IntKind)(y:AV)(K:Int→Prop):Prop:=match Aou op with
 |true=>Arc y K
 |false=>asI k y K
def A7w(op:BinOp)(t:TypeId)(d:TypeDesc)(x y:AV)(K:AV→Prop):Prop:=match d with
 |.int k=>asI k x (fun a=>A70 op k y (fun b=>bI op k a b K))
 |.string=>asS x (fun l c=>asS y (fun m d=>bS op l c m d K))
 |_=>oV (Jk E op t x y) K
def Awf(op:BinOp)(t:TypeId)(x y:AV)(K:AV→Prop):Prop:=match E.ty t with
 |some ti=>A7w E op t ti.desc x y K
 |none=>False
def Aq9(op:BinOp)(t:TypeId)(ox oy:Operand)(x y:AV)(K:AV→Prop):Prop:=Bool.rec (Awf E op t x y K) (oV (Alm E op t x y) K) (Alp E op t ox oy)
def un2(op:UnOp)(x:AV)(K:AV→Prop):Prop:=match op with
 |.not=>asB x (fun b=>K (.bool (Cn b)))
 |op=>oV (unA op x) K
def Aco(t:TypeId)(a:AV)(h:H)(K:AV→Prop):Prop:=match E.ty t with
 |some i=>match i.agg with
  |true=>ldn i.size a h K
  |false=>ld1 a h K
 |none=>False
def Aj0(t:TypeId)(a v:AV)(h:H)(K:H→Prop):Prop:=match E.ty t with
 |some i=>match i.agg with
  |true=>stn i.size a v h K
  |false=>match Nat.beq i.size 1 with
   |true=>st1 a v h K
   |false=>False
 |none=>False
def Ao3(t:TypeId)(i:Nat):Option (Nat×Nat×Bool):=match E.ty t with
 |some ti=>match ti.desc with
  |.struct fs=>match Nb fs.toList i with
   |some p=>match E.ty p.2 with
    |some fi=>some (p.1,fi.size,fi.agg)
    |none=>none
   |none=>none
  |_=>none
 |none=>none
def Aan(t:TypeId)(x:AV)(i:Nat)(K:AV→Prop):Prop:=match Ao3 E t i with
 |some p=>match p.2.2 with
  |true=>Bke p.1 p.2.1 x K
  |false=>Bkf p.1 x K
 |none=>False
def Ux(t:TypeId)(x:AV)(i:Nat)(K:AV→Prop):Prop:=match Wi E t i with
 |some o=>As o x K
 |none=>False
def Akj(v:AV)(K:Nat→Prop):Prop:=Arc v (fun n=>Bz n K)
def Mf(t:TypeId)(x i:AV)(h:H)(k:KV):Prop:=match Ro E t with
 |some e=>match E.ty e with
  |some ei=>Akj i (fun n=>Dd ei.size n x (fun v=>k v h))
  |none=>False
 |none=>oK (Cy E t x (Bl i) h) k
def Qk(t:TypeId)(x i:AV)(h:H)(k:KV):Prop:=match E.ty t with
 |some ti=>match isStr ti.desc with
  |true=>asS x (fun l c=>Akj i (fun n=>Ci l c n (fun b=>k (.int .u8 (.ofNat b)) h)))
  |false=>oK (Mh E t x (Bl i) h) k
 |none=>False
def Aib(ats:List TypeId)(d:TypeDesc)(x:AV)(h:H)(k:KV):Prop:=match d with
 |.string=>asS x (fun l _=>k (.int .i64 (.ofNat l)) h)
 |.slice _=>Gn x (fun n=>k (.int .i64 (.ofNat n)) h)
 |_=>oK (Vp E ats x h) k
def Aqj(ats:List TypeId)(x:AV)(h:H)(k:KV):Prop:=match En ats 0 with
 |some t=>match E.ty t with
  |some ti=>Aib E ats ti.desc x h k
  |none=>False
 |none=>False
def Kn(b:Builtin)(ats:List TypeId)(args:List AV)(h:H)(k:KV):Prop:=match b with
 |.len=>match args with
  |[x]=>Aqj E ats x h k
  |_=>False
 |b=>oK (Az E b ats args h) k
def Ey(t:TypeId):Bool:=match E.ty t with
 |some ti=>Oh ti.desc
 |none=>false
def Aat(s d:TypeId)(dd:TypeDesc)(x:AV)(h:H)(k:KV):Prop:=match dd with
 |.int kd=>match Ey E s with
  |true=>Arc x (fun n=>fI (wrap kd n) (fun n=>k (.int kd n) h))
  |false=>oK (Fz E h s d x) k
 |_=>oK (Fz E h s d x) k
def Vh(s d:TypeId)(x:AV)(h:H)(k:KV):Prop:=match E.ty d with
 |some ti=>Aat E s d ti.desc x h k
 |none=>False
def Aq6(o:Option AV)(d:Nat)(K:Nat→Prop):Prop:=match o with
 |some v=>Akj v K
 |none=>K d
def slice3(h:H)(t:TypeId)(x:AV)(lo hi mx:Option (Option Nat)):Option (AV×H):=Option.rec none (fun m=>Gd h (Ku E h t x lo hi m)) (Qh mx)
def Mm(t:TypeId)(x:AV)(lo hi mx:Option AV)(h:H)(k:KV):Prop:=match E.ty t with
 |some ti=>match isStr ti.desc with
  |true=>match mx with
   |none=>asS x (fun l c=>Aq6 hi l (fun hi=>Aq6 lo 0 (fun lo=>Fm l c lo hi (fun n d=>k (.str n d) h))))
   |some _=>False
  |false=>oK (slice3 E h t x (lo.map Bl) (hi.map Bl) (mx.map Bl)) k
 |none=>False
def Als(e:TypeId)(h:H)(k:KV):Prop:=match E.ty e with
 |some i=>h.Fi (rowOf e i.zero) (fun b h=>k (.ptr b 0) h)
 |none=>False
def Zy(t:TypeId)(x:AV)(h:H)(k:KV):Prop:=match E.ty t with
 |some ti=>match isIface ti.desc with
  |true=>False
  |false=>k (.iface t x) h
 |none=>False
def A7v(e:TypeId)(v:AV)(h:H)(k:KV):Prop:=match E.ty e with
 |some i=>match i.agg with
  |true=>asG v (fun cs=>Bool.rec Am (h.Fi (rowOf e cs) (fun b h=>k (.ptr b 0) h)) (Nat.ble 1 (len cs)))
  |false=>one v (h.Fi (rowOf e [v]) (fun b h=>k (.ptr b 0) h))
 |none=>False
def Azr(call:CF)(fv:AV)(args:List AV)(h:H)(k:KV):Prop:=Ac4 (CP E) call fv args h k
def inv2(call:CF)(fv:AV)(name:String)(args:List AV)(h:H)(k:KV):Prop:=Xl (CP E) call fv name args h k
def Hu(E:Env)(f:FT)(l:List Operand):List AV:=List.rec [] (fun x _ ih=>eval' E x f::ih) l
def Eb(o:Op)(call:CF)(f:FT)(h:H)(k:KV):Prop:=match o with
 |.move x=>k (eval' E x f) h
 |.assign x=>k (eval' E x f) h
 |.alloc e=>Als E e h k
 |.box e x=>A7v E e (eval' E x f) h k
 |.load t a=>Aco E t (eval' E a f) h (fun v=>k v h)
 |.store t a x=>Aj0 E t (eval' E a f) (eval' E x f) h (fun h=>k .undef h)
 |.binOp op t x y _=>Aq9 E op t x y (eval' E x f) (eval' E y f) (fun v=>k v h)
 |.unOp op _ x=>un2 op (eval' E x f) (fun v=>k v h)
 |.convert s d x=>Vh E s d (eval' E x f) h k
 |.makeInterface t x=>Zy E t (eval' E x f) h k
 |.slice t x lo hi mx=>Mm E t (eval' E x f) (lo.map (fun x=>eval' E x f)) (hi.map (fun x=>eval' E x f)) (mx.map (fun x=>eval' E x f)) h k
 |.fieldAddr t x i=>Ux E t (eval' E x f) i (fun v=>k v h)
 |.field t x i=>Aan E t (eval' E x f) i (fun v=>k v h)
 |.indexAddr t x i=>Mf E t (eval' E x f) (eval' E i f) h k
 |.index t x i=>Qk E t (eval' E x f) (eval' E i f) h k
 |.extract x i=>ext i (eval' E x f) (fun v=>k v h)
 |.call c=>match c.callee with
  |.builtin b=>Kn E b c.argTypes.toList (Hu E f c.args.toList) h k
  |.invoke r name=>inv2 E call (eval' E r f) name (Hu E f c.args.toList) h k
  |.value v=>Azr E call (eval' E v f) (Hu E f c.args.toList) h k
 |.makeFunc fn a b=>k (.func fn (Hu E f a.toList) (Hu E f b.toList)) h
 |o=>exec o (CP E) call f h k
def Auw(o:Op)(call:CF)(f:FT)(h:H)(k:KV):Prop:=match o with
 |.next x b=>match b with
  |false=>Atm (eval' E x f) h k
  |true=>Eb E (.next x true) call f h k
 |o=>Eb E o call f h k
end
inductive Its where
 |nil
 |op (o:Oper) (rest:Its)
 |grp (j:Nat) (gd:Tmp) (want:Bool) (body:Its) (pk:Oper) (rest:Its)
def Its.flat:Its→List Oper
 |.nil=>[]
 |.op o r=>o::r.flat
 |.grp _ _ _ b pk r=>b.flat++pk::r.flat
def Dm(f:FT)(d:Option Tmp)(v:AV):FT:=match d with
 |some d=>Ae f d v
 |none=>f
def Abo(l:List Oper)(f:FT):FT:=match l with
 |[]=>f
 |o::l=>Abo l (Dm f o.dst .top)
def Ata(o:Op):Option (Operand×Operand×Operand):=match o with
 |.pick c a b=>some (c,a,b)
 |_=>none
def Ef(w:Bool)(x y:Operand):Operand:=Bool.rec y x w
def A47 (E : Env) (w : Bool) (bf : List Oper) (pk : Oper) (t : Bool) (body rest : FT → H → (FT → H → Prop) → Prop) (f : FT) (h : H) (K : FT → H → Prop) : Prop := match Ata pk.op with
  | none => False
  | some (_, x, y) => Ao (fun kj => gate w t
        (body f h (fun f h => asB (eval' E (Ef w x y) f) (fun v => kj v h)))
        (asB (eval' E (Ef w y x) f) (fun v => kj v h)))
        (fun v h => rest (Dm (Abo bf f) pk.dst (.bool v)) h K)
def Gr(E:Env)(call:CF)(its:Its):FT→H→(FT→H→Prop)→Prop:=Its.rec (motive:=fun _=>FT→H→(FT→H→Prop)→Prop)
 (fun f h K=>K f h)
 (fun o _ ih f h K=>Auw E o.op call f h (fun v h=>coK E o.type v (fun v=>ih (Dm f o.dst v) h K)))
 (fun _ gd w b pk _ ihb ihr f h K=>asB (f gd) (fun t=>A47 E w b.flat pk t ihb ihr f h K)) its
def Gi(a b:Option (Nat×Bool)):Bool:=match a with
 |none=>match b with
  |none=>true
  |some _=>false
 |some (i,v)=>match b with
  |none=>false
  |some (j,w)=>and (Nat.beq i j) (Apj v w)
where Apj (v w:Bool):Bool:=match v with
 |true=>w
 |false=>match w with
  |true=>false
  |false=>true
def Ay3(ops:List Oper)(g:Option (Nat×Bool))(j:Nat):Option Tmp:=Option.rec none (fun o=>Bool.rec none o.dst (Gi o.guard g)) (En ops j)
abbrev Apq:=Option (Nat×Bool)→List Oper→Its×List Oper
def Ts(ops:List Oper)(ih:Apq):Apq:=fun g l=>List.rec (.nil,[])
 (fun o l' _=>Bool.rec
  (Option.rec (.nil,o::l') (fun p=>Option.rec (.nil,o::l') (fun gd=>
   Prod.rec (fun b r=>List.rec (.nil,o::l') (fun pk l'' _=>Prod.rec (fun q r=>(.grp p.1 gd p.2 b pk q,r)) (ih g l'')) r) (ih (some p) (o::l'))) (Ay3 ops g p.1)) o.guard)
  (Prod.rec (fun q r=>(.op o q,r)) (ih g l')) (Gi o.guard g)) l
def Hq(ops:List Oper)(n:Nat):Apq:=Nat.rec (motive:=fun _=>Apq) (fun _ l=>(.nil,l)) (fun _ ih=>Ts ops ih) n
def Aac(ops:List Oper):Option Its:=Prod.rec (fun q r=>List.rec (some q) (fun _ _ _=>none) r) (Hq ops (Nat.add (Nat.mul 2 (len ops)) 2) none ops)
def allEq(r:AV→AV→Bool)(xs:List AV):List AV→Bool:=List.rec (motive:=fun _=>List AV→Bool) (fun ys=>List.rec true (fun _ _ _=>false) ys) (fun x _ ih ys=>List.rec false (fun y ys _=>Ai (r x y) (ih ys)) ys) xs
def A5a(x y:Fn):Bool:=match x with
 |.func i=>match y with|.func j=>Nat.beq i j|_=>false
 |_=>false
def Awj(r:AV→AV→Bool)(x y:AV):Bool:=match x with
 |.bool a=>match y with|.bool b=>Aji a b|_=>false
 |.int k a=>match y with|.int j b=>Ai (Aii k j) (Ba a b)|_=>false
 |.str l c=>match y with|.str m d=>Ai (Nat.beq l m) (Nat.beq c d)|_=>false
 |.Gj=>match y with|.Gj=>true|_=>false
 |.ptr a i=>match y with|.ptr b j=>Ai (P.beq a b) (Nat.beq i j)|_=>false
 |.Af=>match y with|.Af=>true|_=>false
 |.slice a i n z t=>match y with|.slice b j m w u=>Ai (Ai (P.beq a b) (Nat.beq i j)) (Ai (Ai (Nat.beq n m) (Nat.beq z w)) (Aji t u))|_=>false
 |.Qg=>match y with|.Qg=>true|_=>false
 |.map a=>match y with|.map b=>P.beq a b|_=>false
 |.func f a c=>match y with|.func g b d=>Ai (A5a f g) (Ai (allEq r a b) (allEq r c d))|_=>false
 |.Uk=>match y with|.Uk=>true|_=>false
 |.iface t v=>match y with|.iface u w=>Ai (Nat.beq t u) (r v w)|_=>false
 |.Ia=>match y with|.Ia=>true|_=>false
 |.agg xs=>match y with|.agg ys=>allEq r xs ys|_=>false
 |.tuple xs=>match y with|.tuple ys=>allEq r xs ys|_=>false
 |_=>false
def Aa4(n:Nat):AV→AV→Bool:=Nat.rec (fun _ _=>false) (fun _ ih=>Awj ih) n
def eqC(x y:AV)(A:Prop):Prop:=Bool.rec Am A (Aa4 4 x y)
section
variable(E:Env)
def Ez(p:TypeDesc→Bool)(t:TypeId):Bool:=match E.ty t with
 |some ti=>p ti.desc
 |none=>false
def Qj(d:TypeDesc):Bool:=match d with
 |.slice _=>true
 |_=>false
def Hr(d:TypeDesc):Bool:=match d with
 |.slice _=>true
 |.string=>true
 |_=>false
def kindOf(o:Op):Nat:=match o with
 |.move _=>0
 |.assign _=>0
 |.binOp ..=>0
 |.unOp ..=>0
 |.fieldAddr ..=>0
 |.field ..=>0
 |.extract ..=>0
 |.makeInterface ..=>0
 |.makeFunc ..=>0
 |.index ..=>0
 |.indexAddr ..=>0
 |.nilCheck _=>0
 |.build ..=>0
 |.pick ..=>0
 |.slice t _ _ _ _=>Bool.rec 1 0 (Ez E Hr t)
 |.convert s d _=>Bool.rec (Bool.rec 1 2 (Ez E Qj d)) 0 (Ai (Ey E s) (Ey E d))
 |.load ..=>1
 |.lookup ..=>1
 |.call c=>match c.callee with
  |.builtin b=>match b with
   |.len=>match c.argTypes.toList with
    |t::_=>Bool.rec 1 0 (Ez E Hr t)
    |[]=>1
   |.cap=>1
   |.unsafeSliceData=>1
   |.min=>1
   |.max=>1
   |_=>2
  |_=>2
 |_=>2
inductive Dr where
 |nil
 |op (i:Nat) (o:Oper) (rl:List (Nat×Oper)) (rest:Dr)
 |grp (j:Nat) (gd:Tmp) (want:Bool) (body:Dr) (ip:Nat) (pk:Oper) (rest:Dr)
abbrev Tri:=Nat×Oper×List (Nat×Oper)
def Zc(l:List (Nat×Oper)):List Oper:=List.rec [] (fun p _ ih=>p.2::ih) l
abbrev Agk:=Option (Nat×Bool)→List Tri→Dr×List Tri
def Ra(ops:List Oper)(ih:Agk):Agk:=fun g l=>List.rec (.nil,[])
 (fun o l' _=>Bool.rec
  (Option.rec (.nil,o::l') (fun p=>Option.rec (.nil,o::l') (fun gd=>
   Prod.rec (fun b r=>List.rec (.nil,o::l') (fun pk l'' _=>Prod.rec (fun q r=>(.grp p.1 gd p.2 b pk.1 pk.2.1 q,r)) (ih g l'')) r) (ih (some p) (o::l'))) (Ay3 ops g p.1)) o.2.1.guard)
  (Prod.rec (fun q r=>(.op o.1 o.2.1 o.2.2 q,r)) (ih g l')) (Gi o.2.1.guard g)) l
def Gq(ops:List Oper)(n:Nat):Agk:=Nat.rec (motive:=fun _=>Agk) (fun _ l=>(.nil,l)) (fun _ ih=>Ra ops ih) n
def Nu(call:CF)(rl:List Oper)(f:FT)(h:H)(A:Prop):Prop:=List.rec A (fun o _ ih=>Eb E o.op call f h (fun v _=>coK E o.type v (fun v=>eqC v (Option.rec .undef f o.dst) ih))) rl
def Dr.Ve(its:Dr):List (Option Tmp):=Dr.rec [] (fun _ o _ _ ih=>o.dst::ih) (fun _ _ _ _ _ pk _ ihb ihr=>Ks ihb (pk.dst::ihr)) its
def Xu(l:List (Option Tmp))(f:FT):FT:=List.rec (motive:=fun _=>FT→FT) (fun f=>f) (fun d _ ih f=>ih (Dm f d .top)) l f
def A46 (w : Bool) (bd : List (Option Tmp)) (pk : Oper) (t : Bool) (body rest : FT → H → (FT → H → Prop) → Prop) (f : FT) (h : H) (K : FT → H → Prop) : Prop := match Ata pk.op with
  | none => False
  | some (_, x, y) => Ao (fun kj => gate w t
        (body f h (fun f h => asB (eval' E (Ef w x y) f) (fun v => kj v h)))
        (asB (eval' E (Ef w y x) f) (fun v => kj v h)))
        (fun v h => rest (Dm (Xu bd f) pk.dst (.bool v)) h K)
def Jr(call:CF)(its:Dr):FT→H→(FT→H→Prop)→Prop:=Dr.rec (motive:=fun _=>FT→H→(FT→H→Prop)→Prop)
 (fun f h K=>K f h)
 (fun _ o rl _ ih f h K=>Eb E o.op call f h (fun v h=>coK E o.type v (fun v=>Nu E call (Zc rl) (Dm f o.dst v) h (ih (Dm f o.dst v) h K))))
 (fun _ gd w b _ pk _ ihb ihr f h K=>asB (f gd) (fun t=>A46 E w b.Ve pk t ihb ihr f h K)) its
end
def Sw(acc:List Nat)(es:List Edge):Nat:=List.rec 0 (fun e _ ih=>Bool.rec ih (Nat.lor ih (Nat.lor (Nat.shiftLeft 1 e.on) (Option.rec 0 (fun m=>m) (En acc e.on)))) (Region.binds .any e)) es
def Ie(l:List Oper):List Nat→List Nat:=List.rec (motive:=fun _=>List Nat→List Nat) (fun acc=>acc) (fun o _ ih acc=>ih (Ks acc [Sw acc o.after.toList])) l
def bit(m i:Nat):Bool:=Nat.beq (Nat.mod (Nat.shiftRight m i) 2) 1
def Ap6(E:Env)(_ms:List Nat)(m:Nat)(g:Option (Nat×Bool))(done:List (Nat×Oper)):List (Nat×Oper):=List.rec [] (fun p _ ih=>Bool.rec ih (p::ih) (Ai (Nat.beq (kindOf E p.2.op) 1) (Ai (Bool.rec (Gi p.2.guard g) true (Gi p.2.guard none)) (Cn (bit m p.1))))) done
def Ur(o:Op):Bool:=match o with
 |.alloc _=>true
 |.makeMap _ r=>match r with
  |none=>true
  |some _=>false
 |.makeSlice _ _ _=>true
 |.buildSlice _ _ _=>true
 |_=>false
def Atq(o:Op)(ms:List Nat)(i:Nat)(pl:List Nat):Nat:=Bool.rec (Option.rec 0 (fun m=>m) (En ms i)) (Bool.rec 0 (Option.rec 0 (fun m=>m) (En ms i)) (List.rec true (fun j _ ih=>Bool.rec false ih (bit (Option.rec 0 (fun m=>m) (En ms j)) i)) pl)) (Ur o)
def triples(E:Env)(ops:List Oper)(ms pl:List Nat):List (Nat×Oper)→List Tri:=List.rec (motive:=fun _=>List (Nat×Oper)→List Tri) (fun _=>[])
 (fun i pl ih done=>Option.rec [] (fun o=>(i,o,Bool.rec [] (Ap6 E ms (Atq o.op ms i pl) o.guard done) (Nat.beq (kindOf E o.op) 2))::ih (Ks done [(i,o)])) (En ops i)) pl
def Aqw(E:Env)(ops:List Oper)(pl:List Nat):Option Dr:=Prod.rec (fun q r=>List.rec (some q) (fun _ _ _=>none) r) (Gq ops (Nat.add (Nat.mul 2 (len ops)) 2) none (triples E ops (Ie ops []) pl []))
abbrev Aw:=List (Nat×List Nat)
def Kv(ps:Aw)(id:Nat):Option (List Nat):=List.rec none (fun p _ ih=>Bool.rec ih (some p.2) (Nat.beq p.1 id)) ps
inductive Pos where
 |root
 |l (p:Pos)
 |r (p:Pos)
 |lab (p:Pos) (n:Nat)
def Pos.beq(p:Pos):Pos→Bool:=Pos.rec (motive:=fun _=>Pos→Bool)
 (fun q=>Pos.rec true (fun _ _=>false) (fun _ _=>false) (fun _ _ _=>false) q)
 (fun _ ih q=>Pos.rec false (fun q _=>ih q) (fun _ _=>false) (fun _ _ _=>false) q)
 (fun _ ih q=>Pos.rec false (fun _ _=>false) (fun q _=>ih q) (fun _ _ _=>false) q)
 (fun _ n ih q=>Pos.rec false (fun _ _=>false) (fun _ _=>false) (fun q m _=>Ai (Nat.beq n m) (ih q)) q) p
abbrev Bm:=List (Pos×Nat)
def cutAt(cs:Bm)(p:Pos):Option Nat:=List.rec none (fun c _ ih=>Bool.rec ih (some c.2) (Pos.beq c.1 p)) cs
abbrev Jump:=Nat→FT→H→Prop
abbrev KX':=AX→FT→H→Prop
def Ar2(ds:List Tmp):List AV→FT→FT:=List.rec (motive:=fun _=>List AV→FT→FT) (fun _ f=>f) (fun d _ ih vs f=>List.rec f (fun v vs _=>ih vs (Ae f d v)) vs) ds
def Aoz(E:Env)(fn:Fn):Bool:=match fn with
 |.func f=>match E.fn f with
  |some fn=>match fn.body with
   | some _ => !(fn.name == "runtime.NumGoroutine")
   |none=>false
  |none=>false
 |_=>false
def isReady(s:LoopState):Bool:=match s with
 |.ready=>true
 |_=>false
def Aym(s:LoopState):Bool:=match s with
 |.busy=>false
 |_=>true
def nOf(pls:Aw):Nat:=Option.rec 0 (fun l=>List.rec 0 (fun n _ _=>n) l) (Kv pls 4294967295)
def Ya(pls:Aw):List Nat:=Option.rec [] (fun l=>l) (Kv pls 4294967294)
def On(l:List Nat)(f:FT):FT:=List.rec (fun _=>.top) (fun t _ ih=>Ae ih t (f t)) l
def pFs(n:Nat):Nat→P:=Nat.rec (motive:=fun _=>Nat→P) (fun _=>.z) (fun _ ih m=>Bool.rec (Bool.rec (.r (ih (Nat.div (Nat.sub m 2) 2))) (.l (ih (Nat.div (Nat.sub m 1) 2))) (Nat.beq (Nat.mod m 2) 1)) .z (Nat.beq m 0)) n
def Bdd(l:P)(K:AX→H→Prop)(h:H):Prop:=Awn (h.at l) (fun f' s st pd=>Bool.rec Am (h.Qa l (.loop f' s .exhausted pd) (fun h=>K pd h)) (Aym st))
def Asf(E:Env)(call:CF)(lp:LpS)(g:AV)(f:FT)(h:H)(K:AX→H→Prop):Prop:=
 Bgk g (fun fn a c=>Bool.rec Am (h.Fi (.loop f lp .ready .normal) (fun l h=>call fn (a++[.func (.yield l.nat) [] []]++c) h (fun _ h=>Bdd l K h))) (Aoz E fn))
def Ara(x y:AX):Bool:=match x with
 |.normal=>match y with|.normal=>true|_=>false
 |.exit i=>match y with|.exit j=>Nat.beq i j|_=>false
 |.goto i=>match y with|.goto j=>Nat.beq i j|_=>false
 |.ret=>match y with|.ret=>true|_=>false
def Bi4(x:AX)(l:List AX):Bool:=List.rec false (fun y _ ih=>Bool.rec ih true (Ara x y)) l
def Bfv(l:List AX):List AX:=List.rec [] (fun x _ ih=>Bool.rec (x::ih) ih (Bi4 x ih)) l
def Bfs(id:Nat)(l:List AX):List AX:=List.rec [] (fun x _ ih=>Bool.rec (x::ih) ih (Ara x (.exit id))) l
def Ao7(c:Code):List AX:=Code.rec (motive:=fun _=>List AX) [] (fun _ _ _=>[]) (fun _ _ x y=>Ks x y) (fun _ _ _ x y=>Ks x y) (fun id _ x=>Bfs id x) (fun _ x=>x)
 (fun _ _ _ _ x y=>Ks x y) (fun id=>[.exit id]) (fun _ x=>x) (fun _=>[]) (fun l=>[.goto l]) [.ret] (fun _=>[]) c
def Aoi(x:AX)(l:List AX)(K:AX→Prop):Prop:=List.rec False (fun y _ ih=>cnd (Ara x y) (K y) ih) l
def opsOf(c:Code):Array Oper:=match c with
 |.region _ ops _=>ops
 |_=>#[]
def Aue(c:Code):Nat:=match c with
 |.region id _ _=>id
 |_=>0
def Afd(l:List Oper)(i:Nat):Oper:=Option.rec ⟨none,.move (.tmp 0),0,default,#[],none⟩ (fun o=>o) (En l i)
def A1m(o:Oper):Array TypeId:=match o.op with
 |.defer c=>c.argTypes
 |_=>#[]
theorem Azx{x y:AX}(h:Ara x y=true):x=y:=by
 cases x<;>cases y<;>first|rfl|cases h|(rw[Nat.eq_of_beq_eq_true (show Nat.beq _ _=true from h)])
theorem Ach{x:AX}{K:AX→Prop}:∀{l:List AX},Aoi x l K→K x
 |[],h=>h.elim
 |y::l,h=>by
  have h:cnd (Ara x y) (K y) (Aoi x l K):=h
  cases e:Ara x y with
  |true=>rw[e] at h;rw[Azx e];exact h
  |false=>rw[e] at h;exact Ach h
def Wm(c:Code)(p:Pos):Code:=Pos.rec c
 (fun _ ih=>match ih with|.seq a _=>a|.cond _ a _=>a|.block _ a=>a|.loop a=>a|.scope a=>a|_=>.skip)
 (fun _ ih=>match ih with|.seq _ b=>b|.cond _ _ b=>b|_=>.skip)
 (fun _ n ih=>match ih with|.scope a=>Option.rec .skip (fun c=>c) (findLabel a n)|_=>.skip) p
section
variable(E:Env)(call:CF)(pls:Aw)(cuts:Bm)(J:Jump)
def enter(p:Pos)(f:FT)(h:H)(A:Prop):Prop:=Option.rec A (fun L=>J L f h) (cutAt cuts p)
def A21(B:FT→H→KX'→Prop)(K:KX'):KX':=fun x f h=>AX.rec (B f h K) (fun id=>K (.exit id) f h) (fun l=>K (.goto l) f h) (K .ret f h) x
def Alk(id:Nat)(K:KX'):KX':=fun x f h=>AX.rec (K .normal f h) (fun j=>Bool.rec (K (.exit j) f h) (K .normal f h) (Nat.beq j id)) (fun l=>K (.goto l) f h) (K .ret f h) x
def Ats(B:FT→H→Prop)(K:KX'):KX':=fun x f h=>AX.rec (B f h) (fun id=>K (.exit id) f h) (fun l=>K (.goto l) f h) (K .ret f h) x
def Zf(c:Code)(B:Nat→FT→H→Prop)(K:KX'):KX':=fun x f h=>AX.rec (K .normal f h) (fun id=>K (.exit id) f h) (fun l=>Option.rec (K (.goto l) f h) (fun _=>B l f h) (findLabel c l)) (K .ret f h) x
def Bft(id:Nat)(ops:List Oper)(f:FT)(h:H)(K:FT→H→Prop):Prop:=oV (Kv pls id) (fun pl=>List.rec False (fun _ _ _=>oV (Aqw E ops pl) (fun its=>Jr E call its f h K)) pl)
def Bai(id:Nat)(ops:List Oper)(d:Bool)(f:FT)(h:H)(K:FT→H→Prop):Prop:=Bool.rec (Option.rec (oV (Aac ops) (fun its=>Gr E call its f h K)) (fun _=>False) (Kv pls id)) (Bft E call pls id ops f h K) d
abbrev Pq:=Pos→FT→H→KX'→Prop
def Baf(a b:Pq):Pq:=fun p f h K=>a (.l p) f h (A21 (b (.r p)) K)
def A0a(c:Operand)(a b:Pq):Pq:=fun p f h K=>asB (eval' E c f) (fun t=>Bool.rec (b (.r p) f h K) (a (.l p) f h K) t)
def Ar5(id:Nat)(a:Pq):Pq:=fun p f h K=>a (.l p) f h (Alk id K)
def Az9(a:Pq):Pq:=fun p f h K=>a (.l p) f h (Ats (fun f h=>enter cuts J p f h False) K)
def Ar3(c:Code)(a:Pq):Pq:=fun p f h K=>a (.l p) f h (Zf c (fun l f h=>enter cuts J (.lab p l) f h False) K)
def Bag(id:Nat)(ops:List Oper)(d:Bool):Pq:=fun _ f h K=>Bai E call pls id ops d f h (fun f h=>K .normal f h)
def Ar4(g:Operand)(ps:Array Tmp)(as bd:Code):Pq:=fun _ f h K=>Asf E call ⟨ps.toList,as,bd,pls,nOf pls⟩ (eval' E g f) (On (Ya pls) f) h (fun x h=>Aoi x (.normal::Bfv (Ao7 bd)) (fun y=>K y f h))
def Pc(a:Pq):Pq:=fun p f h K=>enter cuts J p f h (a p f h K)
def Zk(c:Code):Pq:=Code.rec (motive:=fun _=>Pq)
 (Pc cuts J (fun _ f h K=>K .normal f h)) (fun id ops d=>Pc cuts J (Bag E call pls id ops.toList d)) (fun _ _ a b=>Pc cuts J (Baf a b)) (fun c _ _ a b=>Pc cuts J (A0a E c a b)) (fun id _ a=>Pc cuts J (Ar5 id a)) (fun _ a=>Pc cuts J (Az9 cuts J a))
 (fun g ps as bd _ _=>Pc cuts J (Ar4 E call pls g ps as bd)) (fun id=>Pc cuts J (fun _ f h K=>K (.exit id) f h)) (fun c a=>Pc cuts J (Ar3 cuts J c a)) (fun _=>Pc cuts J (fun _ f h K=>K .normal f h)) (fun l=>Pc cuts J (fun _ f h K=>K (.goto l) f h)) (Pc cuts J (fun _ f h K=>K .ret f h)) (fun _=>fun _ _ _ _=>False) c
def Az7(c:Code):Pq:=Code.rec (motive:=fun _=>Pq)
 (fun _ f h K=>K .normal f h) (fun id ops d=>Bag E call pls id ops.toList d) (fun a b _ _=>Baf (Zk E call pls cuts J a) (Zk E call pls cuts J b)) (fun c a b _ _=>A0a E c (Zk E call pls cuts J a) (Zk E call pls cuts J b)) (fun id a _=>Ar5 id (Zk E call pls cuts J a)) (fun a _=>Az9 cuts J (Zk E call pls cuts J a))
 (fun g ps as bd _ _=>Ar4 E call pls g ps as bd) (fun id=>fun _ f h K=>K (.exit id) f h) (fun c _=>Ar3 cuts J c (Zk E call pls cuts J c)) (fun _=>fun _ f h K=>K .normal f h) (fun l=>fun _ f h K=>K (.goto l) f h) (fun _ f h K=>K .ret f h) (fun _=>fun _ _ _ _=>False) c
abbrev CK:=Option (Code×KX')
def ckL(p:Pos)(c:Code)(K:KX'):CK:=Code.rec (motive:=fun _=>CK) none (fun _ _ _=>none) (fun a b _ _=>some (a,A21 (Zk E call pls cuts J b (.r p)) K)) (fun _ a _ _ _=>some (a,K)) (fun id a _=>some (a,Alk id K))
 (fun a _=>some (a,Ats (fun f h=>enter cuts J p f h False) K)) (fun _ _ _ _ _ _=>none) (fun _=>none) (fun a _=>some (a,Zf a (fun l f h=>enter cuts J (.lab p l) f h False) K)) (fun _=>none) (fun _=>none) none (fun _=>none) c
def ckR(c:Code)(K:KX'):CK:=Code.rec (motive:=fun _=>CK) none (fun _ _ _=>none) (fun _ b _ _=>some (b,K)) (fun _ _ b _ _=>some (b,K)) (fun _ _ _=>none)
 (fun _ _=>none) (fun _ _ _ _ _ _=>none) (fun _=>none) (fun _ _=>none) (fun _=>none) (fun _=>none) none (fun _=>none) c
def A0x(p:Pos)(n:Nat)(c:Code)(K:KX'):CK:=Code.rec (motive:=fun _=>CK) none (fun _ _ _=>none) (fun _ _ _ _=>none) (fun _ _ _ _ _=>none) (fun _ _ _=>none)
 (fun _ _=>none) (fun _ _ _ _ _ _=>none) (fun _=>none) (fun a _=>Option.rec none (fun r=>some (r,Zf a (fun l f h=>enter cuts J (.lab p l) f h False) K)) (findLabel a n)) (fun _=>none) (fun _=>none) none (fun _=>none) c
def Vj(c0:Code)(K0:KX')(p:Pos):CK:=Pos.rec (some (c0,K0))
 (fun p ih=>Option.rec none (fun q=>ckL E call pls cuts J p q.1 q.2) ih) (fun _ ih=>Option.rec none (fun q=>ckR q.1 q.2) ih) (fun p n ih=>Option.rec none (fun q=>A0x cuts J p n q.1 q.2) ih) p
def Im(c0:Code)(K0:KX')(p:Pos)(f:FT)(h:H):Prop:=Option.rec False (fun q=>Az7 E call pls cuts J q.1 p f h q.2) (Vj E call pls cuts J c0 K0 p)
def noJ:Jump:=fun _ _ _=>False
def Bkk(l:P)(k:KV):KX':=fun x _ h=>Awn (h.at l) (fun f s _ _=>AX.rec (h.Qa l (.loop f s .ready .normal) (fun h=>k (.bool true) h)) (fun id=>h.Qa l (.loop f s .done (.exit id)) (fun h=>k (.bool false) h))
 (fun t=>h.Qa l (.loop f s .done (.goto t)) (fun h=>k (.bool false) h)) (h.Qa l (.loop f s .done .ret) (fun h=>k (.bool false) h)) x)
def Bi3(l:P)(s:LpS)(k:KV):KX':=fun x f h=>AX.rec (Awn (h.at l) (fun f' s' st pd=>Bool.rec Am (h.Qa l (.loop f' s' .busy pd) (fun h=>Zk E call s.pls [] noJ s.body .root f h (Bkk l k))) (isReady st))) (fun _=>False) (fun _=>False) False x
def A1v(chk:LpS→Bool)(l:P)(args:List AV)(h:H)(k:KV):Prop:=Awn (h.at l) (fun f s _ _=>Bool.rec Am (Zk E call s.pls [] noJ s.assign .root (Ar2 s.params args f) h (Bi3 E call l s k)) (Ai (chk s) (Nat.beq (len args) (len s.params))))
def Ajr(chk:LpS→Bool)(n:Nat)(args:List AV)(h:H)(k:KV):Prop:=Bool.rec Am (A1v E call chk (pFs 64 n) args h k) (Nat.beq (P.nat (pFs 64 n)) n)
def A26(f:FT)(h:H)(r:ResultVar)(k:AV→Prop):Prop:=ResultVar.rec (fun t=>k (f t)) (fun a t=>Aco E t (f a) h k) r
def Acb(f:FT)(h:H)(rs:List ResultVar):(List AV→Prop)→Prop:=List.rec (motive:=fun _=>(List AV→Prop)→Prop) (fun k=>k []) (fun r _ ih k=>A26 E f h r (fun v=>ih (fun l=>k (v::l)))) rs
def Ags(l:List AV):AV:=List.rec (.tuple []) (fun v r _=>List.rec v (fun _ _ _=>.tuple (v::r)) r) l
def Dh(rs:List ResultVar)(k:KV):KX':=fun x f h=>AX.rec (Acb E f h rs (fun l=>k (Ags l) h)) (fun _=>False) (fun _=>False) (Acb E f h rs (fun l=>k (Ags l) h)) x
end
end Go.Den
namespace Go.Den
open Go.RowKit
theorem Bc3(n:Nat)(K:Nat→Prop):fN n K=K n:=rfl
theorem Al(n:Int)(K:Int→Prop):fI n K=K n:=by cases n<;>rfl
theorem Er:¬Am:=fun h=>h
theorem Aow{a b:IntKind}(h:Aii a b=true):a=b:=by cases a<;>cases b<;>first|rfl|cases h
theorem Rv{k:IntKind}{v:AV}{K:Int→Prop}(h:asI k v K):∃n,v=.int k n∧K n:=by
 cases v<;>try exact(Er h).elim
 rename_i j n
 have h:(Bool.rec Am (K n) (Aii k j):Prop):=h
 cases hk:Aii k j with
 |false=>rw[hk] at h;exact(Er h).elim
 |true=>rw[hk] at h;cases Aow hk;exact⟨n,rfl,by assumption⟩
theorem Vr{v:AV}{K:Int→Prop}(h:Arc v K):∃k n,v=.int k n∧K n:=by
 cases v<;>first|exact(Er h).elim|exact⟨_,_,rfl,h⟩
theorem Hi{v:AV}{K:Bool→Prop}(h:asB v K):∃b,v=.bool b∧K b:=by
 cases v<;>first|exact(Er h).elim|exact⟨_,rfl,h⟩
theorem Lh{v:AV}{K:Nat→Nat→Prop}(h:asS v K):∃l c,v=.str l c∧K l c:=by
 cases v<;>first|exact(Er h).elim|exact⟨_,_,rfl,h⟩
theorem Ml{v:AV}{K:P→Nat→Prop}(h:asP v K):∃b o,v=.ptr b o∧K b o:=by
 cases v<;>first|exact(Er h).elim|exact⟨_,_,rfl,h⟩
theorem Vs{v:AV}{K:List AV→Prop}(h:asG v K):∃cs,v=.agg cs∧K cs:=by
 cases v<;>first|exact(Er h).elim|exact⟨_,rfl,h⟩
theorem Apm{v:AV}{K:List AV→Prop}(h:asT v K):∃cs,v=.tuple cs∧K cs:=by
 cases v<;>first|exact(Er h).elim|exact⟨_,rfl,h⟩
theorem Awo{v:AV}{K:Fn→List AV→List AV→Prop}(h:Bgk v K):∃fn a c,v=.func fn a c∧K fn a c:=by
 cases v<;>first|exact(Er h).elim|exact⟨_,_,_,rfl,h⟩
theorem Vq{o:Ob FT}{K:(Nat→AV)→LpS→LoopState→AX→Prop}(h:Awn o K):∃f s st pd,o=.loop f s st pd∧K f s st pd:=by
 cases o<;>first|exact(Er h).elim|exact⟨_,_,_,_,rfl,h⟩
theorem Aol{v:AV}{K:Prop}(h:one v K):v.one=true∧v.cells=[v]∧K:=by
 cases v<;>first|exact(Er h).elim|exact⟨rfl,rfl,h⟩
theorem Nz{α:Type}{o:Option α}{K:α→Prop}(h:oV o K):∃v,o=some v∧K v:=by
 cases o with
 |none=>exact h.elim
 |some v=>exact⟨v,rfl,h⟩
theorem Mz{n:Int}{K:Nat→Prop}(h:Bz n K):∃m,n=Int.ofNat m∧K m:=by
 cases n with
 |ofNat m=>exact⟨m,rfl,h⟩
 |negSucc m=>exact h.elim
theorem Zx{v:AV}{K:Nat→Prop}(h:Akj v K):∃m,Bl v=some m∧K m:=by
 obtain⟨k,n,rfl,h⟩:=Vr h
 obtain⟨m,rfl,h⟩:=Mz h
 exact⟨m,rfl,h⟩
theorem Yh{c:Bool}{K:Prop}(h:(Bool.rec False K c:Prop)):c=true∧K:=by
 cases c with
 |false=>exact h.elim
 |true=>exact⟨rfl,h⟩
theorem Fv{c:Bool}{K:Prop}(h:(Bool.rec Am K c:Prop)):c=true∧K:=by
 cases c with
 |false=>exact(Er h).elim
 |true=>exact⟨rfl,h⟩
theorem Ahw{c:Bool}{K:Prop}(h:(Bool.rec K False c:Prop)):c=false∧K:=by
 cases c with
 |true=>exact h.elim
 |false=>exact⟨rfl,h⟩
theorem Att{v:AV}{K:Nat→Prop}(h:Gn v K):(v=.Af∧K 0)∨∃b o n z t,v=.slice b o n z t∧K n:=by
 cases v<;>first|exact(Er h).elim|exact .inl ⟨rfl,h⟩|exact .inr ⟨_,_,_,_,_,rfl,h⟩
theorem Aqu{sz i:Nat}{v:AV}{K:AV→Prop}(h:Dd sz i v K):∃b o n t,v=.slice b o n sz t∧Nat.ble (Nat.add i 1) n=true∧K (.ptr b (Nat.add o (Nat.mul i sz))):=by
 cases v<;>try exact(Er h).elim
 rename_i b o n z t
 obtain⟨hc,h⟩:=Fv (show(Bool.rec Am (fN (Nat.add o (Nat.mul i sz)) (fun q=>K (.ptr b q))) (Ai (Nat.ble (Nat.add i 1) n) (Nat.beq sz z)):Prop) from h)
 obtain⟨h1,h2⟩:=Ag hc
 have e:=Bk h2
 subst e
 exact⟨b,o,n,t,rfl,h1,by assumption⟩
theorem Bbg(E:Env)(k:KV)(o:Option (AV×H)):oK o k=Dy (CP E) k o:=rfl
theorem Ad(k:KV)(v:AV)(h:H):oK (some (v,h)) k=k v h:=by
 obtain⟨m,n⟩:=h
 show Ca v (fun v=>Jz m (fun m=>k v ⟨m,n⟩))=_
 rw[Cc,Iu]
theorem Atj{k:KV}{o:Option (AV×H)}(h:oK o k):∃v h',o=some (v,h')∧k v h':=by
 cases o with
 |none=>exact h.elim
 |some p=>obtain⟨v,h'⟩:=p;rw[Ad] at h;exact⟨v,h',rfl,h⟩
section
variable{E:Env}
theorem Azk{d:TypeDesc}{v:AV}{K:AV→Prop}(h:coD d v K):K v:=by
 unfold coD at h
 split at h
 · obtain⟨n,rfl,h2⟩:=Rv h;exact h2
 · obtain⟨b,rfl,h2⟩:=Hi h;exact h2
 · obtain⟨l,c,rfl,h2⟩:=Lh h;exact h2
 · exact h
theorem Vk{t:TypeId}{v:AV}{K:AV→Prop}(h:coK E t v K):K v:=by
 unfold coK at h
 split at h
 · exact Azk h
 · exact h
theorem Aa0{op:BinOp}{k:IntKind}{a b:Int}{g:Nat→Nat→Nat}(hg:∀x y,Aje op k x y=some (.int k (.ofNat (g x y)))){K:AV→Prop}(h:Abw g k a b (fun n=>K (.int k n))):∃v,Ajd op k a b=some v∧K v:=by
 obtain⟨x,rfl,h⟩:=Mz h
 obtain⟨y,rfl,h⟩:=Mz h
 obtain⟨hc,h⟩:=Yh h
 refine⟨_,?_,h⟩
 show(Bool.rec none (Aje op k x y) (Ai (Nat.ble x (intMax k)) (Nat.ble y (intMax k))):Option AV)=_
 rw[hc,hg]
theorem Awi{op:BinOp}{k:IntKind}{a b:Int}{K:AV→Prop}(h:bI op k a b K):∃v,Aa2 op k a b=some v∧K v:=by
 cases op<;>simp only[bI] at h
 case add=>rw[Al] at h;exact⟨_,rfl,h⟩
 case sub=>rw[Al] at h;exact⟨_,rfl,h⟩
 case mul=>rw[Al] at h;exact⟨_,rfl,h⟩
 case quo=>
  obtain⟨hc,h⟩:=Ahw h
  rw[Al] at h
  refine⟨_,?_,h⟩
  show A43 k a b=_
  unfold A43;rw[hc];rfl
 case rem=>
  obtain⟨hc,h⟩:=Ahw h
  rw[Al] at h
  refine⟨_,?_,h⟩
  show A42 k a b=_
  unfold A42;rw[hc]
 case and=>exact Aa0 (fun _ _=>rfl) h
 case or=>exact Aa0 (fun _ _=>rfl) h
 case xor=>exact Aa0 (fun _ _=>rfl) h
 case shl=>
  obtain⟨m,rfl,h2⟩:=Mz h
  rw[Al] at h2
  exact⟨_,rfl,h2⟩
 case shr=>
  obtain⟨m,rfl,h2⟩:=Mz h
  rw[Al] at h2
  exact⟨_,rfl,h2⟩
 case eql=>exact⟨_,rfl,h⟩
 case neq=>exact⟨_,rfl,h⟩
 case lss=>exact⟨_,rfl,h⟩
 case leq=>exact⟨_,rfl,h⟩
 case gtr=>exact⟨_,rfl,h⟩
 case geq=>exact⟨_,rfl,h⟩
theorem A7z{op:BinOp}{l c m d:Nat}{K:AV→Prop}(h:bS op l c m d K):∃v,Agg op l c m d=some v∧K v:=by
 cases op<;>simp only[bS] at h
 case add=>
  obtain⟨hc,h⟩:=Yh h
  refine⟨_,?_,h⟩
  show(Bool.rec none _ (Nat.ble (Nat.add l m) (intMax .i64)):Option AV)=_
  rw[hc]
 all_goals exact⟨_,rfl,h⟩
theorem Awe{op:BinOp}{t:TypeId}{x y:AV}{K:AV→Prop}(h:Awf E op t x y K):∃v,Jk E op t x y=some v∧K v:=by
 unfold Awf at h
 split at h
 · unfold A7w at h
   split at h
   · obtain⟨a,rfl,h2⟩:=Rv h
     clear h
     unfold A70 at h2
     rename_i k _
     cases hs:Aou op with
     |true=>
      rw[hs] at h2
      obtain⟨j,b,rfl,h3⟩:=Vr h2
      obtain⟨v,hv,h4⟩:=Awi h3
      refine⟨v,?_,h4⟩
      show(Bool.rec none (Aa2 op k a b) (sameKind op k j):Option AV)=_
      have:sameKind op k j=true:=by cases op<;>first|rfl|cases hs
      rw[this];exact hv
     |false=>
      rw[hs] at h2
      obtain⟨b,rfl,h3⟩:=Rv h2
      obtain⟨v,hv,h4⟩:=Awi h3
      refine⟨v,?_,h4⟩
      show(Bool.rec none (Aa2 op k a b) (sameKind op k k):Option AV)=_
      have:sameKind op k k=true:=by cases op<;>first|rfl|exact decide_eq_true rfl
      rw[this];exact hv
   · obtain⟨l,c,rfl,h2⟩:=Lh h
     obtain⟨m,d,rfl,h3⟩:=Lh h2
     obtain⟨v,hv,h4⟩:=A7z h3
     exact⟨v,hv,h4⟩
   · exact Nz h
 · exact h.elim
theorem Awd{op:BinOp}{t:TypeId}{ox oy:Operand}{x y:AV}{K:AV→Prop}(h:Aq9 E op t ox oy x y K):∃v,Ajf E op t ox oy x y=some v∧K v:=by
 unfold Aq9 at h
 unfold Ajf
 cases ha:Alp E op t ox oy with
 |false=>rw[ha] at h;exact Awe h
 |true=>
  rw[ha] at h
  have h:oV (Alm E op t x y) K:=h
  show∃v,Alm E op t x y=some v∧K v
  cases hb:Alm E op t x y with
  |none=>rw[hb] at h;exact h.elim
  |some v=>rw[hb] at h;exact⟨v,rfl,h⟩
theorem Axz{op:UnOp}{x:AV}{K:AV→Prop}(h:un2 op x K):∃v,unA op x=some v∧K v:=by
 unfold un2 at h
 split at h
 · obtain⟨b,rfl,h2⟩:=Hi h
   refine⟨_,rfl,?_⟩
   cases b<;>exact h2
 · exact Nz h
end
end Go.Den
namespace Go.Den
open Go.RowKit
section
variable{E:Env}{call:CF}{f:FT}{h:H}{k:KV}
theorem Ig{o:Option (AV×H)}{v:AV}{h':H}(e:o=some (v,h'))(hk:k v h'):Dy (CP E) k o:=by
 rw[e,←Bbg,Ad];exact hk
theorem Qo{l:List Operand}:Hu E f l=l.map fun x=>eval (CP E) x f:=by
 induction l with
 |nil=>rfl
 |cons x l ih=>show eval' E x f::Hu E f l=_;rw[ih];rfl
theorem Arf{e:TypeId}(hg:Als E e h k):Dy (CP E) k (Yn e (E.ty e) h):=by
 unfold Als at hg
 split at hg
 · rename_i i hi
   rw[Ri] at hg
   refine Ig ?_ hg
   rw[hi];rfl
 · exact hg.elim
theorem Ah9{t:TypeId}{a:AV}(hg:Aco E t a h (fun v=>k v h)):(Xw.rec False (fun b off=>Option.rec False (fun i=>Sx (CP E) h k b off i) (E.ty t)) (So a):Prop):=by
 unfold Aco at hg
 split at hg
 · rename_i i hi
   split at hg
   · rename_i ha
     obtain⟨b,o,rfl,hg⟩:=Ml hg
     show(Option.rec False (fun i=>Sx (CP E) h k b o i) (E.ty t):Prop)
     rw[hi]
     show(Bool.rec _ (h.Ht b o i.size False (fun l=>k (.agg l) h)) i.agg:Prop)
     rw[ha];exact hg
   · rename_i ha
     obtain⟨b,o,rfl,hg⟩:=Ml hg
     show(Option.rec False (fun i=>Sx (CP E) h k b o i) (E.ty t):Prop)
     rw[hi]
     show(Bool.rec (h.Hg b o False (fun v=>k v h)) _ i.agg:Prop)
     rw[ha];exact hg
 · exact hg.elim
theorem Apw{t:TypeId}{a v:AV}(hg:Aj0 E t a v h (fun h=>k .undef h)):(Xw.rec False (fun b off=>Option.rec False (fun i=>Ca v (fun v=>Nt (CP E) h k b off v i)) (E.ty t)) (So a):Prop):=by
 unfold Aj0 at hg
 split at hg
 · rename_i i hi
   split at hg
   · obtain⟨b,o,rfl,hg⟩:=Ml hg
     obtain⟨cs,rfl,hg⟩:=Vs hg
     obtain⟨hc,hg⟩:=Fv hg
     show(Option.rec False (fun i=>Ca (.agg cs) (fun v=>Nt (CP E) h k b o v i)) (E.ty t):Prop)
     rw[hi]
     show Ca (.agg cs) (fun v=>Nt (CP E) h k b o v i)
     rw[Cc]
     show(Bool.rec False (h.He b o cs False (fun h=>k .undef h)) (Ai (Nat.beq (len cs) i.size) (Nat.ble 1 i.size)):Prop)
     rw[hc];exact hg
   · split at hg
     · rename_i hs
       obtain⟨b,o,rfl,hg⟩:=Ml hg
       obtain⟨h1,h2,hg⟩:=Aol hg
       show(Option.rec False (fun i=>Ca v (fun v=>Nt (CP E) h k b o v i)) (E.ty t):Prop)
       rw[hi]
       show Ca v (fun v=>Nt (CP E) h k b o v i)
       rw[Cc]
       show(Bool.rec False (h.He b o v.cells False (fun h=>k .undef h)) (Ai (Nat.beq (len v.cells) i.size) (Nat.ble 1 i.size)):Prop)
       rw[h2,Bk hs];exact hg
     · exact hg.elim
 · exact hg.elim
theorem Azu{e:TypeId}{v:AV}(hg:A7v E e v h k):Ca v (fun v=>(Bool.rec False (h.Fi (rowOf e v.cells) (fun b h=>k (.ptr b 0) h)) (Nat.ble 1 (len v.cells)):Prop)):=by
 rw[Cc]
 unfold A7v at hg
 split at hg
 · split at hg
   · obtain⟨cs,rfl,hg⟩:=Vs hg
     exact hg
   · obtain⟨h1,h2,hg⟩:=Aol hg
     rw[h2];exact hg
 · exact hg.elim
theorem Ak1{t:TypeId}{x:AV}{i:Nat}(hg:Ux E t x i (fun v=>k v h)):(Xw.rec False (fun b off=>Option.rec False (fun o=>k (.ptr b (Nat.add off o)) h) (Wi E t i)) (So x):Prop):=by
 unfold Ux at hg
 split at hg
 · rename_i o ho
   obtain⟨b,q,rfl,hg⟩:=Ml hg
   show(Option.rec False (fun o=>k (.ptr b (Nat.add q o)) h) (Wi E t i):Prop)
   rw[ho];exact hg
 · exact hg.elim
theorem Aqr{t:TypeId}{x:AV}{i:Nat}(hg:Aan E t x i (fun v=>k v h)):Dy (CP E) k (Rm E t x i h):=by
 unfold Aan at hg
 split at hg
 · rename_i p hp
   unfold Ao3 at hp
   split at hp<;>try cases hp
   rename_i ti hti
   split at hp<;>try cases hp
   rename_i fs hfs
   split at hp<;>try cases hp
   rename_i q hq
   split at hp<;>cases hp
   rename_i fi hfi
   have key:∀cs r,part E q.2 cs q.1=some r→Rm E t (.agg cs) i h=some (r,h):=fun cs r hr=>by
    show(Option.rec none (fun ti=>match ti.desc with
     |.struct fs=>Option.rec none (fun p=>Gd h (part E p.2 cs p.1)) (Nb fs.toList i)
     |_=>none) (E.ty t):Option (AV×H))=_
    rw[hti]
    simp only[hfs,hq]
    show Gd h (part E q.2 cs q.1)=_
    rw[hr];rfl
   split at hg
   · rename_i ha
     have ha:fi.agg=true:=ha
     obtain⟨cs,rfl,hg2⟩:=Vs hg
     refine Ig (key cs (.agg (Ja fi.size (Qp q.1 cs))) ?_) hg2
     show(Option.rec none (fun i=>Bool.rec (En cs q.1) (some (.agg (Ja i.size (Qp q.1 cs)))) i.agg) (E.ty q.2):Option AV)=_
     rw[hfi]
     show(Bool.rec (En cs q.1) (some (.agg (Ja fi.size (Qp q.1 cs)))) fi.agg:Option AV)=_
     rw[ha]
   · rename_i ha
     have ha:fi.agg=false:=ha
     obtain⟨cs,rfl,hg2⟩:=Vs hg
     obtain⟨v,hv,hg3⟩:=Nz hg2
     refine Ig (key cs v ?_) hg3
     show(Option.rec none (fun i=>Bool.rec (En cs q.1) (some (.agg (Ja i.size (Qp q.1 cs)))) i.agg) (E.ty q.2):Option AV)=_
     rw[hfi]
     show(Bool.rec (En cs q.1) (some (.agg (Ja fi.size (Qp q.1 cs)))) fi.agg:Option AV)=_
     rw[ha];exact hv
 · exact hg.elim
theorem Aku{t:TypeId}{x i:AV}(hg:Mf E t x i h k):Dy (CP E) k (Cy E t x (Bl i) h):=by
 unfold Mf at hg
 split at hg
 · rename_i e he
   split at hg
   · rename_i ei hei
     obtain⟨m,hm,hg⟩:=Zx hg
     obtain⟨b,o,n,q,rfl,h1,hg⟩:=Aqu hg
     refine Ig ?_ hg
     rw[hm]
     show Rl E t b o n ei.size m h=_
     unfold Rl Au
     rw[he]
     show(Option.rec none (fun ti=>Bool.rec none _ _) (E.ty e):Option (AV×H))=_
     rw[hei]
     show(Bool.rec none (some (.ptr b (Nat.add o (Nat.mul m ei.size)),h)) (Ai (Nat.ble (Nat.add m 1) n) (Nat.beq ei.size ei.size)):Option (AV×H))=_
     rw[h1,Nat.beq_refl];rfl
   · exact hg.elim
 · exact hg
theorem Aqn{t:TypeId}{x i:AV}(hg:Qk E t x i h k):Dy (CP E) k (Mh E t x (Bl i) h):=by
 unfold Qk at hg
 split at hg
 · rename_i ti hti
   split at hg
   · rename_i hs
     obtain⟨l,c,rfl,hg⟩:=Lh hg
     obtain⟨m,hm,hg⟩:=Zx hg
     obtain⟨hc,hg⟩:=Yh hg
     refine Ig ?_ hg
     rw[hm]
     show(Option.rec none (fun ti=>Bool.rec none (Bool.rec none (some (.int .u8 (.ofNat (Gh c m)),h)) (Nat.ble (Nat.add m 1) l)) (isStr ti.desc)) (E.ty t):Option (AV×H))=_
     rw[hti]
     show(Bool.rec none (Bool.rec none (some (.int .u8 (.ofNat (Gh c m)),h)) (Nat.ble (Nat.add m 1) l)) (isStr ti.desc):Option (AV×H))=_
     rw[hs,hc]
   · exact hg
 · exact hg.elim
theorem A5d{i:Nat}{x:AV}(hg:ext i x (fun v=>k v h)):Dy (CP E) k (Nf x i h):=by
 obtain⟨cs,rfl,hg⟩:=Apm hg
 obtain⟨v,hv,hg⟩:=Nz hg
 refine Ig ?_ hg
 show Gd h (En cs i)=_
 rw[hv];rfl
theorem Ays{ats:List TypeId}{x:AV}(hg:Aqj E ats x h k):Dy (CP E) k (Vp E ats x h):=by
 unfold Aqj at hg
 split at hg
 · rename_i t ht
   split at hg
   · rename_i ti hti
     have e:Vp E ats x h=Atu E ti.desc x h:=by
      unfold Vp;rw[ht]
      show(Option.rec none (fun ti=>Atu E ti.desc x h) (E.ty t):Option (AV×H))=_
      rw[hti]
     unfold Aib at hg
     split at hg
     · rename_i hd
       obtain⟨l,c,rfl,hg2⟩:=Lh hg
       exact Ig (e.trans (by rw[hd];rfl)) hg2
     · rename_i hd
       rcases Att hg with⟨rfl,hg2⟩|⟨b,o,n,z,q,rfl,hg2⟩
       · exact Ig (e.trans (by rw[hd];rfl)) hg2
       · exact Ig (e.trans (by rw[hd];rfl)) hg2
     · exact hg
   · exact hg.elim
 · exact hg.elim
theorem Aja{b:Builtin}{ats:List TypeId}{args:List AV}(hg:Kn E b ats args h k):Dy (CP E) k (Az E b ats args h):=by
 unfold Kn at hg
 split at hg
 · split at hg
   · exact Ays hg
   · exact hg.elim
 · exact hg
theorem Avk{s d:TypeId}{x:AV}(hg:Vh E s d x h k):Dy (CP E) k (Fz E h s d x):=by
 unfold Vh at hg
 split at hg
 · rename_i ti hti
   unfold Aat at hg
   split at hg
   · rename_i kd hd
     split at hg
     · obtain⟨j,n,rfl,hg2⟩:=Vr hg
       rw[Al] at hg2
       refine Ig ?_ hg2
       unfold Fz;rw[hti]
       show Apb E h s ti.desc (.int j n)=_
       rw[hd];rfl
     · exact hg
   · exact hg
 · exact hg.elim
theorem Ajb{o:Option AV}{d:Nat}{K:Nat→Prop}(hg:Aq6 o d K):∃n,bound d (o.map Bl)=some n∧K n:=by
 cases o with
 |none=>exact⟨d,rfl,hg⟩
 |some v=>obtain⟨m,hm,hg⟩:=Zx hg;exact⟨m,hm,hg⟩
theorem Wj{o:Option Operand}:Qn (CP E) f o=(o.map fun x=>eval' E x f).map Bl:=by cases o<;>rfl
theorem Ap1{t:TypeId}{x:AV}{lo hi mx:Option AV}(hg:Mm E t x lo hi mx h k):
 Dy (CP E) k (Option.rec none (fun m=>Gd h (Ku E h t x (lo.map Bl) (hi.map Bl) m)) (Qh (mx.map Bl))):=by
 unfold Mm at hg
 split at hg
 · rename_i ti hti
   split at hg
   · rename_i hs
     split at hg
     · obtain⟨l,c,rfl,hg⟩:=Lh hg
       obtain⟨n,hn,hg⟩:=Ajb hg
       obtain⟨m,hm,hg⟩:=Ajb hg
       obtain⟨hc,hg⟩:=Yh hg
       refine Ig ?_ hg
       show Gd h (Ku E h t (.str l c) (lo.map Bl) (hi.map Bl) none)=_
       have hd:ti.desc=.string:=by
        cases hdd:ti.desc<;>rw[hdd] at hs<;>first|rfl|cases hs
       unfold Ku
       rw[hti]
       show Gd h (Zd E h ti.desc (.str l c) (lo.map Bl) (hi.map Bl) none)=_
       rw[hd]
       show Gd h (Ik l (lo.map Bl) (hi.map Bl) (fun lo h=>Ak6 c l lo h))=_
       unfold Ik
       rw[hn]
       show Gd h (Option.rec none (fun lo=>Ak6 c l lo n) (bound 0 (lo.map Bl)))=_
       rw[hm]
       show Gd h (Bool.rec none (some (.str (Nat.sub n m) (Vy c m n))) (Ai (Nat.ble m n) (Nat.ble n l)))=_
       rw[hc];rfl
     · exact hg.elim
   · exact hg
 · exact hg.elim
theorem Ah0{t:TypeId}{x:AV}(hg:Zy E t x h k):Dy (CP E) k (Nc E t x h):=by
 unfold Zy at hg
 split at hg
 · rename_i ti hti
   split at hg
   · exact hg.elim
   · rename_i hi
     refine Ig ?_ hg
     unfold Nc;rw[hti]
     show(Bool.rec (some (.iface t x,h)) none (isIface ti.desc):Option (AV×H))=_
     rw[hi]
 · exact hg.elim
theorem Aap{o:Op}(hg:Eb E o call f h k):exec o (CP E) call f h k:=by
 cases o
 case move x=>show Ca (eval (CP E) x f) (fun v=>k v h);rw[Cc];exact hg
 case assign x=>show Ca (eval (CP E) x f) (fun v=>k v h);rw[Cc];exact hg
 case alloc e=>exact Arf hg
 case box e x=>exact Azu hg
 case load t a=>exact Ah9 hg
 case store t a x=>exact Apw hg
 case binOp op t x y q=>
  obtain⟨v,hv,hg⟩:=Awd (show Aq9 E op t x y (eval' E x f) (eval' E y f) (fun v=>k v h) from hg)
  show(Option.rec False (fun v=>k v h) (Ajf E op t x y (eval (CP E) x f) (eval (CP E) y f)):Prop)
  have hv:Ajf E op t x y (eval (CP E) x f) (eval (CP E) y f)=some v:=hv
  rw[hv];exact hg
 case unOp op t x=>
  obtain⟨v,hv,hg⟩:=Axz (show un2 op (eval' E x f) (fun v=>k v h) from hg)
  show(Option.rec False (fun v=>k v h) (unA op (eval (CP E) x f)):Prop)
  have hv:unA op (eval (CP E) x f)=some v:=hv
  rw[hv];exact hg
 case convert s d x=>exact Avk hg
 case makeInterface t x=>exact Ah0 hg
 case slice t x lo hi mx=>
  have:=Ap1 (show Mm E t (eval' E x f) (lo.map (fun x=>eval' E x f)) (hi.map (fun x=>eval' E x f)) (mx.map (fun x=>eval' E x f)) h k from hg)
  show Dy (CP E) k (Option.rec none (fun m=>Gd h (Ku E h t (eval (CP E) x f) (Qn (CP E) f lo) (Qn (CP E) f hi) m)) (Qh (Qn (CP E) f mx)))
  rw[Wj,Wj,Wj];exact this
 case fieldAddr t x i=>exact Ak1 hg
 case field t x i=>exact Aqr hg
 case indexAddr t x i=>exact Aku hg
 case index t x i=>exact Aqn hg
 case extract x i=>exact A5d hg
 case makeFunc fn a b=>
  have hg:k (.func fn (Hu E f a.toList) (Hu E f b.toList)) h:=hg
  refine Eq.mpr (Gz (C:=CP E) (f:=f) a.toList _) ?_
  refine Eq.mpr (Gz (C:=CP E) (f:=f) b.toList _) ?_
  show k (.func fn (a.toList.map fun x=>eval (CP E) x f) (b.toList.map fun x=>eval (CP E) x f)) h
  rw[show(a.toList.map fun x=>eval (CP E) x f)=Hu E f a.toList from Qo.symm,show(b.toList.map fun x=>eval (CP E) x f)=Hu E f b.toList from Qo.symm];exact hg
 case call c=>
  obtain⟨callee,args,ats⟩:=c
  cases callee with
  |invoke v name=>
   have hg:Xl (CP E) call (eval (CP E) v f) name (Hu E f args.toList) h k:=hg
   show Il (CP E) f args.toList (fun l=>Xl (CP E) call (eval (CP E) v f) name l h k)
   refine Eq.mpr (Gz (C:=CP E) (f:=f) args.toList _) ?_
   show Xl (CP E) call (eval (CP E) v f) name (args.toList.map fun x=>eval (CP E) x f) h k
   rw[show(args.toList.map fun x=>eval (CP E) x f)=Hu E f args.toList from Qo.symm];exact hg
  |builtin b=>
   have hg:Kn E b ats.toList (Hu E f args.toList) h k:=hg
   have:=Aja hg
   show Il (CP E) f args.toList (fun l=>Dy (CP E) k (Az E b ats.toList l h))
   refine Eq.mpr (Gz (C:=CP E) (f:=f) args.toList _) ?_
   show oK (Az E b ats.toList (args.toList.map fun x=>eval (CP E) x f) h) k
   rw[show(args.toList.map fun x=>eval (CP E) x f)=Hu E f args.toList from Qo.symm];exact this
  |value v=>
   have hg:Ac4 (CP E) call (eval (CP E) v f) (Hu E f args.toList) h k:=hg
   show Il (CP E) f args.toList (fun l=>Ac4 (CP E) call (eval (CP E) v f) l h k)
   refine Eq.mpr (Gz (C:=CP E) (f:=f) args.toList _) ?_
   show Ac4 (CP E) call (eval (CP E) v f) (args.toList.map fun x=>eval (CP E) x f) h k
   rw[show(args.toList.map fun x=>eval (CP E) x f)=Hu E f args.toList from Qo.symm];exact hg
 all_goals exact hg
end
end Go.Den
namespace Go.Den
open Go.RowKit
theorem Awm{o:Ob FT}{K:P→Nat→List Nat→Nat→Prop}(h:Bgj o K):∃m a b c,o=.Pg m a b c∧K m a b c:=by
 cases o<;>first|exact(Er h).elim|exact⟨_,_,_,_,rfl,h⟩
theorem Ac2{K:Ent→Prop}:∀{l:List Ent},Apc K l→∀e∈l,K e
 |[],_,e,he=>by cases he
 |[a],h,e,he=>by rw[List.mem_singleton.1 he];exact h
 |a::b::l,h,e,he=>by
  obtain⟨h1,h2⟩:=(show And (K a) (Apc K (b::l)) from h)
  rcases List.mem_cons.1 he with rfl|he
  · exact h1
  · exact Ac2 h2 e he
theorem Ayp(n:Nat):∀l:List Nat,Ah1 n l=l.toArray.contains n:=by
 intro l
 have key:Ah1 n l=true↔n∈l:=by
  induction l with
  |nil=>simp[Ah1]
  |cons x l ih=>
   have h:Ah1 n (x::l)=(Bool.rec (Ah1 n l) true (Nat.beq x n):Bool):=rfl
   rw[h,Fk]
   by_cases e:x=n
   · rw[decide_eq_true e];simp[e]
   · rw[decide_eq_false e]
     show Ah1 n l=true↔_
     rw[ih];simp[Ne.symm e]
 rw[Bool.eq_iff_iff,key]
 simp
theorem Afk{μ:Mu}(seen:List Nat):∀{es:List Ent}{xs:List MapEntry},EsR μ es xs→EsR μ (leftOf seen es) (xs.filter fun e=>!seen.toArray.contains e.born)
 |[],_,h=>by cases(show _=[] from h);exact(rfl:([]:List MapEntry)=[])
 |a::es,_,⟨x,xs,e,h1,h2,h3,h4⟩=>by
  subst e
  have h:leftOf seen (a::es)=(Bool.rec (a::leftOf seen es) (leftOf seen es) (Ah1 a.2.2 seen):List Ent):=rfl
  rw[h,Ayp,h3,List.filter_cons]
  cases seen.toArray.contains x.born with
  |true=>exact Afk seen h4
  |false=>exact⟨x,_,rfl,h1,h2,h3,Afk seen h4⟩
theorem Adb{μ:Mu}{since:Nat}:∀{es:List Ent}{xs:List MapEntry},EsR μ es xs→Alu since es=true→∀x∈xs,x.born<since
 |[],_,h,_,x,hx=>by cases(show _=[] from h);cases hx
 |a::es,_,⟨y,xs,e,h1,h2,h3,h4⟩,ha,x,hx=>by
  subst e
  have ha:(Bool.rec false (Alu since es) (Nat.ble (Nat.add a.2.2 1) since):Bool)=true:=ha
  cases hb:Nat.ble (Nat.add a.2.2 1) since with
  |false=>rw[hb] at ha;cases ha
  |true=>
   rw[hb] at ha
   rcases List.mem_cons.1 hx with rfl|hx
   · have:a.2.2+1≤since:=Bq hb
     rw[h3] at this;exact this
   · exact Adb h4 ha x hx
theorem Ada{μ:Mu}{n:Nat}:∀{es:List Ent}{xs:List MapEntry},EsR μ es xs→Agj n es=true→∃x∈xs,x.born<n
 |[],_,_,h=>by cases h
 |a::es,_,⟨y,xs,e,h1,h2,h3,h4⟩,ha=>by
  subst e
  have ha:(Bool.rec (Agj n es) true (Nat.ble (Nat.add a.2.2 1) n):Bool)=true:=ha
  cases hb:Nat.ble (Nat.add a.2.2 1) n with
  |true=>
   have:a.2.2+1≤n:=Bq hb
   rw[h3] at this
   exact⟨y,by simp,this⟩
  |false=>
   rw[hb] at ha
   obtain⟨x,hx,hl⟩:=Ada h4 ha
   exact⟨x,by simp[hx],hl⟩
theorem EsR.mem{μ:Mu}:∀{es:List Ent}{xs:List MapEntry},EsR μ es xs→∀x∈xs,∃e∈es,VR μ e.1 x.key∧VR μ e.2.1 x.val∧e.2.2=x.born
 |[],_,h,x,hx=>by cases(show _=[] from h);cases hx
 |a::es,_,⟨y,xs,e,h1,h2,h3,h4⟩,x,hx=>by
  subst e
  rcases List.mem_cons.1 hx with rfl|hx
  · exact⟨a,by simp,h1,h2,h3⟩
  · obtain⟨e,he,hh⟩:=EsR.mem h4 x hx
    exact⟨e,by simp[he],hh⟩
theorem Ab8{P:Program}{w:World}(n:Nat)(hn:0<n):∃i w',(choose (.mapNext n)).run P w=.ok i w'∧i<n∧w'.heap=w.heap∧w'.os=w.os∧w'.tape=w.tape∧w'.output=w.output:=by
 rw[run_choose]
 by_cases h:n≤1
 · exact⟨0,w,by rw[if_pos (by simpa[Question.forced] using h)],hn,rfl,rfl,rfl,rfl⟩
 · exact⟨(Question.mapNext n).cut (w.tape w.drawn (.mapNext n)),{ w with drawn:=w.drawn+1 },by rw[if_neg (by simpa[Question.forced] using h)],Nat.mod_lt _ hn,rfl,rfl,rfl,rfl⟩
theorem Atl{P:Program}{μ:Mu}{h:H}{w:World}(s:Sim μ h w){it:AV}{k:KV}(hg:Atm it h k){vx:Value}{ty:TypeId}(hx:VR μ it vx):
 ∃v w' μ' av h',(Instr.next vx false ty).run P w=.ok v w'∧Sim μ' h' w'∧Cu μ h w μ' h' w'∧VR μ' av v∧k av h':=by
 obtain⟨b,o,rfl,hg⟩:=Ml hg
 obtain⟨ho,hg⟩:=Fv hg
 obtain rfl:=Bk ho
 obtain⟨m,since,seen,stepped,hat,hg⟩:=Awm hg
 obtain⟨p,hp,hg⟩:=Nz hg
 obtain⟨hc,hg⟩:=Fv hg
 obtain⟨hold,hstep⟩:=Ag hc
 obtain⟨l,hl,rfl⟩:=hx
 have hob:=s.ob b l (by rw[hat];simp) hl
 rw[hat] at hob
 obtain⟨lm,hlm,hblk,hoff⟩:=hob
 have hatm:h.at m=.map p.1 p.2:=Lr hp
 have hobm:=s.ob m lm (by rw[hatm];simp) hlm
 rw[hatm] at hobm
 obtain⟨xs,hblkm,hes⟩:=hobm
 have hleft:=Afk seen hes
 have hall:=Adb hleft hold
 have hg:(List.rec (k (.tuple [.bool false]) h) (fun e r _=>Apc (fun e=>h.Qa b (.Pg m since (Ks seen [e.2.2]) p.2) (fun h=>k (.tuple [.bool true,e.1,e.2.1]) h)) (e::r)) (leftOf seen p.1):Prop):=hg
 have hL:(xs.filter fun e=>!seen.toArray.contains e.born).toList=xs.toList.filter fun e=>!seen.toArray.contains e.born:=by simp
 generalize hLd:(xs.filter fun e=>!seen.toArray.contains e.born)=L at hL
 have hLold:L.filter (fun e=>decide (e.born<since))=L:=by
  rw[Array.filter_eq_self]
  intro x hx
  exact decide_eq_true (hall x (by rw[←hL];exact hx.val))
 have hLnew:L.filter (fun e=>decide (e.born≥since))=#[]:=by
  rw[Array.filter_eq_empty_iff]
  intro x hx hd
  have:=hall x (by rw[←hL];exact hx.val)
  have:=of_decide_eq_true hd
  omega
 have hcond:((!seen.toArray.isEmpty&&!xs.isEmpty&&xs.all (fun e=>decide (e.born≥stepped)))=true)→False:=by
  intro hb
  simp only[Bool.and_eq_true] at hb
  obtain⟨⟨h1,h2⟩,h3⟩:=hb
  cases hs:Aae seen with
  |true=>
   cases seen with
   |nil=>simp at h1
   |cons=>cases hs
  |false=>
   rw[hs] at hstep
   have hstep:(Bool.rec (Agj stepped p.1) true (Aae p.1):Bool)=true:=hstep
   cases he:Aae p.1 with
   |true=>
    cases hpe:p.1 with
    |nil=>
     rw[hpe] at hes
     have hes:xs.toList=[]:=hes
     rw[Array.toList_eq_nil_iff.1 hes] at h2
     simp at h2
    |cons=>rw[hpe] at he;cases he
   |false=>
    rw[he] at hstep
    obtain⟨x,hx,hlt⟩:=Ada hes hstep
    have h3:=(Array.all_eq_true_iff_forall_mem.1 h3) x (Array.mem_def.2 hx)
    have:=of_decide_eq_true h3
    omega
 have hrun0:(Instr.next (.pointer (some ⟨l.blk,l.off+0,none⟩)) false ty).run P w=(do
  match(((if L.isEmpty then #[none] else #[])++(L++#[]).map some:Array (Option MapEntry)))[←choose (.mapNext ((if L.isEmpty then #[none] else #[])++(L++#[]).map some:Array (Option MapEntry)).size)]? with
  |some (some e)=>
   setObj l.blk (.mapIter (some lm.blk) since (seen.toArray.push e.born) p.2)
   pure (.tuple #[.bool true,e.key,e.val])
  |some none=>pure (.tuple #[.bool false])
  | none => stuck "Next: no such candidate" : Sem Value).run P w := by
  unfold Instr.next
  simp only[hoff,Nat.zero_add]
  rw[Aa (Et hblk (by intros;simp))]
  simp only
  rw[Aa (Et hblkm (by intros;simp))]
  simp only
  rw[if_neg (fun hh=>hcond hh),hLd,hLold,hLnew]
  rfl
 rw[hrun0]
 rw[←hL] at hleft
 cases hle:leftOf seen p.1 with
 |nil=>
  rw[hle] at hg hleft
  have hnil:L=#[]:=Array.toList_eq_nil_iff.1 hleft
  obtain⟨i,w',hr,hi,h1,h2,h3,h4⟩:=Ab8 (P:=P) (w:=w) 1 (by omega)
  have hi0:i=0:=by omega
  subst hi0
  refine⟨.tuple #[.bool false],w',μ,.tuple [.bool false],h,?_,s.heap h1,Cu.heap μ h h1 h2 h3 h4,⟨_,rfl,_,_,rfl,rfl,rfl⟩,hg⟩
  have hcand:((if L.isEmpty then #[none] else #[])++(L++#[]).map some:Array (Option MapEntry))=#[none]:=by rw[hnil];simp
  rw[hcand,show(#[none]:Array (Option MapEntry)).size=1 from rfl]
  rw[Aa hr]
  rfl
 |cons e0 r=>
  rw[hle] at hg hleft
  have hpos:0<L.size:=by
   obtain⟨x,xs',e,_⟩:=hleft
   have:L.toList.length=(x::xs').length:=by rw[e]
   simp at this;omega
  have hne:L.isEmpty=false:=by simp;intro e;rw[e] at hpos;simp at hpos
  have hcand:((if L.isEmpty then #[none] else #[])++(L++#[]).map some:Array (Option MapEntry))=L.map some:=by
   rw[hne];simp
  rw[hcand]
  obtain⟨i,w',hr,hi,h1,h2,h3,h4⟩:=Ab8 (P:=P) (w:=w) (L.map some).size (by simpa using hpos)
  have hi':i<L.size:=by simpa using hi
  obtain⟨e,he,hk1,hk2,hk3⟩:=hleft.mem L[i] (by simp)
  have hke:=Ac2 hg e he
  have s1:=s.heap h1
  have hblk':w'.heap[l.blk]? =some (.mapIter (some lm.blk) since seen.toArray stepped):=by rw[h1];exact hblk
  obtain⟨w2,hw2,s2,x2⟩:=s1.putObj (Pr:=P) (b:=b) (by rw[hat];rfl) hl hblk' (by intros;simp) (.mapIter (some lm.blk) since (seen.toArray.push L[i].born) p.2) (.Pg m since (Ks seen [e.2.2]) p.2) fun w' hw'=>⟨lm,hlm,by rw[hw',Oz,hk3];simp,hoff⟩
  rw[Md] at hke
  refine⟨.tuple #[.bool true,L[i].key,L[i].val],w2,μ,.tuple [.bool true,e.1,e.2.1],_,?_,s2,(Cu.heap μ h h1 h2 h3 h4).trans x2,⟨_,rfl,_,_,rfl,rfl,_,_,rfl,hk1,_,_,rfl,hk2,rfl⟩,hke⟩
  rw[Aa hr]
  have hget:(L.map some)[i]? =some (some L[i]):=by simp[hi']
  rw[hget]
  simp only
  rw[Aa hw2]
  rfl
theorem Afq:Blm Bc2 where
 init l t:=by
  show(Option.rec AV.undef (fun v=>v) (En l t):AV)=_
  rw[Ep,List.getD_eq_getElem?_getD]
  cases l[t]?<;>rfl
 set f t v u:=by
  show(Bool.rec (f u) v (Nat.beq u t):AV)=_
  rw[Fk]
  by_cases e:u=t
  · rw[if_pos e,decide_eq_true e]
  · rw[if_neg e,decide_eq_false e];rfl
 force f k:=rfl
theorem Hs(f:FT)(d:Nat)(v:AV)(u:Nat):Ae f d v u=if u=d then v else f u:=Afq.set f d v u
theorem Xi(f:FT):∀(l:List Nat)(t:Nat),On l f t=.top∨On l f t=f t
 |[],_=>.inl rfl
 |u::l,t=>by
  show Ae (On l f) u (f u) t=.top∨Ae (On l f) u (f u) t=f t
  rw[Hs]
  by_cases e:t=u
  · rw[if_pos e,e];exact .inr rfl
  · rw[if_neg e];exact Xi f l t
section
variable{P:Program}{D:List Deferred}
structure FR(μ:Mu)(N:Nat)(D:List Deferred)(f:FT)(a:Act):Prop where
 size:N≤a.tmps.size
 get:∀t,VR μ (f t) (a.tmps.getD t undef)
 defs:a.defers=D
theorem FR.mono{μ μ':Mu}(h:Mu.le μ μ'){N:Nat}{f:FT}{a:Act}(r:FR μ N D f a):FR μ' N D f a:=⟨r.size,fun t=>VR.mono h _ _ (r.get t),r.defs⟩
theorem Aim(ts:Array Value)(d t:Nat)(v:Value)(h:d<ts.size):(ts.setIfInBounds d v).getD t undef=if t=d then v else ts.getD t undef:=by
 simp only[Array.getD_eq_getD_getElem?,Array.getElem?_setIfInBounds]
 by_cases e:d=t
 · subst e;simp[h]
 · rw[if_neg e,if_neg (fun h=>e h.symm)]
def Pe(N:Nat)(d:Option Tmp):Bool:=match d with
 |none=>true
 |some d=>Nat.blt d N
theorem FR.put{μ:Mu}{N:Nat}{f:FT}{a:Act}(r:FR μ N D f a){d:Option Tmp}(hd:Pe N d=true){av:AV}{v:Value}(hv:VR μ av v):FR μ N D (Dm f d av) (a.put d v):=by
 cases d with
 |none=>exact r
 |some d=>
  have hd:d<N:=by simpa[Pe] using hd
  refine⟨by simpa[Act.put] using r.size,fun t=>?_,r.defs⟩
  show VR μ (Ae f d av t) ((a.tmps.setIfInBounds d v).getD t undef)
  rw[Hs,Aim _ _ _ _ (Nat.lt_of_lt_of_le hd r.size)]
  by_cases e:t=d
  · rw[if_pos e,if_pos e];exact hv
  · rw[if_neg e,if_neg e];exact r.get t
theorem FR.eval{E:Env}{μ:Mu}{N G:Nat}{f:FT}{a:Act}(r:FR μ N D f a)(gl:Gm μ G){o:Operand}(ho:Eu G o=true):VR μ (eval' E o f) (a.eval o):=
 Yo (C:=CP E) gl ho fun t _=>r.get t
def Hv(P:Program)(E:Env)(N G:Nat)(o:Oper):Bool:=Pe N o.dst&&Zt P E G o.op
def yb(o:Option Value):Option Bool:=match o with
 |some (.bool b)=>some b
 |_=>none
theorem Jt(ops:Array Oper)(ts:Array Value)(j:Nat):yielded ops ts j=yb (((ops[j]?).bind (·.dst)).bind (ts[·]?)):=rfl
def Live(ops:Array Oper)(gs:List (Nat×Bool×Tmp))(a:Act):Prop:=∀g∈gs,((ops[g.1]?).bind (·.dst))=some g.2.2∧yb (a.tmps[g.2.2]?)=some g.2.1
def Si(d:Option Tmp)(gs:List (Nat×Bool×Tmp)):Bool:=match d with
 |none=>true
 |some d=>gs.all fun g=>!Nat.beq g.2.2 d
theorem Act.Ud(a:Act)(d:Option Tmp)(v:Value):(a.put d v).tmps.size=a.tmps.size:=by cases d<;>simp[Act.put]
theorem Ju{a:Act}{d:Option Tmp}{v:Value}{t:Nat}(h:d≠some t):(a.put d v).tmps[t]? =a.tmps[t]? :=by
 cases d with
 |none=>rfl
 |some d=>
  have:d≠t:=fun e=>h (by rw[e])
  simp[Act.put,Array.getElem?_setIfInBounds_ne this]
theorem Qf{d:Option Tmp}{gs:List (Nat×Bool×Tmp)}(h:Si d gs=true):∀g∈gs,d≠some g.2.2:=by
 intro g hg e
 subst e
 have:=List.all_eq_true.1 (show gs.all (fun g'=>!Nat.beq g'.2.2 g.2.2)=true from h) g hg
 simp at this
theorem Live.put{ops:Array Oper}{gs:List (Nat×Bool×Tmp)}{a:Act}(l:Live ops gs a){d:Option Tmp}(h:Si d gs=true)(v:Value):Live ops gs (a.put d v):=fun g hg=>
 ⟨(l g hg).1,by rw[Ju (Qf h g hg)];exact(l g hg).2⟩
theorem Lm{a b:Option (Nat×Bool)}(h:Gi a b=true):a=b:=by
 have key:∀v w,Gi.Apj v w=true→v=w:=by intro v w;cases v<;>cases w<;>simp[Gi.Apj]
 cases a with
 |none=>cases b with
  |none=>rfl
  |some=>cases h
 |some p=>cases b with
  |none=>cases h
  |some q=>
   obtain⟨i,v⟩:=p;obtain⟨j,w⟩:=q
   have h:(Nat.beq i j&&Gi.Apj v w)=true:=h
   rw[Bool.and_eq_true] at h
   rw[Nat.eq_of_beq_eq_true h.1,key _ _ h.2]
def Aih(o:Operand):Bool:=match o with
 |.const _=>true
 |_=>false
def Az5(c:Operand)(gd:Tmp):Bool:=match c with
 |.tmp t=>Nat.beq t gd
 |_=>false
def Qc(G:Nat)(gd:Tmp)(w:Bool)(o:Op):Bool:=match o with
 |.pick c x y=>Az5 c gd&&Eu G x&&Eu G y&&Aih (Ef w y x)
 |_=>false
def Auk(t:Tmp)(l:List (Option Tmp)):Bool:=l.any fun d=>match d with
 |some d=>Nat.beq d t
 |none=>false
def Iq(P:Program)(E:Env)(N G:Nat)(ops:List Oper)(its:Its):Option (Nat×Bool)→List (Nat×Bool×Tmp)→List (Option Tmp)→Bool:=Its.rec (motive:=fun _=>Option (Nat×Bool)→List (Nat×Bool×Tmp)→List (Option Tmp)→Bool)
 (fun _ _ _=>true)
 (fun o _ ih g gs prev=>and (and (Hv P E N G o) (and (Gi o.guard g) (Si o.dst gs))) (ih g gs (o.dst::prev)))
 (fun j gd w _ pk _ ihb ihr g gs prev=>and (and (and (Pe N pk.dst) (and (Gi pk.guard g) (Si pk.dst gs))) (and (Qc G gd w pk.op) (and (Auk gd prev) (Option.rec false (fun o=>Option.rec false (fun d=>Nat.beq d gd) o.dst) (En ops j)))))
  (and (ihb (some (j,w)) ((j,w,gd)::gs) []) (ihr g gs (pk.dst::prev)))) its
def Eo(l:List Oper)(a:Act):Act:=l.foldl (fun a o=>a.put o.dst undef) a
theorem Ki(o:Oper)(l:List Oper)(a:Act):Eo (o::l) a=Eo l (a.put o.dst undef):=rfl
theorem Abh(l m:List Oper)(a:Act):Eo (l++m) a=Eo m (Eo l a):=List.foldl_append ..
theorem Qb(l:List Oper):∀a:Act,(Eo l a).tmps.size=a.tmps.size:=by
 induction l with
 |nil=>intro a;rfl
 |cons o l ih=>intro a;rw[Ki,ih,Act.Ud]
theorem Abg(l:List Oper):∀a:Act,(Eo l a).defers=a.defers:=by
 induction l with
 |nil=>intro a;rfl
 |cons o l ih=>intro a;rw[Ki,ih];cases o.dst<;>rfl
theorem Acf{l:List Oper}{t:Nat}:∀{a:Act},(∀o∈l,o.dst≠some t)→(Eo l a).tmps[t]? =a.tmps[t]? :=by
 induction l with
 |nil=>intro a _;rfl
 |cons o l ih=>intro a h;rw[Ki,ih (fun x hx=>h x (by simp[hx])),Ju (h o (by simp))]
theorem Wb{a:Act}{d:Option Tmp}{t:Nat}(h:a.tmps[t]? =some undef):(a.put d undef).tmps[t]? =some undef:=by
 cases d with
 |none=>exact h
 |some d=>
  by_cases e:d=t
  · subst e
    have:d<a.tmps.size:=(Array.getElem?_eq_some_iff.1 h).1
    simp[Act.put,this]
  · rw[Ju (by simpa using e)];exact h
theorem Afa{l:List Oper}{t:Nat}:∀{a:Act},a.tmps[t]? =some undef→(Eo l a).tmps[t]? =some undef:=by
 induction l with
 |nil=>intro a h;exact h
 |cons o l ih=>intro a h;rw[Ki];exact ih (Wb h)
theorem Ahl{a:Act}{d:Tmp}{v:Value}(h:d<a.tmps.size):(a.put (some d) v).tmps[d]? =some v:=by simp[Act.put,h]
variable{E:Env}{N G:Nat}{ops:Array Oper}{Q:Exit→Act→World→Prop}
theorem Ln:∀{its:Its}{g:Option (Nat×Bool)}{gs:List (Nat×Bool×Tmp)}{prev:List (Option Tmp)},Iq P E N G ops.toList its g gs prev=true→∀o∈its.flat,Pe N o.dst=true∧∀x∈gs,o.dst≠some x.2.2
 |.nil,_,_,_,_,o,ho=>by simp[Its.flat] at ho
 |.op o r,g,gs,prev,h,x,hx=>by
  have h:(((Hv P E N G o)&&(Gi o.guard g&&Si o.dst gs))&&Iq P E N G ops.toList r g gs (o.dst::prev))=true:=h
  simp only[Bool.and_eq_true] at h
  rcases List.mem_cons.1 (show x∈o::r.flat from hx) with rfl|hx
  · refine⟨?_,Qf h.1.2.2⟩
    have:=h.1.1
    simp only[Hv,Bool.and_eq_true] at this
    exact this.1
  · exact Ln h.2 x hx
 |.grp j gd w b pk r,g,gs,prev,h,x,hx=>by
  have h:(((Pe N pk.dst)&&(Gi pk.guard g&&Si pk.dst gs))&&(Qc G gd w pk.op&&(Auk gd prev&&_))&&(Iq P E N G ops.toList b (some (j,w)) ((j,w,gd)::gs) []&&Iq P E N G ops.toList r g gs (pk.dst::prev)))=true:=h
  simp only[Bool.and_eq_true] at h
  rcases List.mem_append.1 (show x∈b.flat++pk::r.flat from hx) with hx|hx
  · have:=Ln h.2.1 x hx
    exact⟨this.1,fun y hy=>this.2 y (by simp[hy])⟩
  · rcases List.mem_cons.1 hx with rfl|hx
    · exact⟨h.1.1.1,Qf h.1.1.2.2⟩
    · exact Ln h.2.2 x hx
theorem Auj{t:Tmp}{l:List (Option Tmp)}(h:Auk t l=true):some t∈l:=by
 obtain⟨d,hd,h⟩:=List.any_eq_true.1 h
 cases d with
 |none=>cases h
 |some d=>rw[Nat.eq_of_beq_eq_true h] at hd;exact hd
theorem Yq {ro : Option Nat} : ∀ {its : Its} {j : Nat} {w : Bool} {gd : Tmp} {gs : List (Nat × Bool × Tmp)} {prev : List (Option Tmp)} {rest : List Oper} {a : Act} {wd : World}, Iq P E N G ops.toList its (some (j, w)) ((j, w, gd) :: gs) prev = true → N ≤ a.tmps.size →
    ((ops[j]?).bind (·.dst)) = some gd → yb (a.tmps[gd]?) ≠ some w → (∀ t, some t ∈ prev → a.tmps[t]? = some undef) → wpListIn (Fo ro) 0 P ops Q rest (Eo its.flat a) wd → wpListIn (Fo ro) 0 P ops Q (its.flat ++ rest) a wd
  | .nil, _, _, _, _, _, _, _, _, _, _, _, _, _, hr => hr
  | .op o r, j, w, gd, gs, prev, rest, a, wd, h, hN, hj, hy, hp, hr => by
    have h : (((Hv P E N G o) && (Gi o.guard (some (j, w)) && Si o.dst ((j, w, gd) :: gs))) && Iq P E N G ops.toList r (some (j, w)) ((j, w, gd) :: gs) (o.dst :: prev)) = true := h
    simp only [Bool.and_eq_true] at h
    have hwant : Region.wanted o (yielded ops a.tmps) = false := by
      unfold Region.wanted
      rw [Lm h.1.2.1]
      show (yielded ops a.tmps j == some w) = false
      rw [Jt, hj]
      simpa using hy
    show wpListIn (Fo ro) 0 P ops Q (o :: (r.flat ++ rest)) a wd
    unfold wpListIn
    rw [hwant, if_neg (by simp)]
    refine ⟨fun _ _ => trivial, ?_⟩
    have hne := Qf h.1.2.2 (j, w, gd) (by simp)
    refine Yq h.2 (by rw [Act.Ud]; exact hN) hj (by rw [Ju hne]; exact hy) ?_ hr
    intro t ht
    rcases List.mem_cons.1 ht with e | ht
    · rw [← e]
      refine Ahl (Nat.lt_of_lt_of_le ?_ hN)
      have := h.1.1
      simp only [Hv, Bool.and_eq_true] at this
      rw [← e] at this
      simpa [Pe] using this.1
    · exact Wb (hp t ht)
  | .grp j' gd' w' b pk r, j, w, gd, gs, prev, rest, a, wd, h, hN, hj, hy, hp, hr => by
    have h : (((Pe N pk.dst) && (Gi pk.guard (some (j, w)) && Si pk.dst ((j, w, gd) :: gs))) && (Qc G gd' w' pk.op && (Auk gd' prev && (Option.rec false (fun o => Option.rec false (fun d => Nat.beq d gd') o.dst) (En ops.toList j'))))
      && (Iq P E N G ops.toList b (some (j', w')) ((j', w', gd') :: (j, w, gd) :: gs) [] && Iq P E N G ops.toList r (some (j, w)) ((j, w, gd) :: gs) (pk.dst :: prev))) = true := h
    simp only [Bool.and_eq_true] at h
    obtain ⟨⟨⟨hd, hg, hn⟩, hpk, ht, hjd⟩, hb, hrr⟩ := h
    have hj' : ((ops[j']?).bind (·.dst)) = some gd' := by
      rw [Ep, Array.getElem?_toList] at hjd
      cases ho : ops[j']? with
      | none => rw [ho] at hjd; cases hjd
      | some o =>
        rw [ho] at hjd
        have hjd : (Option.rec false (fun d => Nat.beq d gd') o.dst : Bool) = true := hjd
        show o.dst = some gd'
        cases hod : o.dst with
        | none => rw [hod] at hjd; cases hjd
        | some d => rw [hod] at hjd; rw [Nat.eq_of_beq_eq_true hjd]
    have hu := hp gd' (Auj ht)
    show wpListIn (Fo ro) 0 P ops Q ((b.flat ++ pk :: r.flat) ++ rest) a wd
    rw [List.append_assoc]
    refine Yq hb hN hj' (by rw [hu]; simp [yb, undef]) (by simp) ?_
    have hbd := Ln hb
    have hgd : (Eo b.flat a).tmps[gd]? = a.tmps[gd]? := Acf fun o ho => (hbd o ho).2 (j, w, gd) (by simp)
    have hwant : Region.wanted pk (yielded ops (Eo b.flat a).tmps) = false := by
      unfold Region.wanted
      rw [Lm hg]
      show (yielded ops (Eo b.flat a).tmps j == some w) = false
      rw [Jt, hj]
      show (yb ((Eo b.flat a).tmps[gd]?) == some w) = false
      rw [hgd]
      simpa using hy
    show wpListIn (Fo ro) 0 P ops Q (pk :: (r.flat ++ rest)) _ wd
    unfold wpListIn
    rw [hwant, if_neg (by simp)]
    refine ⟨fun _ _ => trivial, ?_⟩
    have hne := Qf hn (j, w, gd) (by simp)
    refine Yq hrr (by rw [Act.Ud, Qb]; exact hN) hj (by rw [Ju hne, hgd]; exact hy) ?_ ?_
    · intro t ht
      rcases List.mem_cons.1 ht with e | ht
      · rw [← e]
        refine Ahl (Nat.lt_of_lt_of_le ?_ (by rw [Qb]; exact hN))
        rw [← e] at hd
        simpa [Pe] using hd
      · exact Wb (Afa (hp t ht))
    · have : Eo (Its.grp j' gd' w' b pk r).flat a = Eo r.flat ((Eo b.flat a).put pk.dst undef) := by
        show Eo (b.flat ++ pk :: r.flat) a = _
        rw [Abh, Ki]
      rw [← this]; exact hr
end
end Go.Den
namespace Go.Den
open Go.RowKit
section
variable{P:Program}{E:Env}{N G:Nat}{D:List Deferred}{ops:Array Oper}{Q:Exit→Act→World→Prop}
def Fh(l:List Oper)(a a':Act):Prop:=a'.tmps.size=a.tmps.size∧∀t,(∀o∈l,o.dst≠some t)→a'.tmps[t]? =a.tmps[t]?
theorem Fh.refl(l:List Oper)(a:Act):Fh l a a:=⟨rfl,fun _ _=>rfl⟩
theorem Fh.cons{o:Oper}{l:List Oper}{a a':Act}{v:Value}(h:Fh l (a.put o.dst v) a'):Fh (o::l) a a':=
 ⟨h.1.trans (Act.Ud _ _ _),fun t ht=>(h.2 t fun x hx=>ht x (by simp[hx])).trans (Ju (ht o (by simp)))⟩
theorem Fh.append{l m:List Oper}{a a' b:Act}(h:Fh l a a')(k:Fh m a' b):Fh (l++m) a b:=
 ⟨k.1.trans h.1,fun t ht=>(k.2 t fun x hx=>ht x (by simp[hx])).trans (h.2 t fun x hx=>ht x (by simp[hx]))⟩
theorem Fh.Eo(l:List Oper)(a:Act):Fh l a (Eo l a):=⟨Qb l a,fun _ ht=>Acf ht⟩
theorem Aun (l : List Oper) : ∀ (f : FT) (t : Nat), Abo l f t = .top ∨ (Abo l f t = f t ∧ ∀ o ∈ l, o.dst ≠ some t) := by
  induction l with
  | nil => intro f t; exact .inr ⟨rfl, by simp⟩
  | cons o l ih =>
    intro f t
    show Abo l (Dm f o.dst .top) t = .top ∨ (Abo l (Dm f o.dst .top) t = f t ∧ _)
    rcases ih (Dm f o.dst .top) t with h | ⟨h, hl⟩
    · exact .inl h
    · rw [h]
      cases hd : o.dst with
      | none => exact .inr ⟨rfl, by intro x hx; rcases List.mem_cons.1 hx with rfl | hx; · rw [hd]; simp
                                    · exact hl x hx⟩
      | some d =>
        show Ae f d .top t = .top ∨ _
        rw [Hs]
        by_cases e : t = d
        · left; rw [if_pos e]
        · right
          refine ⟨by rw [show Dm f (some d) AV.top t = Ae f d .top t from rfl, Hs, if_neg e], ?_⟩
          intro x hx
          rcases List.mem_cons.1 hx with rfl | hx
          · rw [hd]; simpa using fun h => e h.symm
          · exact hl x hx
theorem FR.top{μ:Mu}{f:FT}{a a':Act}{l:List Oper}(r:FR μ N D f a)(s:Fh l a a')(hd:a'.defers=D):FR μ N D (Abo l f) a':=by
 refine⟨by rw[s.1];exact r.size,fun t=>?_,hd⟩
 rcases Aun l f t with h|⟨h,hl⟩
 · rw[h];trivial
 · rw[h]
   have:=r.get t
   rw[Array.getD_eq_getD_getElem?] at this ⊢
   rw[s.2 t hl];exact this
def Acv(gs:List (Nat×Bool×Tmp)):Option (Nat×Bool):=match gs with
 |[]=>none
 |g::_=>some (g.1,g.2.1)
theorem Pu{o:Oper}{gs:List (Nat×Bool×Tmp)}{a:Act}(hg:o.guard=Acv gs)(l:Live ops gs a):Region.wanted o (yielded ops a.tmps)=true:=by
 unfold Region.wanted
 rw[hg]
 cases gs with
 |nil=>rfl
 |cons g gs=>
  obtain⟨h1,h2⟩:=l g (by simp)
  show(yielded ops a.tmps g.1==some g.2.1)=true
  rw[Jt,h1]
  show(yb (a.tmps[g.2.2]?)==some g.2.1)=true
  rw[h2];simp
theorem Aoh{ro:Option Nat}{pk:Oper}{c x y:Operand}(hpk:pk.op=.pick c x y){a:Act}{w:World}{t:Bool}(hc:a.eval c=.bool t){next:Act→World→Prop}(h:next (a.put pk.dst (a.eval (Ef t x y))) w):pk.wpIn (Fo ro) 0 P a w next Q:=by
 have:(execOp a.eval pk).run P w=.ok (.value (a.eval (Ef t x y))) w:=by
  unfold execOp
  rw[hpk]
  simp only[hc]
  cases t<;>rfl
 refine Iw (fun c e=>by rw[hpk] at e;cases e) ?_
 rw[this]
 exact h
theorem Zs{gd:Tmp}{w:Bool}{o:Op}(h:Qc G gd w o=true):∃x y v,o=.pick (.tmp gd) x y∧Eu G x=true∧Eu G y=true∧Ef w y x=.const v:=by
 cases o<;>try cases h
 rename_i c x y
 have h:(Az5 c gd&&Eu G x&&Eu G y&&Aih (Ef w y x))=true:=h
 simp only[Bool.and_eq_true] at h
 obtain⟨⟨⟨h1,h2⟩,h3⟩,h4⟩:=h
 cases c<;>try cases h1
 rename_i t
 have e:=Nat.eq_of_beq_eq_true h1
 subst e
 cases hq:Ef w y x<;>rw[hq] at h4<;>first|exact⟨x,y,_,rfl,by assumption,by assumption,hq⟩|cases h4
theorem Sg{w:Bool}{x y:Operand}(hx:Eu G x=true)(hy:Eu G y=true):Eu G (Ef w x y)=true:=by cases w<;>assumption
theorem Live.same{gs:List (Nat×Bool×Tmp)}{a a':Act}{l:List Oper}(h:Live ops gs a)(s:Fh l a a')(hl:∀o∈l,∀g∈gs,o.dst≠some g.2.2):Live ops gs a':=fun g hg=>
 ⟨(h g hg).1,by rw[s.2 g.2.2 fun o ho=>hl o ho g hg];exact(h g hg).2⟩
def Bln(_P:Program)(N:Nat)(D:List Deferred)(ops:Array Oper)(gs:List (Nat×Bool×Tmp))(its:Its)(μ:Mu)(h:H)(a:Act)(w:World)(K:FT→H→Prop)(q:Act→World→Prop):Prop:=
 ∀(μ':Mu)(f':FT)(h':H)(a':Act)(w':World),FR μ' N D f' a'→Sim μ' h' w'→Cu μ h w μ' h' w'→Live ops gs a'→Fh its.flat a a'→K f' h'→q a' w'
theorem Auv{ro:Option Nat}(ok:By P E){call:CF}(hcall:Fq P (CP E) G (fun p=>p) call){o:Oper}(hop:Zt P E G o.op=true){μ:Mu}{f:FT}{h:H}{a:Act}{w:World}{k:KV}{next:Act→World→Prop}{Q:Exit→Act→World→Prop}
 (hv:∀x∈o.op.operands.toList,VR μ (eval (CP E) x f) (a.eval x)) (s:Sim μ h w) (gl:Gm μ G) (hg:Auw E o.op call f h k) (g:Ajp (CP E) μ h w (fun p=>p) k a o.dst next):o.wpIn (Fo ro) 0 P a w next Q:=by
 by_cases hnx:∃x,o.op=.next x false
 · obtain⟨x,e⟩:=hnx
   rw[e] at hg
   obtain⟨v,w',μ',av,h',hr,s',x',hv',hk⟩:=Atl (P:=P) (ty:=o.type) s (show Atm (eval' E x f) h k from hg) (hv x (by rw[e];simp[Op.operands]))
   refine Iw (fun c hc=>by rw[e] at hc;cases hc) ?_
   have he:execOp a.eval o=(do pure (.value (←Instr.next (a.eval x) false o.type))):=by
    obtain⟨dst,op,type,pos,after,guard⟩:=o
    cases e;rfl
   rw[he,Aa hr]
   exact g _ _ _ _ _ s' x' hv' hk
 · have hg2:Eb E o.op call f h k:=by
    cases ho:o.op<;>rw[ho] at hg<;>try exact hg
    rename_i x b
    cases b with
    |true=>exact hg
    |false=>exact absurd ⟨x,ho⟩ hnx
   exact Aft (C:=CP E) (good:=fun p=>p) (fun h=>h) ok hcall hop hv s gl (Aap hg2) g
theorem Wg {ro : Option Nat} (ok : By P E) {call : CF} (hcall : Fq P (CP E) G (fun p => p) call) : ∀ (its : Its) {gs : List (Nat × Bool × Tmp)} {prev : List (Option Tmp)}, Iq P E N G ops.toList its (Acv gs) gs prev = true →
    ∀ {μ : Mu} {f : FT} {h : H} {a : Act} {w : World} {K : FT → H → Prop} {rest : List Oper}, FR μ N D f a → Sim μ h w → Gm μ G → Live ops gs a → Gr E call its f h K → Bln P N D ops gs its μ h a w K (wpListIn (Fo ro) 0 P ops Q rest) → wpListIn (Fo ro) 0 P ops Q (its.flat ++ rest) a w
  | .nil, gs, prev, _, μ, f, h, a, w, K, rest, fr, s, _, l, hr, he => he μ f h a w fr s (.refl _ _ _) l (.refl _ _) hr
  | .op o r, gs, prev, hk, μ, f, h, a, w, K, rest, fr, s, gl, l, hr, he => by
    have hk : (((Hv P E N G o) && (Gi o.guard (Acv gs) && Si o.dst gs)) && Iq P E N G ops.toList r (Acv gs) gs (o.dst :: prev)) = true := hk
    simp only [Bool.and_eq_true, Hv] at hk
    obtain ⟨⟨⟨hd, hop⟩, hg, hn⟩, hrr⟩ := hk
    have hr : Auw E o.op call f h (fun v h => coK E o.type v (fun v => Gr E call r (Dm f o.dst v) h K)) := hr
    have hopn : ∀ x ∈ o.op.operands.toList, Eu G x = true := by
      have hop := hop
      simp only [Zt, Bool.and_eq_true] at hop
      exact fun x hx => (List.all_eq_true.1 hop.1) x hx
    show wpListIn (Fo ro) 0 P ops Q (o :: (r.flat ++ rest)) a w
    unfold wpListIn
    rw [Pu (Lm hg) l, if_pos rfl]
    refine Auv ok hcall hop (fun x hx => fr.eval gl (hopn x hx)) s gl hr ?_
    intro μ' av h' v w' s' x' hv hg'
    refine Wg ok hcall r hrr ((fr.mono x'.le).put hd hv) s' (gl.mono x'.le) (l.put hn v) (Vk hg') ?_
    intro μ'' f'' h'' a'' w'' fr'' s'' x'' l'' sb hK
    exact he _ _ _ _ _ fr'' s'' (x'.trans x'') l'' (Fh.cons sb) hK
  | .grp j gd wt b pk r, gs, prev, hk, μ, f, h, a, w, K, rest, fr, s, gl, l, hr, he => by
    have hk : (((Pe N pk.dst) && (Gi pk.guard (Acv gs) && Si pk.dst gs)) && (Qc G gd wt pk.op && (Auk gd prev && (Option.rec false (fun o => Option.rec false (fun d => Nat.beq d gd) o.dst) (En ops.toList j))))
      && (Iq P E N G ops.toList b (some (j, wt)) ((j, wt, gd) :: gs) [] && Iq P E N G ops.toList r (Acv gs) gs (pk.dst :: prev))) = true := hk
    simp only [Bool.and_eq_true] at hk
    obtain ⟨⟨⟨hd, hg, hn⟩, hpk, _, hjd⟩, hb, hrr⟩ := hk
    have hj : ((ops[j]?).bind (·.dst)) = some gd := by
      rw [Ep, Array.getElem?_toList] at hjd
      cases ho : ops[j]? with
      | none => rw [ho] at hjd; cases hjd
      | some o =>
        rw [ho] at hjd
        have hjd : (Option.rec false (fun d => Nat.beq d gd) o.dst : Bool) = true := hjd
        show o.dst = some gd
        cases hod : o.dst with
        | none => rw [hod] at hjd; cases hjd
        | some d => rw [hod] at hjd; rw [Nat.eq_of_beq_eq_true hjd]
    obtain ⟨x, y, cv, epk, hx, hy, hcv⟩ := Zs hpk
    obtain ⟨t, hft, hr⟩ := Hi (show asB (f gd) (fun t => A47 E wt b.flat pk t (Gr E call b) (Gr E call r) f h K) from hr)
    have hvt : a.tmps.getD gd undef = .bool t := by have := fr.get gd; rw [hft] at this; exact this
    have hgt : a.tmps[gd]? = some (.bool t) := by
      rw [Array.getD_eq_getD_getElem?] at hvt
      cases hq : a.tmps[gd]? with
      | none => rw [hq] at hvt; cases hvt
      | some v => rw [hq] at hvt; exact congrArg some hvt
    have hr : Ao (fun kj => gate wt t (Gr E call b f h (fun f h => asB (eval' E (Ef wt x y) f) (fun v => kj v h))) (asB (eval' E (Ef wt y x) f) (fun v => kj v h)))
        (fun v h => Gr E call r (Dm (Abo b.flat f) pk.dst (.bool v)) h K) := by
      unfold A47 at hr
      rw [epk] at hr
      exact hr
    have hbd := Ln hb
    show wpListIn (Fo ro) 0 P ops Q ((b.flat ++ pk :: r.flat) ++ rest) a w
    rw [List.append_assoc]
    by_cases hw : t = wt
    · subst hw
      have hr : Gr E call b f h (fun f' h' => asB (eval' E (Ef t x y) f') (fun v => Gr E call r (Dm (Abo b.flat f) pk.dst (.bool v)) h' K)) := by cases t <;> exact hr
      refine Wg ok hcall b (gs := (j, t, gd) :: gs) hb fr s gl ?_ hr ?_
      · intro g hg'
        rcases List.mem_cons.1 hg' with rfl | hg'
        · exact ⟨hj, by show yb (a.tmps[gd]?) = some t; rw [hgt]; rfl⟩
        · exact l g hg'
      · intro μ' f' h' a' w' fr' s' x' l' sb hK
        obtain ⟨v, hv, hK⟩ := Hi hK
        have lo : Live ops gs a' := fun g hg' => l' g (by simp [hg'])
        show wpListIn (Fo ro) 0 P ops Q (pk :: (r.flat ++ rest)) a' w'
        unfold wpListIn
        rw [Pu (Lm hg) lo, if_pos rfl]
        have hc : a'.eval (.tmp gd) = .bool t := by
          have := (l' (j, t, gd) (by simp)).2
          have h2 : yb (a'.tmps[gd]?) = some t := this
          show a'.tmps.getD gd undef = .bool t
          rw [Array.getD_eq_getD_getElem?]
          cases hq : a'.tmps[gd]? with
          | none => rw [hq] at h2; cases h2
          | some u => rw [hq] at h2; cases u <;> simp [yb] at h2; subst h2; rfl
        have hev : a'.eval (Ef t x y) = .bool v := by
          have := fr'.eval (E := E) (gl.mono x'.le) (Sg (w := t) hx hy)
          rw [hv] at this; exact this
        refine Aoh epk hc ?_
        rw [hev]
        refine Wg ok hcall r hrr (((fr.mono x'.le).top sb fr'.defs).put hd (av := .bool v) (rfl : VR μ' (.bool v) (.bool v))) s' (gl.mono x'.le) (lo.put hn _) hK ?_
        intro μ'' f'' h'' a'' w'' fr'' s'' x'' l'' sb' hK'
        exact he _ _ _ _ _ fr'' s'' (x'.trans x'') l'' (sb.append (Fh.cons sb')) hK'
    · have hr : asB (eval' E (Ef wt y x) f) (fun v => Gr E call r (Dm (Abo b.flat f) pk.dst (.bool v)) h K) := by
        cases t <;> cases wt <;> first | exact hr | exact absurd rfl hw
      obtain ⟨v, hv, hK⟩ := Hi hr
      refine Yq hb fr.size hj (by rw [hgt]; simpa [yb] using hw) (by simp) ?_
      have sb : Fh b.flat a (Eo b.flat a) := .Eo _ _
      have lo : Live ops gs (Eo b.flat a) := l.same sb fun o ho g hg' => (hbd o ho).2 g (by simp [hg'])
      show wpListIn (Fo ro) 0 P ops Q (pk :: (r.flat ++ rest)) _ w
      unfold wpListIn
      rw [Pu (Lm hg) lo, if_pos rfl]
      have hc : (Eo b.flat a).eval (.tmp gd) = .bool t := by
        show (Eo b.flat a).tmps.getD gd undef = .bool t
        rw [Array.getD_eq_getD_getElem?, sb.2 gd fun o ho => (hbd o ho).2 (j, wt, gd) (by simp), hgt]; rfl
      have hch : Ef t x y = Ef wt y x := by cases t <;> cases wt <;> first | rfl | exact absurd rfl hw
      have hev : (Eo b.flat a).eval (Ef t x y) = .bool v := by
        have := fr.eval (E := E) gl (Sg (w := wt) hy hx)
        rw [hv] at this
        have this : a.eval (Ef wt y x) = .bool v := this
        rw [hch, hcv] at *
        exact this
      refine Aoh epk hc ?_
      rw [hev]
      refine Wg ok hcall r hrr ((fr.top sb (by rw [Abg]; exact fr.defs)).put hd (av := .bool v) (rfl : VR μ (.bool v) (.bool v))) s gl (lo.put hn _) hK ?_
      intro μ'' f'' h'' a'' w'' fr'' s'' x'' l'' sb' hK'
      exact he _ _ _ _ _ fr'' s'' x'' l'' (sb.append (Fh.cons sb')) hK'
theorem Yy(l0:List Oper):∀(n:Nat)(g:Option (Nat×Bool))(l:List Oper),(Hq l0 n g l).1.flat++(Hq l0 n g l).2=l:=by
 intro n
 induction n with
 |zero=>intro g l;rfl
 |succ n ih=>
  intro g l
  cases l with
  |nil=>rfl
  |cons o l'=>
   show(Ts l0 (Hq l0 n) g (o::l')).1.flat++(Ts l0 (Hq l0 n) g (o::l')).2=o::l'
   unfold Ts
   simp only
   cases hs:Gi o.guard g with
   |true=>
    simp only
    have:=ih g l'
    generalize Hq l0 n g l'=q at this ⊢
    obtain⟨q1,q2⟩:=q
    show o::(q1.flat++q2)=o::l'
    rw[this]
   |false=>
    simp only
    cases hg:o.guard with
    |none=>rfl
    |some p=>
     simp only
     cases Ay3 l0 g p.1 with
     |none=>rfl
     |some gd=>
      simp only
      have hb:=ih (some p) (o::l')
      generalize Hq l0 n (some p) (o::l')=q at hb ⊢
      obtain⟨q1,q2⟩:=q
      cases q2 with
      |nil=>rfl
      |cons pk l''=>
       simp only
       have hc:=ih g l''
       generalize Hq l0 n g l''=z at hc ⊢
       obtain⟨z1,z2⟩:=z
       show(q1.flat++pk::z1.flat)++z2=o::l'
       rw[←hb,←hc];simp
theorem Ako{l:List Oper}{its:Its}(h:Aac l=some its):its.flat=l:=by
 unfold Aac at h
 have hf:=Yy l (Nat.add (Nat.mul 2 (len l)) 2) none l
 generalize Hq l (Nat.add (Nat.mul 2 (len l)) 2) none l=q at h hf
 obtain⟨q1,q2⟩:=q
 cases q2 with
 |nil=>cases h;simpa using hf
 |cons=>cases h
end
end Go.Den
