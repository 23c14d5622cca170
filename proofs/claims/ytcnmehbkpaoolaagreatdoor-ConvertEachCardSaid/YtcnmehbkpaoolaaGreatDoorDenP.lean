/-
 Proof.
-/
import Derived.Test.YtcnmehbkpaoolaaGreatDoorDenA
import Derived.Test.YtcnmehbkpaoolaaGreatDoorDenC
noncomputable section
namespace Go.Den
abbrev FT:=Nat→AV
abbrev CF:=Abc Prop FT
abbrev H:=Hp FT
abbrev KV:=AV→H→Prop
def Ag(f:FT)(d:Nat)(v:AV):FT:=fun u=>Bool.rec (f u) v (Nat.beq u d)
def Ac(l:List AV):FT:=fun t=>Option.rec .undef (fun v=>v) (Ec l t)
def Bd5:FI where
 T:=FT
 init l:=Ac l
 get f t:=f t
 set f t v:=Ag f t v
 force f k:=k f
abbrev CP(E:Env):Cx Prop:=⟨E,Bd5,False⟩
def fN(n:Nat)(K:Nat→Prop):Prop:=Nat.rec False (fun m _=>K m) (Nat.succ n)
def fI(n:Int)(K:Int→Prop):Prop:=Int.rec (fun m=>fN m (fun m=>K (.ofNat m))) (fun m=>fN m (fun m=>K (.negSucc m))) n
def Ci(n:Int)(K:Nat→Prop):Prop:=Int.rec (fun m=>K m) (fun _=>False) n
def An(M:(Bool→H→Prop)→Prop)(k:Bool→H→Prop):Prop:=M k
def oV{α:Type}(o:Option α)(K:α→Prop):Prop:=Option.rec False K o
def oK(o:Option (AV×H))(k:KV):Prop:=Option.rec False (fun p=>Prod.rec (fun v h=>Bw v (fun v=>Hp.rec (fun m n=>Ja m (fun m=>k v ⟨m,n⟩)) h)) p) o
def cnd(t:Bool)(A B:Prop):Prop:=Bool.rec B A t
def gate(w t:Bool)(A B:Prop):Prop:=Bool.rec (Bool.rec A B t) (Bool.rec B A t) w
def Eb(l c i:Nat)(K:Nat→Prop):Prop:=Bool.rec False (fN (Fm c i) K) (Nat.ble (Nat.add i 1) l)
def Ge(l c lo hi:Nat)(K:Nat→Nat→Prop):Prop:=Bool.rec False (fN (Nat.sub hi lo) (fun n=>fN (Vs c lo hi) (fun d=>K n d))) (Ah (Nat.ble lo hi) (Nat.ble hi l))
def Alw(l c m d:Nat)(K:Nat→Nat→Prop):Prop:=Bool.rec False (fN (Nat.add l m) (fun n=>fN (Ys l c d) (fun e=>K n e))) (Nat.ble (Nat.add l m) (intMax .i64))
def ltS(l c m d:Nat):Bool:=Qs (Gs l c) (Gs m d)
def Ayp(k:IntKind)(a b:Int)(K:Int→Prop):Prop:=Bool.rec (fI (wrap k (a.tdiv b)) K) False (Ba b (.ofNat 0))
def Bi5(a b:Int)(K:Int→Prop):Prop:=Bool.rec (fI (a.tmod b) K) False (Ba b (.ofNat 0))
def Apm(k:IntKind)(a b:Int)(K:Int→Prop):Prop:=Ci b (fun b=>fI (wrap k (a*2^(min b k.bits))) K)
def Bb0(k:IntKind)(a b:Int)(K:Int→Prop):Prop:=Ci b (fun b=>fI (a.fdiv (2^(min b k.bits))) K)
def Bdc(a b:Int)(K:Nat→Nat→Prop):Prop:=Ci a (fun a=>Ci b (fun b=>K a b))
def Aby(g:Nat→Nat→Nat)(k:IntKind)(a b:Int)(K:Int→Prop):Prop:=Bdc a b (fun a b=>Bool.rec False (fN (g a b) (fun n=>K (.ofNat n))) (Ah (Nat.ble a (intMax k)) (Nat.ble b (intMax k))))
def low(n:Nat):Nat:=(fun(_:Nat→(Nat→Prop)→Prop)(_:Int→(Int→Prop)→Prop)(_:((Bool→H→Prop)→Prop)→(Bool→H→Prop)→Prop)(_:Nat→Nat→Nat→(Nat→Prop)→Prop)(_:Nat→Nat→Nat→Nat→(Nat→Nat→Prop)→Prop)(_:Nat→Nat→Nat→Nat→(Nat→Nat→Prop)→Prop)
 (_:IntKind→Int→Int→(Int→Prop)→Prop) (_:IntKind→Int→Int→(Int→Prop)→Prop) (_:IntKind→Int→Int→(Int→Prop)→Prop) (_:(Nat→Nat→Nat)→IntKind→Int→Int→(Int→Prop)→Prop) (_:Option (AV×H)→KV→Prop) (_:H→P→Nat→Prop→(AV→Prop)→Prop) (_:H→P→Nat→List AV→Prop→(H→Prop)→Prop) (_:H→Ob FT→(P→H→Prop)→Prop)=>n)
 fN fI An Eb Ge Alw Ayp Apm Bb0 Aby oK (fun h b o x k=>h.Gp b o x k) (fun h b o l x k=>h.Gm b o l x k) (fun h o k=>h.Fx o k)
def Aj:Prop:=(fun(_:Nat)=>False) (low 0)
def Ais(a b:IntKind):Bool:=match a with
 |.i8=>match b with|.i8=>true|_=>false
 |.i16=>match b with|.i16=>true|_=>false
 |.i32=>match b with|.i32=>true|_=>false
 |.i64=>match b with|.i64=>true|_=>false
 |.u8=>match b with|.u8=>true|_=>false
 |.u16=>match b with|.u16=>true|_=>false
 |.u32=>match b with|.u32=>true|_=>false
 |.u64=>match b with|.u64=>true|_=>false
def chk(b:Bool)(K:Prop):Prop:=Bool.rec Aj K b
section
def asI(k:IntKind)(v:AV)(K:Int→Prop):Prop:=AV.rec (motive_1:=fun _=>Prop) (motive_2:=fun _=>Unit)
 (fun _=>Aj) (fun j n=>Bool.rec Aj (K n) (Ais k j)) (fun _ _=>Aj) Aj (fun _ _=>Aj) Aj (fun _ _ _ _ _=>Aj) Aj (fun _=>Aj) (fun _ _ _ _ _=>Aj) Aj (fun _ _ _=>Aj) Aj (fun _ _=>Aj) (fun _ _=>Aj) Aj () (fun _ _ _ _=>()) v
def Aqx(v:AV)(K:Int→Prop):Prop:=AV.rec (motive_1:=fun _=>Prop) (motive_2:=fun _=>Unit)
 (fun _=>Aj) (fun _ n=>K n) (fun _ _=>Aj) Aj (fun _ _=>Aj) Aj (fun _ _ _ _ _=>Aj) Aj (fun _=>Aj) (fun _ _ _ _ _=>Aj) Aj (fun _ _ _=>Aj) Aj (fun _ _=>Aj) (fun _ _=>Aj) Aj () (fun _ _ _ _=>()) v
def asB(v:AV)(K:Bool→Prop):Prop:=AV.rec (motive_1:=fun _=>Prop) (motive_2:=fun _=>Unit)
 (fun b=>K b) (fun _ _=>Aj) (fun _ _=>Aj) Aj (fun _ _=>Aj) Aj (fun _ _ _ _ _=>Aj) Aj (fun _=>Aj) (fun _ _ _ _ _=>Aj) Aj (fun _ _ _=>Aj) Aj (fun _ _=>Aj) (fun _ _=>Aj) Aj () (fun _ _ _ _=>()) v
def asS(v:AV)(K:Nat→Nat→Prop):Prop:=AV.rec (motive_1:=fun _=>Prop) (motive_2:=fun _=>Unit)
 (fun _=>Aj) (fun _ _=>Aj) (fun l c=>K l c) Aj (fun _ _=>Aj) Aj (fun _ _ _ _ _=>Aj) Aj (fun _=>Aj) (fun _ _ _ _ _=>Aj) Aj (fun _ _ _=>Aj) Aj (fun _ _=>Aj) (fun _ _=>Aj) Aj () (fun _ _ _ _=>()) v
def asP(v:AV)(K:P→Nat→Prop):Prop:=AV.rec (motive_1:=fun _=>Prop) (motive_2:=fun _=>Unit)
 (fun _=>Aj) (fun _ _=>Aj) (fun _ _=>Aj) Aj (fun b o=>K b o) Aj (fun _ _ _ _ _=>Aj) Aj (fun _=>Aj) (fun _ _ _ _ _=>Aj) Aj (fun _ _ _=>Aj) Aj (fun _ _=>Aj) (fun _ _=>Aj) Aj () (fun _ _ _ _=>()) v
def asG(v:AV)(K:List AV→Prop):Prop:=AV.rec (motive_1:=fun _=>Prop) (motive_2:=fun _=>Unit)
 (fun _=>Aj) (fun _ _=>Aj) (fun _ _=>Aj) Aj (fun _ _=>Aj) Aj (fun _ _ _ _ _=>Aj) Aj (fun _=>Aj) (fun _ _ _ _ _=>Aj) Aj (fun _ _ _=>Aj) Aj (fun cs _=>K cs) (fun _ _=>Aj) Aj () (fun _ _ _ _=>()) v
def asT(v:AV)(K:List AV→Prop):Prop:=AV.rec (motive_1:=fun _=>Prop) (motive_2:=fun _=>Unit)
 (fun _=>Aj) (fun _ _=>Aj) (fun _ _=>Aj) Aj (fun _ _=>Aj) Aj (fun _ _ _ _ _=>Aj) Aj (fun _=>Aj) (fun _ _ _ _ _=>Aj) Aj (fun _ _ _=>Aj) Aj (fun _ _=>Aj) (fun cs _=>K cs) Aj () (fun _ _ _ _=>()) v
def Bgp(v:AV)(K:Fn→List AV→List AV→Prop):Prop:=AV.rec (motive_1:=fun _=>Prop) (motive_2:=fun _=>Unit)
 (fun _=>Aj) (fun _ _=>Aj) (fun _ _=>Aj) Aj (fun _ _=>Aj) Aj (fun _ _ _ _ _=>Aj) Aj (fun _=>Aj) (fun fn a c _ _=>K fn a c) Aj (fun _ _ _=>Aj) Aj (fun _ _=>Aj) (fun _ _=>Aj) Aj () (fun _ _ _ _=>()) v
def Awo(o:Ob FT)(K:(Nat→AV)→LpS→LoopState→AX→Prop):Prop:=Ob.rec Aj (fun _ _ _ _ _=>Aj) (fun _ _=>Aj) (fun _ _=>Aj) (fun _ _ _=>Aj) (fun f s st pd=>K f s st pd) (fun _ _ _ _=>Aj) o
def one(v:AV)(K:Prop):Prop:=AV.rec (motive_1:=fun _=>Prop) (motive_2:=fun _=>Unit)
 (fun _=>K) (fun _ _=>K) (fun _ _=>K) K (fun _ _=>K) K (fun _ _ _ _ _=>K) K (fun _=>K) (fun _ _ _ _ _=>K) K (fun _ _ _=>K) K (fun _ _=>Aj) (fun _ _=>Aj) Aj () (fun _ _ _ _=>()) v
def Ef(v:AV)(K:Nat→Prop):Prop:=AV.rec (motive_1:=fun _=>Prop) (motive_2:=fun _=>Unit)
 (fun _=>Aj) (fun _ _=>Aj) (fun _ _=>Aj) Aj (fun _ _=>Aj) (K 0) (fun _ _ n _ _=>K n) Aj (fun _=>Aj) (fun _ _ _ _ _=>Aj) Aj (fun _ _ _=>Aj) Aj (fun _ _=>Aj) (fun _ _=>Aj) Aj () (fun _ _ _ _=>()) v
def Bz(sz i:Nat)(v:AV)(K:AV→Prop):Prop:=AV.rec (motive_1:=fun _=>Prop) (motive_2:=fun _=>Unit)
 (fun _=>Aj) (fun _ _=>Aj) (fun _ _=>Aj) Aj (fun _ _=>Aj) Aj (fun b o n z _=>Bool.rec Aj (fN (Nat.add o (Nat.mul i sz)) (fun q=>K (.ptr b q))) (Ah (Nat.ble (Nat.add i 1) n) (Nat.beq sz z))) Aj (fun _=>Aj) (fun _ _ _ _ _=>Aj) Aj (fun _ _ _=>Aj) Aj (fun _ _=>Aj) (fun _ _=>Aj) Aj () (fun _ _ _ _=>()) v
end
def Am(o:Nat)(v:AV)(K:AV→Prop):Prop:=asP v (fun b q=>fN (Nat.add q o) (fun q=>K (.ptr b q)))
def ld1(a:AV)(h:H)(K:AV→Prop):Prop:=asP a (fun b o=>h.Gp b o Aj K)
def ldn(n:Nat)(a:AV)(h:H)(K:AV→Prop):Prop:=asP a (fun b o=>h.Hu b o n Aj (fun l=>K (.agg l)))
def st1(a v:AV)(h:H)(K:H→Prop):Prop:=asP a (fun b o=>one v (h.Gm b o [v] Aj K))
def stn(n:Nat)(a v:AV)(h:H)(K:H→Prop):Prop:=asP a (fun b o=>asG v (fun cs=>Bool.rec Aj (h.Gm b o cs Aj K) (Ah (Nat.beq (len cs) n) (Nat.ble 1 n))))
def Bk4(o:Nat)(v:AV)(K:AV→Prop):Prop:=asG v (fun cs=>oV (Ec cs o) K)
def Bk3(o n:Nat)(v:AV)(K:AV→Prop):Prop:=asG v (fun cs=>K (.agg (Ie n (Qi o cs))))
def ext(i:Nat)(v:AV)(K:AV→Prop):Prop:=asT v (fun cs=>oV (Ec cs i) K)
def Bgn(o:Ob FT)(K:P→Nat→List Nat→Nat→Prop):Prop:=Ob.rec Aj (fun _ _ _ _ _=>Aj) (fun _ _=>Aj) (fun _ _=>Aj) (fun _ _ _=>Aj) (fun _ _ _ _=>Aj) (fun m since seen stepped=>K m since seen stepped) o
abbrev Ent:=AV×AV×Nat
def Ah9(n:Nat)(l:List Nat):Bool:=List.rec false (fun x _ ih=>Bool.rec ih true (Nat.beq x n)) l
def leftOf(seen:List Nat)(es:List Ent):List Ent:=List.rec [] (fun e _ ih=>Bool.rec (e::ih) ih (Ah9 e.2.2 seen)) es
def Amc(since:Nat)(l:List Ent):Bool:=List.rec true (fun e _ ih=>Bool.rec false ih (Nat.ble (Nat.add e.2.2 1) since)) l
def Agu(stepped:Nat)(l:List Ent):Bool:=List.rec false (fun e _ ih=>Bool.rec ih true (Nat.ble (Nat.add e.2.2 1) stepped)) l
def Aag{α:Type}(l:List α):Bool:=List.rec true (fun _ _ _=>false) l
def Ao0(K:Ent→Prop)(l:List Ent):Prop:=List.rec True (fun e r ih=>List.rec (K e) (fun _ _ _=>And (K e) ih) r) l
def On(b m:P)(since:Nat)(seen:List Nat)(es:List Ent)(clock:Nat)(h:H)(k:KV):Prop:=
 List.rec (k (.tuple [.bool false]) h) (fun e r _=>Ao0 (fun e=>h.Po b (.Ot m since (Kb seen [e.2.2]) clock) (fun h=>k (.tuple [.bool true,e.1,e.2.1]) h)) (e::r)) (leftOf seen es)
def Atf(it:AV)(h:H)(k:KV):Prop:=asP it (fun b o=>Bool.rec Aj (Bgn (h.at b) (fun m since seen stepped=>oV (Oz (h.at m)) (fun p=>Bool.rec Aj (On b m since seen p.1 p.2 h k)
 (Ah (Amc since (leftOf seen p.1)) (Bool.rec (Bool.rec (Agu stepped p.1) true (Aag p.1)) true (Aag seen)))))) (Nat.beq o 0))
section
variable(E:Env)
def eval'(o:Operand)(f:FT):AV:=eval (CP E) o f
def coD(d:TypeDesc)(v:AV)(K:AV→Prop):Prop:=match d with
 |.int k=>asI k v (fun n=>K (.int k n))
 |.bool=>asB v (fun b=>K (.bool b))
 |.string=>asS v (fun l c=>K (.str l c))
 |_=>K v
def coK(t:TypeId)(v:AV)(K:AV→Prop):Prop:=match E.ty t with
 |some ti=>coD ti.desc v K
 |none=>K v
def bI(op:BinOp)(k:IntKind)(a b:Int)(K:AV→Prop):Prop:=match op with
 |.add=>fI (wrap k (Bn a b)) (fun n=>K (.int k n))
 |.sub=>fI (wrap k (Jj a b)) (fun n=>K (.int k n))
 |.mul=>fI (wrap k (a*b)) (fun n=>K (.int k n))
 |.eql=>K (.bool (Ba a b))
 |.neq=>K (.bool (Da (Ba a b)))
 |.lss=>K (.bool (Cs a b))
 |.leq=>K (.bool (Ex a b))
 |.gtr=>K (.bool (Cs b a))
 |.geq=>K (.bool (Ex b a))
 |.quo=>Ayp k a b (fun n=>K (.int k n))
 |.rem=>Bi5 a b (fun n=>K (.int k n))
 |.shl=>Apm k a b (fun n=>K (.int k n))
 |.shr=>Bb0 k a b (fun n=>K (.int k n))
 |.and=>Aby Nat.land k a b (fun n=>K (.int k n))
 |.or=>Aby Nat.lor k a b (fun n=>K (.int k n))
 |.xor=>Aby Nat.xor k a b (fun n=>K (.int k n))
 |.andNot=>False
def bS(op:BinOp)(l c m d:Nat)(K:AV→Prop):Prop:=match op with
 |.add=>Alw l c m d (fun n e=>K (.str n e))
 |.eql=>K (.bool (Bm l c m d))
 |.neq=>K (.bool (Da (Bm l c m d)))
 |.lss=>K (.bool (ltS l c m d))
 |.geq=>K (.bool (Da (ltS l c m d)))
 |_=>False
def Aog(op:BinOp):Bool:=match op with
 |.shl=>true
 |.shr=>true
 |_=>false
def A87(op:BinOp)(k:IntKind)(y:AV)(K:Int→Prop):Prop:=match Aog op with
 |true=>Aqx y K
 |false=>asI k y K
def A83(op:BinOp)(t:TypeId)(d:TypeDesc)(x y:AV)(K:AV→Prop):Prop:=match d with
 |.int k=>asI k x (fun a=>A87 op k y (fun b=>bI op k a b K))
 |.string=>asS x (fun l c=>asS y (fun m d=>bS op l c m d K))
 |_=>oV (Kz E op t x y) K
def Awh(op:BinOp)(t:TypeId)(x y:AV)(K:AV→Prop):Prop:=match E.ty t with
 |some ti=>A83 E op t ti.desc x y K
 |none=>False
def Aqt(op:BinOp)(t:TypeId)(ox oy:Operand)(x y:AV)(K:AV→Prop):Prop:=Bool.rec (Awh E op t x y K) (oV (Al4 E op t x y) K) (Al7 E op t ox oy)
def un2(op:UnOp)(x:AV)(K:AV→Prop):Prop:=match op with
 |.not=>asB x (fun b=>K (.bool (Da b)))
 |op=>oV (unA op x) K
def Acm(t:TypeId)(a:AV)(h:H)(K:AV→Prop):Prop:=match E.ty t with
 |some i=>match i.agg with
  |true=>ldn i.size a h K
  |false=>ld1 a h K
 |none=>False
def Aj9(t:TypeId)(a v:AV)(h:H)(K:H→Prop):Prop:=match E.ty t with
 |some i=>match i.agg with
  |true=>stn i.size a v h K
  |false=>match Nat.beq i.size 1 with
   |true=>st1 a v h K
   |false=>False
 |none=>False
def Aor(t:TypeId)(i:Nat):Option (Nat×Nat×Bool):=match E.ty t with
 |some ti=>match ti.desc with
  |.struct fs=>match Mg fs.toList i with
   |some p=>match E.ty p.2 with
    |some fi=>some (p.1,fi.size,fi.agg)
    |none=>none
   |none=>none
  |_=>none
 |none=>none
def Aas(t:TypeId)(x:AV)(i:Nat)(K:AV→Prop):Prop:=match Aor E t i with
 |some p=>match p.2.2 with
  |true=>Bk3 p.1 p.2.1 x K
  |false=>Bk4 p.1 x K
 |none=>False
def Ur(t:TypeId)(x:AV)(i:Nat)(K:AV→Prop):Prop:=match Wc E t i with
 |some o=>Am o x K
 |none=>False
def Akt(v:AV)(K:Nat→Prop):Prop:=Aqx v (fun n=>Ci n K)
def Lj(t:TypeId)(x i:AV)(h:H)(k:KV):Prop:=match Rf E t with
 |some e=>match E.ty e with
  |some ei=>Akt i (fun n=>Bz ei.size n x (fun v=>k v h))
  |none=>False
 |none=>oK (Cw E t x (Bc i) h) k
def Qa(t:TypeId)(x i:AV)(h:H)(k:KV):Prop:=match E.ty t with
 |some ti=>match isStr ti.desc with
  |true=>asS x (fun l c=>Akt i (fun n=>Eb l c n (fun b=>k (.int .u8 (.ofNat b)) h)))
  |false=>oK (Lm E t x (Bc i) h) k
 |none=>False
def Ail(ats:List TypeId)(d:TypeDesc)(x:AV)(h:H)(k:KV):Prop:=match d with
 |.string=>asS x (fun l _=>k (.int .i64 (.ofNat l)) h)
 |.slice _=>Ef x (fun n=>k (.int .i64 (.ofNat n)) h)
 |_=>oK (Vj E ats x h) k
def Ap0(ats:List TypeId)(x:AV)(h:H)(k:KV):Prop:=match Ec ats 0 with
 |some t=>match E.ty t with
  |some ti=>Ail E ats ti.desc x h k
  |none=>False
 |none=>False
def Jo(b:Builtin)(ats:List TypeId)(args:List AV)(h:H)(k:KV):Prop:=match b with
 |.len=>match args with
  |[x]=>Ap0 E ats x h k
  |_=>False
 |b=>oK (Aq E b ats args h) k
def En(t:TypeId):Bool:=match E.ty t with
 |some ti=>Nq ti.desc
 |none=>false
def Aay(s d:TypeId)(dd:TypeDesc)(x:AV)(h:H)(k:KV):Prop:=match dd with
 |.int kd=>match En E s with
  |true=>Aqx x (fun n=>fI (wrap kd n) (fun n=>k (.int kd n) h))
  |false=>oK (Gh E h s d x) k
 |_=>oK (Gh E h s d x) k
def Vb(s d:TypeId)(x:AV)(h:H)(k:KV):Prop:=match E.ty d with
 |some ti=>Aay E s d ti.desc x h k
 |none=>False
def Aqq(o:Option AV)(d:Nat)(K:Nat→Prop):Prop:=match o with
 |some v=>Akt v K
 |none=>K d
def slice3(h:H)(t:TypeId)(x:AV)(lo hi mx:Option (Option Nat)):Option (AV×H):=Option.rec none (fun m=>Ff h (Jt E h t x lo hi m)) (Px mx)
def Lr(t:TypeId)(x:AV)(lo hi mx:Option AV)(h:H)(k:KV):Prop:=match E.ty t with
 |some ti=>match isStr ti.desc with
  |true=>match mx with
   |none=>asS x (fun l c=>Aqq hi l (fun hi=>Aqq lo 0 (fun lo=>Ge l c lo hi (fun n d=>k (.str n d) h))))
   |some _=>False
  |false=>oK (slice3 E h t x (lo.map Bc) (hi.map Bc) (mx.map Bc)) k
 |none=>False
def Amb(e:TypeId)(h:H)(k:KV):Prop:=match E.ty e with
 |some i=>h.Fx (rowOf e i.zero) (fun b h=>k (.ptr b 0) h)
 |none=>False
def Zz(t:TypeId)(x:AV)(h:H)(k:KV):Prop:=match E.ty t with
 |some ti=>match isIface ti.desc with
  |true=>False
  |false=>k (.iface t x) h
 |none=>False
def A80(e:TypeId)(v:AV)(h:H)(k:KV):Prop:=match E.ty e with
 |some i=>match i.agg with
  |true=>asG v (fun cs=>Bool.rec Aj (h.Fx (rowOf e cs) (fun b h=>k (.ptr b 0) h)) (Nat.ble 1 (len cs)))
  |false=>one v (h.Fx (rowOf e [v]) (fun b h=>k (.ptr b 0) h))
 |none=>False
def A0e(call:CF)(fv:AV)(args:List AV)(h:H)(k:KV):Prop:=Acz (CP E) call fv args h k
def inv2(call:CF)(fv:AV)(name:String)(args:List AV)(h:H)(k:KV):Prop:=Xf (CP E) call fv name args h k
def Gy(E:Env)(f:FT)(l:List Operand):List AV:=List.rec [] (fun x _ ih=>eval' E x f::ih) l
def Ds(o:Op)(call:CF)(f:FT)(h:H)(k:KV):Prop:=match o with
 |.move x=>k (eval' E x f) h
 |.assign x=>k (eval' E x f) h
 |.alloc e=>Amb E e h k
 |.box e x=>A80 E e (eval' E x f) h k
 |.load t a=>Acm E t (eval' E a f) h (fun v=>k v h)
 |.store t a x=>Aj9 E t (eval' E a f) (eval' E x f) h (fun h=>k .undef h)
 |.binOp op t x y _=>Aqt E op t x y (eval' E x f) (eval' E y f) (fun v=>k v h)
 |.unOp op _ x=>un2 op (eval' E x f) (fun v=>k v h)
 |.convert s d x=>Vb E s d (eval' E x f) h k
 |.makeInterface t x=>Zz E t (eval' E x f) h k
 |.slice t x lo hi mx=>Lr E t (eval' E x f) (lo.map (fun x=>eval' E x f)) (hi.map (fun x=>eval' E x f)) (mx.map (fun x=>eval' E x f)) h k
 |.fieldAddr t x i=>Ur E t (eval' E x f) i (fun v=>k v h)
 |.field t x i=>Aas E t (eval' E x f) i (fun v=>k v h)
 |.indexAddr t x i=>Lj E t (eval' E x f) (eval' E i f) h k
 |.index t x i=>Qa E t (eval' E x f) (eval' E i f) h k
 |.extract x i=>ext i (eval' E x f) (fun v=>k v h)
 |.call c=>match c.callee with
  |.builtin b=>Jo E b c.argTypes.toList (Gy E f c.args.toList) h k
  |.invoke r name=>inv2 E call (eval' E r f) name (Gy E f c.args.toList) h k
  |.value v=>A0e E call (eval' E v f) (Gy E f c.args.toList) h k
 |.makeFunc fn a b=>k (.func fn (Gy E f a.toList) (Gy E f b.toList)) h
 |o=>exec o (CP E) call f h k
def Auw(o:Op)(call:CF)(f:FT)(h:H)(k:KV):Prop:=match o with
 |.next x b=>match b with
  |false=>Atf (eval' E x f) h k
  |true=>Ds E (.next x true) call f h k
 |o=>Ds E o call f h k
end
inductive Its where
 |nil
 |op (o:Oper) (rest:Its)
 |grp (j:Nat) (gd:Tmp) (want:Bool) (body:Its) (pk:Oper) (rest:Its)
def Its.flat:Its→List Oper
 |.nil=>[]
 |.op o r=>o::r.flat
 |.grp _ _ _ b pk r=>b.flat++pk::r.flat
def Dm(f:FT)(d:Option Tmp)(v:AV):FT:=match d with
 |some d=>Ag f d v
 |none=>f
def Abr(l:List Oper)(f:FT):FT:=match l with
 |[]=>f
 |o::l=>Abr l (Dm f o.dst .top)
def As2(o:Op):Option (Operand×Operand×Operand):=match o with
 |.pick c a b=>some (c,a,b)
 |_=>none
def Du(w:Bool)(x y:Operand):Operand:=Bool.rec y x w
def A5n (E : Env) (w : Bool) (bf : List Oper) (pk : Oper) (t : Bool) (body rest : FT → H → (FT → H → Prop) → Prop) (f : FT) (h : H) (K : FT → H → Prop) : Prop := match As2 pk.op with
  | none => False
  | some (_, x, y) => An (fun kj => gate w t
        (body f h (fun f h => asB (eval' E (Du w x y) f) (fun v => kj v h)))
        (asB (eval' E (Du w y x) f) (fun v => kj v h)))
        (fun v h => rest (Dm (Abr bf f) pk.dst (.bool v)) h K)
def Ga(E:Env)(call:CF)(its:Its):FT→H→(FT→H→Prop)→Prop:=Its.rec (motive:=fun _=>FT→H→(FT→H→Prop)→Prop)
 (fun f h K=>K f h)
 (fun o _ ih f h K=>Auw E o.op call f h (fun v h=>coK E o.type v (fun v=>ih (Dm f o.dst v) h K)))
 (fun _ gd w b pk _ ihb ihr f h K=>asB (f gd) (fun t=>A5n E w b.flat pk t ihb ihr f h K)) its
def Fp(a b:Option (Nat×Bool)):Bool:=match a with
 |none=>match b with
  |none=>true
  |some _=>false
 |some (i,v)=>match b with
  |none=>false
  |some (j,w)=>and (Nat.beq i j) (Ao4 v w)
where Ao4 (v w:Bool):Bool:=match v with
 |true=>w
 |false=>match w with
  |true=>false
  |false=>true
def Azq(ops:List Oper)(g:Option (Nat×Bool))(j:Nat):Option Tmp:=Option.rec none (fun o=>Bool.rec none o.dst (Fp o.guard g)) (Ec ops j)
abbrev Apa:=Option (Nat×Bool)→List Oper→Its×List Oper
def Tj(ops:List Oper)(ih:Apa):Apa:=fun g l=>List.rec (.nil,[])
 (fun o l' _=>Bool.rec
  (Option.rec (.nil,o::l') (fun p=>Option.rec (.nil,o::l') (fun gd=>
   Prod.rec (fun b r=>List.rec (.nil,o::l') (fun pk l'' _=>Prod.rec (fun q r=>(.grp p.1 gd p.2 b pk q,r)) (ih g l'')) r) (ih (some p) (o::l'))) (Azq ops g p.1)) o.guard)
  (Prod.rec (fun q r=>(.op o q,r)) (ih g l')) (Fp o.guard g)) l
def Gv(ops:List Oper)(n:Nat):Apa:=Nat.rec (motive:=fun _=>Apa) (fun _ l=>(.nil,l)) (fun _ ih=>Tj ops ih) n
def Aae(ops:List Oper):Option Its:=Prod.rec (fun q r=>List.rec (some q) (fun _ _ _=>none) r) (Gv ops (Nat.add (Nat.mul 2 (len ops)) 2) none ops)
def allEq(r:AV→AV→Bool)(xs:List AV):List AV→Bool:=List.rec (motive:=fun _=>List AV→Bool) (fun ys=>List.rec true (fun _ _ _=>false) ys) (fun x _ ih ys=>List.rec false (fun y ys _=>Ah (r x y) (ih ys)) ys) xs
def A5p(x y:Fn):Bool:=match x with
 |.func i=>match y with|.func j=>Nat.beq i j|_=>false
 |_=>false
def Awl(r:AV→AV→Bool)(x y:AV):Bool:=match x with
 |.bool a=>match y with|.bool b=>Ajr a b|_=>false
 |.int k a=>match y with|.int j b=>Ah (Ais k j) (Ba a b)|_=>false
 |.str l c=>match y with|.str m d=>Ah (Nat.beq l m) (Nat.beq c d)|_=>false
 |.Fq=>match y with|.Fq=>true|_=>false
 |.ptr a i=>match y with|.ptr b j=>Ah (P.beq a b) (Nat.beq i j)|_=>false
 |.Ad=>match y with|.Ad=>true|_=>false
 |.slice a i n z t=>match y with|.slice b j m w u=>Ah (Ah (P.beq a b) (Nat.beq i j)) (Ah (Ah (Nat.beq n m) (Nat.beq z w)) (Ajr t u))|_=>false
 |.Pw=>match y with|.Pw=>true|_=>false
 |.map a=>match y with|.map b=>P.beq a b|_=>false
 |.func f a c=>match y with|.func g b d=>Ah (A5p f g) (Ah (allEq r a b) (allEq r c d))|_=>false
 |.Ud=>match y with|.Ud=>true|_=>false
 |.iface t v=>match y with|.iface u w=>Ah (Nat.beq t u) (r v w)|_=>false
 |.He=>match y with|.He=>true|_=>false
 |.agg xs=>match y with|.agg ys=>allEq r xs ys|_=>false
 |.tuple xs=>match y with|.tuple ys=>allEq r xs ys|_=>false
 |_=>false
def Pb(n:Nat):AV→AV→Bool:=Nat.rec (fun _ _=>false) (fun _ ih=>Awl ih) n
def eqC(x y:AV)(A:Prop):Prop:=Bool.rec Aj A (Pb 4 x y)
section
variable(E:Env)
def Eo(p:TypeDesc→Bool)(t:TypeId):Bool:=match E.ty t with
 |some ti=>p ti.desc
 |none=>false
def Pz(d:TypeDesc):Bool:=match d with
 |.slice _=>true
 |_=>false
def Gw(d:TypeDesc):Bool:=match d with
 |.slice _=>true
 |.string=>true
 |_=>false
def kindOf(o:Op):Nat:=match o with
 |.move _=>0
 |.assign _=>0
 |.binOp ..=>0
 |.unOp ..=>0
 |.fieldAddr ..=>0
 |.field ..=>0
 |.extract ..=>0
 |.makeInterface ..=>0
 |.makeFunc ..=>0
 |.index ..=>0
 |.indexAddr ..=>0
 |.nilCheck _=>0
 |.build ..=>0
 |.pick ..=>0
 |.slice t _ _ _ _=>Bool.rec 1 0 (Eo E Gw t)
 |.convert s d _=>Bool.rec (Bool.rec 1 2 (Eo E Pz d)) 0 (Ah (En E s) (En E d))
 |.load ..=>1
 |.lookup ..=>1
 |.call c=>match c.callee with
  |.builtin b=>match b with
   |.len=>match c.argTypes.toList with
    |t::_=>Bool.rec 1 0 (Eo E Gw t)
    |[]=>1
   |.cap=>1
   |.unsafeSliceData=>1
   |.min=>1
   |.max=>1
   |_=>2
  |_=>2
 |_=>2
inductive Dr where
 |nil
 |op (i:Nat) (o:Oper) (rl:List (Nat×Oper)) (rest:Dr)
 |grp (j:Nat) (gd:Tmp) (want:Bool) (body:Dr) (ip:Nat) (pk:Oper) (rest:Dr)
abbrev Tri:=Nat×Oper×List (Nat×Oper)
def Yt(l:List (Nat×Oper)):List Oper:=List.rec [] (fun p _ ih=>p.2::ih) l
abbrev Agw:=Option (Nat×Bool)→List Tri→Dr×List Tri
def Qr(ops:List Oper)(ih:Agw):Agw:=fun g l=>List.rec (.nil,[])
 (fun o l' _=>Bool.rec
  (Option.rec (.nil,o::l') (fun p=>Option.rec (.nil,o::l') (fun gd=>
   Prod.rec (fun b r=>List.rec (.nil,o::l') (fun pk l'' _=>Prod.rec (fun q r=>(.grp p.1 gd p.2 b pk.1 pk.2.1 q,r)) (ih g l'')) r) (ih (some p) (o::l'))) (Azq ops g p.1)) o.2.1.guard)
  (Prod.rec (fun q r=>(.op o.1 o.2.1 o.2.2 q,r)) (ih g l')) (Fp o.2.1.guard g)) l
def Fz(ops:List Oper)(n:Nat):Agw:=Nat.rec (motive:=fun _=>Agw) (fun _ l=>(.nil,l)) (fun _ ih=>Qr ops ih) n
def Nd(call:CF)(rl:List Oper)(f:FT)(h:H)(A:Prop):Prop:=List.rec A (fun o _ ih=>Ds E o.op call f h (fun v _=>coK E o.type v (fun v=>eqC v (Option.rec .undef f o.dst) ih))) rl
def Dr.Uz(its:Dr):List (Option Tmp):=Dr.rec [] (fun _ o _ _ ih=>o.dst::ih) (fun _ _ _ _ _ pk _ ihb ihr=>Kb ihb (pk.dst::ihr)) its
def Xm(l:List (Option Tmp))(f:FT):FT:=List.rec (motive:=fun _=>FT→FT) (fun f=>f) (fun d _ ih f=>ih (Dm f d .top)) l f
def A5m (w : Bool) (bd : List (Option Tmp)) (pk : Oper) (t : Bool) (body rest : FT → H → (FT → H → Prop) → Prop) (f : FT) (h : H) (K : FT → H → Prop) : Prop := match As2 pk.op with
  | none => False
  | some (_, x, y) => An (fun kj => gate w t
        (body f h (fun f h => asB (eval' E (Du w x y) f) (fun v => kj v h)))
        (asB (eval' E (Du w y x) f) (fun v => kj v h)))
        (fun v h => rest (Dm (Xm bd f) pk.dst (.bool v)) h K)
def It(call:CF)(its:Dr):FT→H→(FT→H→Prop)→Prop:=Dr.rec (motive:=fun _=>FT→H→(FT→H→Prop)→Prop)
 (fun f h K=>K f h)
 (fun _ o rl _ ih f h K=>Ds E o.op call f h (fun v h=>coK E o.type v (fun v=>Nd E call (Yt rl) (Dm f o.dst v) h (ih (Dm f o.dst v) h K))))
 (fun _ gd w b _ pk _ ihb ihr f h K=>asB (f gd) (fun t=>A5m E w b.Uz pk t ihb ihr f h K)) its
end
def Sr(acc:List Nat)(es:List Edge):Nat:=List.rec 0 (fun e _ ih=>Bool.rec ih (Nat.lor ih (Nat.lor (Nat.shiftLeft 1 e.on) (Option.rec 0 (fun m=>m) (Ec acc e.on)))) (Region.binds .any e)) es
def Hh(l:List Oper):List Nat→List Nat:=List.rec (motive:=fun _=>List Nat→List Nat) (fun acc=>acc) (fun o _ ih acc=>ih (Kb acc [Sr acc o.after.toList])) l
def bit(m i:Nat):Bool:=Nat.beq (Nat.mod (Nat.shiftRight m i) 2) 1
def Apo(E:Env)(_ms:List Nat)(m:Nat)(g:Option (Nat×Bool))(done:List (Nat×Oper)):List (Nat×Oper):=List.rec [] (fun p _ ih=>Bool.rec ih (p::ih) (Ah (Nat.beq (kindOf E p.2.op) 1) (Ah (Bool.rec (Fp p.2.guard g) true (Fp p.2.guard none)) (Da (bit m p.1))))) done
def Ul(o:Op):Bool:=match o with
 |.alloc _=>true
 |.makeMap _ r=>match r with
  |none=>true
  |some _=>false
 |.makeSlice _ _ _=>true
 |.buildSlice _ _ _=>true
 |_=>false
def Atk(o:Op)(ms:List Nat)(i:Nat)(pl:List Nat):Nat:=Bool.rec (Option.rec 0 (fun m=>m) (Ec ms i)) (Bool.rec 0 (Option.rec 0 (fun m=>m) (Ec ms i)) (List.rec true (fun j _ ih=>Bool.rec false ih (bit (Option.rec 0 (fun m=>m) (Ec ms j)) i)) pl)) (Ul o)
def triples(E:Env)(ops:List Oper)(ms pl:List Nat):List (Nat×Oper)→List Tri:=List.rec (motive:=fun _=>List (Nat×Oper)→List Tri) (fun _=>[])
 (fun i pl ih done=>Option.rec [] (fun o=>(i,o,Bool.rec [] (Apo E ms (Atk o.op ms i pl) o.guard done) (Nat.beq (kindOf E o.op) 2))::ih (Kb done [(i,o)])) (Ec ops i)) pl
def Aqe(E:Env)(ops:List Oper)(pl:List Nat):Option Dr:=Prod.rec (fun q r=>List.rec (some q) (fun _ _ _=>none) r) (Fz ops (Nat.add (Nat.mul 2 (len ops)) 2) none (triples E ops (Hh ops []) pl []))
abbrev Aw:=List (Nat×List Nat)
def Jw(ps:Aw)(id:Nat):Option (List Nat):=List.rec none (fun p _ ih=>Bool.rec ih (some p.2) (Nat.beq p.1 id)) ps
inductive Pos where
 |root
 |l (p:Pos)
 |r (p:Pos)
 |lab (p:Pos) (n:Nat)
def Pos.beq(p:Pos):Pos→Bool:=Pos.rec (motive:=fun _=>Pos→Bool)
 (fun q=>Pos.rec true (fun _ _=>false) (fun _ _=>false) (fun _ _ _=>false) q)
 (fun _ ih q=>Pos.rec false (fun q _=>ih q) (fun _ _=>false) (fun _ _ _=>false) q)
 (fun _ ih q=>Pos.rec false (fun _ _=>false) (fun q _=>ih q) (fun _ _ _=>false) q)
 (fun _ n ih q=>Pos.rec false (fun _ _=>false) (fun _ _=>false) (fun q m _=>Ah (Nat.beq n m) (ih q)) q) p
abbrev Bu:=List (Pos×Nat)
def cutAt(cs:Bu)(p:Pos):Option Nat:=List.rec none (fun c _ ih=>Bool.rec ih (some c.2) (Pos.beq c.1 p)) cs
abbrev Jump:=Nat→FT→H→Prop
abbrev KX':=AX→FT→H→Prop
def Arl(ds:List Tmp):List AV→FT→FT:=List.rec (motive:=fun _=>List AV→FT→FT) (fun _ f=>f) (fun d _ ih vs f=>List.rec f (fun v vs _=>ih vs (Ag f d v)) vs) ds
def Aon(E:Env)(fn:Fn):Bool:=match fn with
 |.func f=>match E.fn f with
  |some fn=>match fn.body with
   | some _ => !(fn.name == "runtime.NumGoroutine")
   |none=>false
  |none=>false
 |_=>false
def isReady(s:LoopState):Bool:=match s with
 |.ready=>true
 |_=>false
def Ay3(s:LoopState):Bool:=match s with
 |.busy=>false
 |_=>true
def nOf(pls:Aw):Nat:=Option.rec 0 (fun l=>List.rec 0 (fun n _ _=>n) l) (Jw pls 4294967295)
def Xs(pls:Aw):List Nat:=Option.rec [] (fun l=>l) (Jw pls 4294967294)
def Nx(l:List Nat)(f:FT):FT:=List.rec (fun _=>.top) (fun t _ ih=>Ag ih t (f t)) l
def pFs(n:Nat):Nat→P:=Nat.rec (motive:=fun _=>Nat→P) (fun _=>.z) (fun _ ih m=>Bool.rec (Bool.rec (.r (ih (Nat.div (Nat.sub m 2) 2))) (.l (ih (Nat.div (Nat.sub m 1) 2))) (Nat.beq (Nat.mod m 2) 1)) .z (Nat.beq m 0)) n
def Beh(l:P)(K:AX→H→Prop)(h:H):Prop:=Awo (h.at l) (fun f' s st pd=>Bool.rec Aj (h.Po l (.loop f' s .exhausted pd) (fun h=>K pd h)) (Ay3 st))
def Arx(E:Env)(call:CF)(lp:LpS)(g:AV)(f:FT)(h:H)(K:AX→H→Prop):Prop:=
 Bgp g (fun fn a c=>Bool.rec Aj (h.Fx (.loop f lp .ready .normal) (fun l h=>call fn (a++[.func (.yield l.nat) [] []]++c) h (fun _ h=>Beh l K h))) (Aon E fn))
def Aqv(x y:AX):Bool:=match x with
 |.normal=>match y with|.normal=>true|_=>false
 |.exit i=>match y with|.exit j=>Nat.beq i j|_=>false
 |.goto i=>match y with|.goto j=>Nat.beq i j|_=>false
 |.ret=>match y with|.ret=>true|_=>false
def Bjg(x:AX)(l:List AX):Bool:=List.rec false (fun y _ ih=>Bool.rec ih true (Aqv x y)) l
def Bfy(l:List AX):List AX:=List.rec [] (fun x _ ih=>Bool.rec (x::ih) ih (Bjg x ih)) l
def Bfv(id:Nat)(l:List AX):List AX:=List.rec [] (fun x _ ih=>Bool.rec (x::ih) ih (Aqv x (.exit id))) l
def Aot(c:Code):List AX:=Code.rec (motive:=fun _=>List AX) [] (fun _ _ _=>[]) (fun _ _ x y=>Kb x y) (fun _ _ _ x y=>Kb x y) (fun id _ x=>Bfv id x) (fun _ x=>x)
 (fun _ _ _ _ x y=>Kb x y) (fun id=>[.exit id]) (fun _ x=>x) (fun _=>[]) (fun l=>[.goto l]) [.ret] (fun _=>[]) c
def An0(x:AX)(l:List AX)(K:AX→Prop):Prop:=List.rec False (fun y _ ih=>cnd (Aqv x y) (K y) ih) l
def opsOf(c:Code):Array Oper:=match c with
 |.region _ ops _=>ops
 |_=>#[]
def Auf(c:Code):Nat:=match c with
 |.region id _ _=>id
 |_=>0
def Afn(l:List Oper)(i:Nat):Oper:=Option.rec ⟨none,.move (.tmp 0),0,default,#[],none⟩ (fun o=>o) (Ec l i)
def A16(o:Oper):Array TypeId:=match o.op with
 |.defer c=>c.argTypes
 |_=>#[]
theorem A0t{x y:AX}(h:Aqv x y=true):x=y:=by
 cases x<;>cases y<;>first|rfl|cases h|(rw[Nat.eq_of_beq_eq_true (show Nat.beq _ _=true from h)])
theorem Ach{x:AX}{K:AX→Prop}:∀{l:List AX},An0 x l K→K x
 |[],h=>h.elim
 |y::l,h=>by
  have h:cnd (Aqv x y) (K y) (An0 x l K):=h
  cases e:Aqv x y with
  |true=>rw[e] at h;rw[A0t e];exact h
  |false=>rw[e] at h;exact Ach h
def Wk(c:Code)(p:Pos):Code:=Pos.rec c
 (fun _ ih=>match ih with|.seq a _=>a|.cond _ a _=>a|.block _ a=>a|.loop a=>a|.scope a=>a|_=>.skip)
 (fun _ ih=>match ih with|.seq _ b=>b|.cond _ _ b=>b|_=>.skip)
 (fun _ n ih=>match ih with|.scope a=>Option.rec .skip (fun c=>c) (findLabel a n)|_=>.skip) p
section
variable(E:Env)(call:CF)(pls:Aw)(cuts:Bu)(J:Jump)
def enter(p:Pos)(f:FT)(h:H)(A:Prop):Prop:=Option.rec A (fun L=>J L f h) (cutAt cuts p)
def A3d(B:FT→H→KX'→Prop)(K:KX'):KX':=fun x f h=>AX.rec (B f h K) (fun id=>K (.exit id) f h) (fun l=>K (.goto l) f h) (K .ret f h) x
def Al3(id:Nat)(K:KX'):KX':=fun x f h=>AX.rec (K .normal f h) (fun j=>Bool.rec (K (.exit j) f h) (K .normal f h) (Nat.beq j id)) (fun l=>K (.goto l) f h) (K .ret f h) x
def Atn(B:FT→H→Prop)(K:KX'):KX':=fun x f h=>AX.rec (B f h) (fun id=>K (.exit id) f h) (fun l=>K (.goto l) f h) (K .ret f h) x
def Yv(c:Code)(B:Nat→FT→H→Prop)(K:KX'):KX':=fun x f h=>AX.rec (K .normal f h) (fun id=>K (.exit id) f h) (fun l=>Option.rec (K (.goto l) f h) (fun _=>B l f h) (findLabel c l)) (K .ret f h) x
def Bfw(id:Nat)(ops:List Oper)(f:FT)(h:H)(K:FT→H→Prop):Prop:=oV (Jw pls id) (fun pl=>List.rec False (fun _ _ _=>oV (Aqe E ops pl) (fun its=>It E call its f h K)) pl)
def Bb4(id:Nat)(ops:List Oper)(d:Bool)(f:FT)(h:H)(K:FT→H→Prop):Prop:=Bool.rec (Option.rec (oV (Aae ops) (fun its=>Ga E call its f h K)) (fun _=>False) (Jw pls id)) (Bfw E call pls id ops f h K) d
abbrev Pc:=Pos→FT→H→KX'→Prop
def Bb2(a b:Pc):Pc:=fun p f h K=>a (.l p) f h (A3d (b (.r p)) K)
def A05(c:Operand)(a b:Pc):Pc:=fun p f h K=>asB (eval' E c f) (fun t=>Bool.rec (b (.r p) f h K) (a (.l p) f h K) t)
def Aro(id:Nat)(a:Pc):Pc:=fun p f h K=>a (.l p) f h (Al3 id K)
def A04(a:Pc):Pc:=fun p f h K=>a (.l p) f h (Atn (fun f h=>enter cuts J p f h False) K)
def Arm(c:Code)(a:Pc):Pc:=fun p f h K=>a (.l p) f h (Yv c (fun l f h=>enter cuts J (.lab p l) f h False) K)
def Bb3(id:Nat)(ops:List Oper)(d:Bool):Pc:=fun _ f h K=>Bb4 E call pls id ops d f h (fun f h=>K .normal f h)
def Arn(g:Operand)(ps:Array Tmp)(as bd:Code):Pc:=fun _ f h K=>Arx E call ⟨ps.toList,as,bd,pls,nOf pls⟩ (eval' E g f) (Nx (Xs pls) f) h (fun x h=>An0 x (.normal::Bfy (Aot bd)) (fun y=>K y f h))
def Oj(a:Pc):Pc:=fun p f h K=>enter cuts J p f h (a p f h K)
def Ze(c:Code):Pc:=Code.rec (motive:=fun _=>Pc)
 (Oj cuts J (fun _ f h K=>K .normal f h)) (fun id ops d=>Oj cuts J (Bb3 E call pls id ops.toList d)) (fun _ _ a b=>Oj cuts J (Bb2 a b)) (fun c _ _ a b=>Oj cuts J (A05 E c a b)) (fun id _ a=>Oj cuts J (Aro id a)) (fun _ a=>Oj cuts J (A04 cuts J a))
 (fun g ps as bd _ _=>Oj cuts J (Arn E call pls g ps as bd)) (fun id=>Oj cuts J (fun _ f h K=>K (.exit id) f h)) (fun c a=>Oj cuts J (Arm cuts J c a)) (fun _=>Oj cuts J (fun _ f h K=>K .normal f h)) (fun l=>Oj cuts J (fun _ f h K=>K (.goto l) f h)) (Oj cuts J (fun _ f h K=>K .ret f h)) (fun _=>fun _ _ _ _=>False) c
def A02(c:Code):Pc:=Code.rec (motive:=fun _=>Pc)
 (fun _ f h K=>K .normal f h) (fun id ops d=>Bb3 E call pls id ops.toList d) (fun a b _ _=>Bb2 (Ze E call pls cuts J a) (Ze E call pls cuts J b)) (fun c a b _ _=>A05 E c (Ze E call pls cuts J a) (Ze E call pls cuts J b)) (fun id a _=>Aro id (Ze E call pls cuts J a)) (fun a _=>A04 cuts J (Ze E call pls cuts J a))
 (fun g ps as bd _ _=>Arn E call pls g ps as bd) (fun id=>fun _ f h K=>K (.exit id) f h) (fun c _=>Arm cuts J c (Ze E call pls cuts J c)) (fun _=>fun _ f h K=>K .normal f h) (fun l=>fun _ f h K=>K (.goto l) f h) (fun _ f h K=>K .ret f h) (fun _=>fun _ _ _ _=>False) c
abbrev CK:=Option (Code×KX')
def ckL(p:Pos)(c:Code)(K:KX'):CK:=Code.rec (motive:=fun _=>CK) none (fun _ _ _=>none) (fun a b _ _=>some (a,A3d (Ze E call pls cuts J b (.r p)) K)) (fun _ a _ _ _=>some (a,K)) (fun id a _=>some (a,Al3 id K))
 (fun a _=>some (a,Atn (fun f h=>enter cuts J p f h False) K)) (fun _ _ _ _ _ _=>none) (fun _=>none) (fun a _=>some (a,Yv a (fun l f h=>enter cuts J (.lab p l) f h False) K)) (fun _=>none) (fun _=>none) none (fun _=>none) c
def ckR(c:Code)(K:KX'):CK:=Code.rec (motive:=fun _=>CK) none (fun _ _ _=>none) (fun _ b _ _=>some (b,K)) (fun _ _ b _ _=>some (b,K)) (fun _ _ _=>none)
 (fun _ _=>none) (fun _ _ _ _ _ _=>none) (fun _=>none) (fun _ _=>none) (fun _=>none) (fun _=>none) none (fun _=>none) c
def A1t(p:Pos)(n:Nat)(c:Code)(K:KX'):CK:=Code.rec (motive:=fun _=>CK) none (fun _ _ _=>none) (fun _ _ _ _=>none) (fun _ _ _ _ _=>none) (fun _ _ _=>none)
 (fun _ _=>none) (fun _ _ _ _ _ _=>none) (fun _=>none) (fun a _=>Option.rec none (fun r=>some (r,Yv a (fun l f h=>enter cuts J (.lab p l) f h False) K)) (findLabel a n)) (fun _=>none) (fun _=>none) none (fun _=>none) c
def Vd(c0:Code)(K0:KX')(p:Pos):CK:=Pos.rec (some (c0,K0))
 (fun p ih=>Option.rec none (fun q=>ckL E call pls cuts J p q.1 q.2) ih) (fun _ ih=>Option.rec none (fun q=>ckR q.1 q.2) ih) (fun p n ih=>Option.rec none (fun q=>A1t cuts J p n q.1 q.2) ih) p
def Hr(c0:Code)(K0:KX')(p:Pos)(f:FT)(h:H):Prop:=Option.rec False (fun q=>A02 E call pls cuts J q.1 p f h q.2) (Vd E call pls cuts J c0 K0 p)
def noJ:Jump:=fun _ _ _=>False
def Bla(l:P)(k:KV):KX':=fun x _ h=>Awo (h.at l) (fun f s _ _=>AX.rec (h.Po l (.loop f s .ready .normal) (fun h=>k (.bool true) h)) (fun id=>h.Po l (.loop f s .done (.exit id)) (fun h=>k (.bool false) h))
 (fun t=>h.Po l (.loop f s .done (.goto t)) (fun h=>k (.bool false) h)) (h.Po l (.loop f s .done .ret) (fun h=>k (.bool false) h)) x)
def Bjf(l:P)(s:LpS)(k:KV):KX':=fun x f h=>AX.rec (Awo (h.at l) (fun f' s' st pd=>Bool.rec Aj (h.Po l (.loop f' s' .busy pd) (fun h=>Ze E call s.pls [] noJ s.body .root f h (Bla l k))) (isReady st))) (fun _=>False) (fun _=>False) False x
def A2f(chk:LpS→Bool)(l:P)(args:List AV)(h:H)(k:KV):Prop:=Awo (h.at l) (fun f s _ _=>Bool.rec Aj (Ze E call s.pls [] noJ s.assign .root (Arl s.params args f) h (Bjf E call l s k)) (Ah (chk s) (Nat.beq (len args) (len s.params))))
def Aj0(chk:LpS→Bool)(n:Nat)(args:List AV)(h:H)(k:KV):Prop:=Bool.rec Aj (A2f E call chk (pFs 64 n) args h k) (Nat.beq (P.nat (pFs 64 n)) n)
def A3h(f:FT)(h:H)(r:ResultVar)(k:AV→Prop):Prop:=ResultVar.rec (fun t=>k (f t)) (fun a t=>Acm E t (f a) h k) r
def Acb(f:FT)(h:H)(rs:List ResultVar):(List AV→Prop)→Prop:=List.rec (motive:=fun _=>(List AV→Prop)→Prop) (fun k=>k []) (fun r _ ih k=>A3h E f h r (fun v=>ih (fun l=>k (v::l)))) rs
def Ag8(l:List AV):AV:=List.rec (.tuple []) (fun v r _=>List.rec v (fun _ _ _=>.tuple (v::r)) r) l
def Gn(rs:List ResultVar)(k:KV):KX':=fun x f h=>AX.rec (Acb E f h rs (fun l=>k (Ag8 l) h)) (fun _=>False) (fun _=>False) (Acb E f h rs (fun l=>k (Ag8 l) h)) x
end
end Go.Den
namespace Go.Den
open Go.RowKit
theorem Bd6(n:Nat)(K:Nat→Prop):fN n K=K n:=rfl
theorem As(n:Int)(K:Int→Prop):fI n K=K n:=by cases n<;>rfl
theorem Eh:¬Aj:=fun h=>h
theorem Aoj{a b:IntKind}(h:Ais a b=true):a=b:=by cases a<;>cases b<;>first|rfl|cases h
theorem Rm{k:IntKind}{v:AV}{K:Int→Prop}(h:asI k v K):∃n,v=.int k n∧K n:=by
 cases v<;>try exact(Eh h).elim
 rename_i j n
 have h:(Bool.rec Aj (K n) (Ais k j):Prop):=h
 cases hk:Ais k j with
 |false=>rw[hk] at h;exact(Eh h).elim
 |true=>rw[hk] at h;cases Aoj hk;exact⟨n,rfl,by assumption⟩
theorem Vl{v:AV}{K:Int→Prop}(h:Aqx v K):∃k n,v=.int k n∧K n:=by
 cases v<;>first|exact(Eh h).elim|exact⟨_,_,rfl,h⟩
theorem Gr{v:AV}{K:Bool→Prop}(h:asB v K):∃b,v=.bool b∧K b:=by
 cases v<;>first|exact(Eh h).elim|exact⟨_,rfl,h⟩
theorem Km{v:AV}{K:Nat→Nat→Prop}(h:asS v K):∃l c,v=.str l c∧K l c:=by
 cases v<;>first|exact(Eh h).elim|exact⟨_,_,rfl,h⟩
theorem Lq{v:AV}{K:P→Nat→Prop}(h:asP v K):∃b o,v=.ptr b o∧K b o:=by
 cases v<;>first|exact(Eh h).elim|exact⟨_,_,rfl,h⟩
theorem Vm{v:AV}{K:List AV→Prop}(h:asG v K):∃cs,v=.agg cs∧K cs:=by
 cases v<;>first|exact(Eh h).elim|exact⟨_,rfl,h⟩
theorem Ao7{v:AV}{K:List AV→Prop}(h:asT v K):∃cs,v=.tuple cs∧K cs:=by
 cases v<;>first|exact(Eh h).elim|exact⟨_,rfl,h⟩
theorem Awp{v:AV}{K:Fn→List AV→List AV→Prop}(h:Bgp v K):∃fn a c,v=.func fn a c∧K fn a c:=by
 cases v<;>first|exact(Eh h).elim|exact⟨_,_,_,rfl,h⟩
theorem Vk{o:Ob FT}{K:(Nat→AV)→LpS→LoopState→AX→Prop}(h:Awo o K):∃f s st pd,o=.loop f s st pd∧K f s st pd:=by
 cases o<;>first|exact(Eh h).elim|exact⟨_,_,_,_,rfl,h⟩
theorem An4{v:AV}{K:Prop}(h:one v K):v.one=true∧v.cells=[v]∧K:=by
 cases v<;>first|exact(Eh h).elim|exact⟨rfl,rfl,h⟩
theorem Nj{α:Type}{o:Option α}{K:α→Prop}(h:oV o K):∃v,o=some v∧K v:=by
 cases o with
 |none=>exact h.elim
 |some v=>exact⟨v,rfl,h⟩
theorem Md{n:Int}{K:Nat→Prop}(h:Ci n K):∃m,n=Int.ofNat m∧K m:=by
 cases n with
 |ofNat m=>exact⟨m,rfl,h⟩
 |negSucc m=>exact h.elim
theorem Zx{v:AV}{K:Nat→Prop}(h:Akt v K):∃m,Bc v=some m∧K m:=by
 obtain⟨k,n,rfl,h⟩:=Vl h
 obtain⟨m,rfl,h⟩:=Md h
 exact⟨m,rfl,h⟩
theorem Xz{c:Bool}{K:Prop}(h:(Bool.rec False K c:Prop)):c=true∧K:=by
 cases c with
 |false=>exact h.elim
 |true=>exact⟨rfl,h⟩
theorem Fh{c:Bool}{K:Prop}(h:(Bool.rec Aj K c:Prop)):c=true∧K:=by
 cases c with
 |false=>exact(Eh h).elim
 |true=>exact⟨rfl,h⟩
theorem Ah4{c:Bool}{K:Prop}(h:(Bool.rec K False c:Prop)):c=false∧K:=by
 cases c with
 |true=>exact h.elim
 |false=>exact⟨rfl,h⟩
theorem Ato{v:AV}{K:Nat→Prop}(h:Ef v K):(v=.Ad∧K 0)∨∃b o n z t,v=.slice b o n z t∧K n:=by
 cases v<;>first|exact(Eh h).elim|exact .inl ⟨rfl,h⟩|exact .inr ⟨_,_,_,_,_,rfl,h⟩
theorem Aqc{sz i:Nat}{v:AV}{K:AV→Prop}(h:Bz sz i v K):∃b o n t,v=.slice b o n sz t∧Nat.ble (Nat.add i 1) n=true∧K (.ptr b (Nat.add o (Nat.mul i sz))):=by
 cases v<;>try exact(Eh h).elim
 rename_i b o n z t
 obtain⟨hc,h⟩:=Fh (show(Bool.rec Aj (fN (Nat.add o (Nat.mul i sz)) (fun q=>K (.ptr b q))) (Ah (Nat.ble (Nat.add i 1) n) (Nat.beq sz z)):Prop) from h)
 obtain⟨h1,h2⟩:=Af hc
 have e:=Bd h2
 subst e
 exact⟨b,o,n,t,rfl,h1,by assumption⟩
theorem Bc9(E:Env)(k:KV)(o:Option (AV×H)):oK o k=Dq (CP E) k o:=rfl
theorem Ae(k:KV)(v:AV)(h:H):oK (some (v,h)) k=k v h:=by
 obtain⟨m,n⟩:=h
 show Bw v (fun v=>Ja m (fun m=>k v ⟨m,n⟩))=_
 rw[By,Hy]
theorem Atb{k:KV}{o:Option (AV×H)}(h:oK o k):∃v h',o=some (v,h')∧k v h':=by
 cases o with
 |none=>exact h.elim
 |some p=>obtain⟨v,h'⟩:=p;rw[Ae] at h;exact⟨v,h',rfl,h⟩
section
variable{E:Env}
theorem Az7{d:TypeDesc}{v:AV}{K:AV→Prop}(h:coD d v K):K v:=by
 unfold coD at h
 split at h
 · obtain⟨n,rfl,h2⟩:=Rm h;exact h2
 · obtain⟨b,rfl,h2⟩:=Gr h;exact h2
 · obtain⟨l,c,rfl,h2⟩:=Km h;exact h2
 · exact h
theorem Ve{t:TypeId}{v:AV}{K:AV→Prop}(h:coK E t v K):K v:=by
 unfold coK at h
 split at h
 · exact Az7 h
 · exact h
theorem Aa5{op:BinOp}{k:IntKind}{a b:Int}{g:Nat→Nat→Nat}(hg:∀x y,Ajn op k x y=some (.int k (.ofNat (g x y)))){K:AV→Prop}(h:Aby g k a b (fun n=>K (.int k n))):∃v,Ajm op k a b=some v∧K v:=by
 obtain⟨x,rfl,h⟩:=Md h
 obtain⟨y,rfl,h⟩:=Md h
 obtain⟨hc,h⟩:=Xz h
 refine⟨_,?_,h⟩
 show(Bool.rec none (Ajn op k x y) (Ah (Nat.ble x (intMax k)) (Nat.ble y (intMax k))):Option AV)=_
 rw[hc,hg]
theorem Awk{op:BinOp}{k:IntKind}{a b:Int}{K:AV→Prop}(h:bI op k a b K):∃v,Aa6 op k a b=some v∧K v:=by
 cases op<;>simp only[bI] at h
 case add=>rw[As] at h;exact⟨_,rfl,h⟩
 case sub=>rw[As] at h;exact⟨_,rfl,h⟩
 case mul=>rw[As] at h;exact⟨_,rfl,h⟩
 case quo=>
  obtain⟨hc,h⟩:=Ah4 h
  rw[As] at h
  refine⟨_,?_,h⟩
  show A5g k a b=_
  unfold A5g;rw[hc];rfl
 case rem=>
  obtain⟨hc,h⟩:=Ah4 h
  rw[As] at h
  refine⟨_,?_,h⟩
  show A5f k a b=_
  unfold A5f;rw[hc]
 case and=>exact Aa5 (fun _ _=>rfl) h
 case or=>exact Aa5 (fun _ _=>rfl) h
 case xor=>exact Aa5 (fun _ _=>rfl) h
 case shl=>
  obtain⟨m,rfl,h2⟩:=Md h
  rw[As] at h2
  exact⟨_,rfl,h2⟩
 case shr=>
  obtain⟨m,rfl,h2⟩:=Md h
  rw[As] at h2
  exact⟨_,rfl,h2⟩
 case eql=>exact⟨_,rfl,h⟩
 case neq=>exact⟨_,rfl,h⟩
 case lss=>exact⟨_,rfl,h⟩
 case leq=>exact⟨_,rfl,h⟩
 case gtr=>exact⟨_,rfl,h⟩
 case geq=>exact⟨_,rfl,h⟩
theorem A86{op:BinOp}{l c m d:Nat}{K:AV→Prop}(h:bS op l c m d K):∃v,Agq op l c m d=some v∧K v:=by
 cases op<;>simp only[bS] at h
 case add=>
  obtain⟨hc,h⟩:=Xz h
  refine⟨_,?_,h⟩
  show(Bool.rec none _ (Nat.ble (Nat.add l m) (intMax .i64)):Option AV)=_
  rw[hc]
 all_goals exact⟨_,rfl,h⟩
theorem Awg{op:BinOp}{t:TypeId}{x y:AV}{K:AV→Prop}(h:Awh E op t x y K):∃v,Kz E op t x y=some v∧K v:=by
 unfold Awh at h
 split at h
 · unfold A83 at h
   split at h
   · obtain⟨a,rfl,h2⟩:=Rm h
     clear h
     unfold A87 at h2
     rename_i k _
     cases hs:Aog op with
     |true=>
      rw[hs] at h2
      obtain⟨j,b,rfl,h3⟩:=Vl h2
      obtain⟨v,hv,h4⟩:=Awk h3
      refine⟨v,?_,h4⟩
      show(Bool.rec none (Aa6 op k a b) (sameKind op k j):Option AV)=_
      have:sameKind op k j=true:=by cases op<;>first|rfl|cases hs
      rw[this];exact hv
     |false=>
      rw[hs] at h2
      obtain⟨b,rfl,h3⟩:=Rm h2
      obtain⟨v,hv,h4⟩:=Awk h3
      refine⟨v,?_,h4⟩
      show(Bool.rec none (Aa6 op k a b) (sameKind op k k):Option AV)=_
      have:sameKind op k k=true:=by cases op<;>first|rfl|exact decide_eq_true rfl
      rw[this];exact hv
   · obtain⟨l,c,rfl,h2⟩:=Km h
     obtain⟨m,d,rfl,h3⟩:=Km h2
     obtain⟨v,hv,h4⟩:=A86 h3
     exact⟨v,hv,h4⟩
   · exact Nj h
 · exact h.elim
theorem Awf{op:BinOp}{t:TypeId}{ox oy:Operand}{x y:AV}{K:AV→Prop}(h:Aqt E op t ox oy x y K):∃v,Ajo E op t ox oy x y=some v∧K v:=by
 unfold Aqt at h
 unfold Ajo
 cases ha:Al7 E op t ox oy with
 |false=>rw[ha] at h;exact Awg h
 |true=>
  rw[ha] at h
  have h:oV (Al4 E op t x y) K:=h
  show∃v,Al4 E op t x y=some v∧K v
  cases hb:Al4 E op t x y with
  |none=>rw[hb] at h;exact h.elim
  |some v=>rw[hb] at h;exact⟨v,rfl,h⟩
theorem Axz{op:UnOp}{x:AV}{K:AV→Prop}(h:un2 op x K):∃v,unA op x=some v∧K v:=by
 unfold un2 at h
 split at h
 · obtain⟨b,rfl,h2⟩:=Gr h
   refine⟨_,rfl,?_⟩
   cases b<;>exact h2
 · exact Nj h
end
end Go.Den
namespace Go.Den
open Go.RowKit
section
variable{E:Env}{call:CF}{f:FT}{h:H}{k:KV}
theorem Hi{o:Option (AV×H)}{v:AV}{h':H}(e:o=some (v,h'))(hk:k v h'):Dq (CP E) k o:=by
 rw[e,←Bc9,Ae];exact hk
theorem Qg{l:List Operand}:Gy E f l=l.map fun x=>eval (CP E) x f:=by
 induction l with
 |nil=>rfl
 |cons x l ih=>show eval' E x f::Gy E f l=_;rw[ih];rfl
theorem Aq0{e:TypeId}(hg:Amb E e h k):Dq (CP E) k (Ye e (E.ty e) h):=by
 unfold Amb at hg
 split at hg
 · rename_i i hi
   rw[Qx] at hg
   refine Hi ?_ hg
   rw[hi];rfl
 · exact hg.elim
theorem Aig{t:TypeId}{a:AV}(hg:Acm E t a h (fun v=>k v h)):(Xp.rec False (fun b off=>Option.rec False (fun i=>Ss (CP E) h k b off i) (E.ty t)) (Sj a):Prop):=by
 unfold Acm at hg
 split at hg
 · rename_i i hi
   split at hg
   · rename_i ha
     obtain⟨b,o,rfl,hg⟩:=Lq hg
     show(Option.rec False (fun i=>Ss (CP E) h k b o i) (E.ty t):Prop)
     rw[hi]
     show(Bool.rec _ (h.Hu b o i.size False (fun l=>k (.agg l) h)) i.agg:Prop)
     rw[ha];exact hg
   · rename_i ha
     obtain⟨b,o,rfl,hg⟩:=Lq hg
     show(Option.rec False (fun i=>Ss (CP E) h k b o i) (E.ty t):Prop)
     rw[hi]
     show(Bool.rec (h.Gp b o False (fun v=>k v h)) _ i.agg:Prop)
     rw[ha];exact hg
 · exact hg.elim
theorem Apg{t:TypeId}{a v:AV}(hg:Aj9 E t a v h (fun h=>k .undef h)):(Xp.rec False (fun b off=>Option.rec False (fun i=>Bw v (fun v=>Nc (CP E) h k b off v i)) (E.ty t)) (Sj a):Prop):=by
 unfold Aj9 at hg
 split at hg
 · rename_i i hi
   split at hg
   · obtain⟨b,o,rfl,hg⟩:=Lq hg
     obtain⟨cs,rfl,hg⟩:=Vm hg
     obtain⟨hc,hg⟩:=Fh hg
     show(Option.rec False (fun i=>Bw (.agg cs) (fun v=>Nc (CP E) h k b o v i)) (E.ty t):Prop)
     rw[hi]
     show Bw (.agg cs) (fun v=>Nc (CP E) h k b o v i)
     rw[By]
     show(Bool.rec False (h.Gm b o cs False (fun h=>k .undef h)) (Ah (Nat.beq (len cs) i.size) (Nat.ble 1 i.size)):Prop)
     rw[hc];exact hg
   · split at hg
     · rename_i hs
       obtain⟨b,o,rfl,hg⟩:=Lq hg
       obtain⟨h1,h2,hg⟩:=An4 hg
       show(Option.rec False (fun i=>Bw v (fun v=>Nc (CP E) h k b o v i)) (E.ty t):Prop)
       rw[hi]
       show Bw v (fun v=>Nc (CP E) h k b o v i)
       rw[By]
       show(Bool.rec False (h.Gm b o v.cells False (fun h=>k .undef h)) (Ah (Nat.beq (len v.cells) i.size) (Nat.ble 1 i.size)):Prop)
       rw[h2,Bd hs];exact hg
     · exact hg.elim
 · exact hg.elim
theorem A0o{e:TypeId}{v:AV}(hg:A80 E e v h k):Bw v (fun v=>(Bool.rec False (h.Fx (rowOf e v.cells) (fun b h=>k (.ptr b 0) h)) (Nat.ble 1 (len v.cells)):Prop)):=by
 rw[By]
 unfold A80 at hg
 split at hg
 · split at hg
   · obtain⟨cs,rfl,hg⟩:=Vm hg
     exact hg
   · obtain⟨h1,h2,hg⟩:=An4 hg
     rw[h2];exact hg
 · exact hg.elim
theorem Ald{t:TypeId}{x:AV}{i:Nat}(hg:Ur E t x i (fun v=>k v h)):(Xp.rec False (fun b off=>Option.rec False (fun o=>k (.ptr b (Nat.add off o)) h) (Wc E t i)) (Sj x):Prop):=by
 unfold Ur at hg
 split at hg
 · rename_i o ho
   obtain⟨b,q,rfl,hg⟩:=Lq hg
   show(Option.rec False (fun o=>k (.ptr b (Nat.add q o)) h) (Wc E t i):Prop)
   rw[ho];exact hg
 · exact hg.elim
theorem Aqa{t:TypeId}{x:AV}{i:Nat}(hg:Aas E t x i (fun v=>k v h)):Dq (CP E) k (Rc E t x i h):=by
 unfold Aas at hg
 split at hg
 · rename_i p hp
   unfold Aor at hp
   split at hp<;>try cases hp
   rename_i ti hti
   split at hp<;>try cases hp
   rename_i fs hfs
   split at hp<;>try cases hp
   rename_i q hq
   split at hp<;>cases hp
   rename_i fi hfi
   have key:∀cs r,part E q.2 cs q.1=some r→Rc E t (.agg cs) i h=some (r,h):=fun cs r hr=>by
    show(Option.rec none (fun ti=>match ti.desc with
     |.struct fs=>Option.rec none (fun p=>Ff h (part E p.2 cs p.1)) (Mg fs.toList i)
     |_=>none) (E.ty t):Option (AV×H))=_
    rw[hti]
    simp only[hfs,hq]
    show Ff h (part E q.2 cs q.1)=_
    rw[hr];rfl
   split at hg
   · rename_i ha
     have ha:fi.agg=true:=ha
     obtain⟨cs,rfl,hg2⟩:=Vm hg
     refine Hi (key cs (.agg (Ie fi.size (Qi q.1 cs))) ?_) hg2
     show(Option.rec none (fun i=>Bool.rec (Ec cs q.1) (some (.agg (Ie i.size (Qi q.1 cs)))) i.agg) (E.ty q.2):Option AV)=_
     rw[hfi]
     show(Bool.rec (Ec cs q.1) (some (.agg (Ie fi.size (Qi q.1 cs)))) fi.agg:Option AV)=_
     rw[ha]
   · rename_i ha
     have ha:fi.agg=false:=ha
     obtain⟨cs,rfl,hg2⟩:=Vm hg
     obtain⟨v,hv,hg3⟩:=Nj hg2
     refine Hi (key cs v ?_) hg3
     show(Option.rec none (fun i=>Bool.rec (Ec cs q.1) (some (.agg (Ie i.size (Qi q.1 cs)))) i.agg) (E.ty q.2):Option AV)=_
     rw[hfi]
     show(Bool.rec (Ec cs q.1) (some (.agg (Ie fi.size (Qi q.1 cs)))) fi.agg:Option AV)=_
     rw[ha];exact hv
 · exact hg.elim
theorem Ak6{t:TypeId}{x i:AV}(hg:Lj E t x i h k):Dq (CP E) k (Cw E t x (Bc i) h):=by
 unfold Lj at hg
 split at hg
 · rename_i e he
   split at hg
   · rename_i ei hei
     obtain⟨m,hm,hg⟩:=Zx hg
     obtain⟨b,o,n,q,rfl,h1,hg⟩:=Aqc hg
     refine Hi ?_ hg
     rw[hm]
     show Rb E t b o n ei.size m h=_
     unfold Rb Ao
     rw[he]
     show(Option.rec none (fun ti=>Bool.rec none _ _) (E.ty e):Option (AV×H))=_
     rw[hei]
     show(Bool.rec none (some (.ptr b (Nat.add o (Nat.mul m ei.size)),h)) (Ah (Nat.ble (Nat.add m 1) n) (Nat.beq ei.size ei.size)):Option (AV×H))=_
     rw[h1,Nat.beq_refl];rfl
   · exact hg.elim
 · exact hg
theorem Ap4{t:TypeId}{x i:AV}(hg:Qa E t x i h k):Dq (CP E) k (Lm E t x (Bc i) h):=by
 unfold Qa at hg
 split at hg
 · rename_i ti hti
   split at hg
   · rename_i hs
     obtain⟨l,c,rfl,hg⟩:=Km hg
     obtain⟨m,hm,hg⟩:=Zx hg
     obtain⟨hc,hg⟩:=Xz hg
     refine Hi ?_ hg
     rw[hm]
     show(Option.rec none (fun ti=>Bool.rec none (Bool.rec none (some (.int .u8 (.ofNat (Fm c m)),h)) (Nat.ble (Nat.add m 1) l)) (isStr ti.desc)) (E.ty t):Option (AV×H))=_
     rw[hti]
     show(Bool.rec none (Bool.rec none (some (.int .u8 (.ofNat (Fm c m)),h)) (Nat.ble (Nat.add m 1) l)) (isStr ti.desc):Option (AV×H))=_
     rw[hs,hc]
   · exact hg
 · exact hg.elim
theorem A5w{i:Nat}{x:AV}(hg:ext i x (fun v=>k v h)):Dq (CP E) k (Mj x i h):=by
 obtain⟨cs,rfl,hg⟩:=Ao7 hg
 obtain⟨v,hv,hg⟩:=Nj hg
 refine Hi ?_ hg
 show Ff h (Ec cs i)=_
 rw[hv];rfl
theorem Azd{ats:List TypeId}{x:AV}(hg:Ap0 E ats x h k):Dq (CP E) k (Vj E ats x h):=by
 unfold Ap0 at hg
 split at hg
 · rename_i t ht
   split at hg
   · rename_i ti hti
     have e:Vj E ats x h=Atp E ti.desc x h:=by
      unfold Vj;rw[ht]
      show(Option.rec none (fun ti=>Atp E ti.desc x h) (E.ty t):Option (AV×H))=_
      rw[hti]
     unfold Ail at hg
     split at hg
     · rename_i hd
       obtain⟨l,c,rfl,hg2⟩:=Km hg
       exact Hi (e.trans (by rw[hd];rfl)) hg2
     · rename_i hd
       rcases Ato hg with⟨rfl,hg2⟩|⟨b,o,n,z,q,rfl,hg2⟩
       · exact Hi (e.trans (by rw[hd];rfl)) hg2
       · exact Hi (e.trans (by rw[hd];rfl)) hg2
     · exact hg
   · exact hg.elim
 · exact hg.elim
theorem Ajj{b:Builtin}{ats:List TypeId}{args:List AV}(hg:Jo E b ats args h k):Dq (CP E) k (Aq E b ats args h):=by
 unfold Jo at hg
 split at hg
 · split at hg
   · exact Azd hg
   · exact hg.elim
 · exact hg
theorem Avj{s d:TypeId}{x:AV}(hg:Vb E s d x h k):Dq (CP E) k (Gh E h s d x):=by
 unfold Vb at hg
 split at hg
 · rename_i ti hti
   unfold Aay at hg
   split at hg
   · rename_i kd hd
     split at hg
     · obtain⟨j,n,rfl,hg2⟩:=Vl hg
       rw[As] at hg2
       refine Hi ?_ hg2
       unfold Gh;rw[hti]
       show Aoz E h s ti.desc (.int j n)=_
       rw[hd];rfl
     · exact hg
   · exact hg
 · exact hg.elim
theorem Ajk{o:Option AV}{d:Nat}{K:Nat→Prop}(hg:Aqq o d K):∃n,bound d (o.map Bc)=some n∧K n:=by
 cases o with
 |none=>exact⟨d,rfl,hg⟩
 |some v=>obtain⟨m,hm,hg⟩:=Zx hg;exact⟨m,hm,hg⟩
theorem Wg{o:Option Operand}:Qf (CP E) f o=(o.map fun x=>eval' E x f).map Bc:=by cases o<;>rfl
theorem Apl{t:TypeId}{x:AV}{lo hi mx:Option AV}(hg:Lr E t x lo hi mx h k):
 Dq (CP E) k (Option.rec none (fun m=>Ff h (Jt E h t x (lo.map Bc) (hi.map Bc) m)) (Px (mx.map Bc))):=by
 unfold Lr at hg
 split at hg
 · rename_i ti hti
   split at hg
   · rename_i hs
     split at hg
     · obtain⟨l,c,rfl,hg⟩:=Km hg
       obtain⟨n,hn,hg⟩:=Ajk hg
       obtain⟨m,hm,hg⟩:=Ajk hg
       obtain⟨hc,hg⟩:=Xz hg
       refine Hi ?_ hg
       show Ff h (Jt E h t (.str l c) (lo.map Bc) (hi.map Bc) none)=_
       have hd:ti.desc=.string:=by
        cases hdd:ti.desc<;>rw[hdd] at hs<;>first|rfl|cases hs
       unfold Jt
       rw[hti]
       show Ff h (Yu E h ti.desc (.str l c) (lo.map Bc) (hi.map Bc) none)=_
       rw[hd]
       show Ff h (Ho l (lo.map Bc) (hi.map Bc) (fun lo h=>All c l lo h))=_
       unfold Ho
       rw[hn]
       show Ff h (Option.rec none (fun lo=>All c l lo n) (bound 0 (lo.map Bc)))=_
       rw[hm]
       show Ff h (Bool.rec none (some (.str (Nat.sub n m) (Vs c m n))) (Ah (Nat.ble m n) (Nat.ble n l)))=_
       rw[hc];rfl
     · exact hg.elim
   · exact hg
 · exact hg.elim
theorem Ah8{t:TypeId}{x:AV}(hg:Zz E t x h k):Dq (CP E) k (Mh E t x h):=by
 unfold Zz at hg
 split at hg
 · rename_i ti hti
   split at hg
   · exact hg.elim
   · rename_i hi
     refine Hi ?_ hg
     unfold Mh;rw[hti]
     show(Bool.rec (some (.iface t x,h)) none (isIface ti.desc):Option (AV×H))=_
     rw[hi]
 · exact hg.elim
theorem Aat{o:Op}(hg:Ds E o call f h k):exec o (CP E) call f h k:=by
 cases o
 case move x=>show Bw (eval (CP E) x f) (fun v=>k v h);rw[By];exact hg
 case assign x=>show Bw (eval (CP E) x f) (fun v=>k v h);rw[By];exact hg
 case alloc e=>exact Aq0 hg
 case box e x=>exact A0o hg
 case load t a=>exact Aig hg
 case store t a x=>exact Apg hg
 case binOp op t x y q=>
  obtain⟨v,hv,hg⟩:=Awf (show Aqt E op t x y (eval' E x f) (eval' E y f) (fun v=>k v h) from hg)
  show(Option.rec False (fun v=>k v h) (Ajo E op t x y (eval (CP E) x f) (eval (CP E) y f)):Prop)
  have hv:Ajo E op t x y (eval (CP E) x f) (eval (CP E) y f)=some v:=hv
  rw[hv];exact hg
 case unOp op t x=>
  obtain⟨v,hv,hg⟩:=Axz (show un2 op (eval' E x f) (fun v=>k v h) from hg)
  show(Option.rec False (fun v=>k v h) (unA op (eval (CP E) x f)):Prop)
  have hv:unA op (eval (CP E) x f)=some v:=hv
  rw[hv];exact hg
 case convert s d x=>exact Avj hg
 case makeInterface t x=>exact Ah8 hg
 case slice t x lo hi mx=>
  have:=Apl (show Lr E t (eval' E x f) (lo.map (fun x=>eval' E x f)) (hi.map (fun x=>eval' E x f)) (mx.map (fun x=>eval' E x f)) h k from hg)
  show Dq (CP E) k (Option.rec none (fun m=>Ff h (Jt E h t (eval (CP E) x f) (Qf (CP E) f lo) (Qf (CP E) f hi) m)) (Px (Qf (CP E) f mx)))
  rw[Wg,Wg,Wg];exact this
 case fieldAddr t x i=>exact Ald hg
 case field t x i=>exact Aqa hg
 case indexAddr t x i=>exact Ak6 hg
 case index t x i=>exact Ap4 hg
 case extract x i=>exact A5w hg
 case makeFunc fn a b=>
  have hg:k (.func fn (Gy E f a.toList) (Gy E f b.toList)) h:=hg
  refine Eq.mpr (Gl (C:=CP E) (f:=f) a.toList _) ?_
  refine Eq.mpr (Gl (C:=CP E) (f:=f) b.toList _) ?_
  show k (.func fn (a.toList.map fun x=>eval (CP E) x f) (b.toList.map fun x=>eval (CP E) x f)) h
  rw[show(a.toList.map fun x=>eval (CP E) x f)=Gy E f a.toList from Qg.symm,show(b.toList.map fun x=>eval (CP E) x f)=Gy E f b.toList from Qg.symm];exact hg
 case call c=>
  obtain⟨callee,args,ats⟩:=c
  cases callee with
  |invoke v name=>
   have hg:Xf (CP E) call (eval (CP E) v f) name (Gy E f args.toList) h k:=hg
   show Hq (CP E) f args.toList (fun l=>Xf (CP E) call (eval (CP E) v f) name l h k)
   refine Eq.mpr (Gl (C:=CP E) (f:=f) args.toList _) ?_
   show Xf (CP E) call (eval (CP E) v f) name (args.toList.map fun x=>eval (CP E) x f) h k
   rw[show(args.toList.map fun x=>eval (CP E) x f)=Gy E f args.toList from Qg.symm];exact hg
  |builtin b=>
   have hg:Jo E b ats.toList (Gy E f args.toList) h k:=hg
   have:=Ajj hg
   show Hq (CP E) f args.toList (fun l=>Dq (CP E) k (Aq E b ats.toList l h))
   refine Eq.mpr (Gl (C:=CP E) (f:=f) args.toList _) ?_
   show oK (Aq E b ats.toList (args.toList.map fun x=>eval (CP E) x f) h) k
   rw[show(args.toList.map fun x=>eval (CP E) x f)=Gy E f args.toList from Qg.symm];exact this
  |value v=>
   have hg:Acz (CP E) call (eval (CP E) v f) (Gy E f args.toList) h k:=hg
   show Hq (CP E) f args.toList (fun l=>Acz (CP E) call (eval (CP E) v f) l h k)
   refine Eq.mpr (Gl (C:=CP E) (f:=f) args.toList _) ?_
   show Acz (CP E) call (eval (CP E) v f) (args.toList.map fun x=>eval (CP E) x f) h k
   rw[show(args.toList.map fun x=>eval (CP E) x f)=Gy E f args.toList from Qg.symm];exact hg
 all_goals exact hg
end
end Go.Den
namespace Go.Den
open Go.RowKit
theorem Awn{o:Ob FT}{K:P→Nat→List Nat→Nat→Prop}(h:Bgn o K):∃m a b c,o=.Ot m a b c∧K m a b c:=by
 cases o<;>first|exact(Eh h).elim|exact⟨_,_,_,_,rfl,h⟩
theorem Acx{K:Ent→Prop}:∀{l:List Ent},Ao0 K l→∀e∈l,K e
 |[],_,e,he=>by cases he
 |[a],h,e,he=>by rw[List.mem_singleton.1 he];exact h
 |a::b::l,h,e,he=>by
  obtain⟨h1,h2⟩:=(show And (K a) (Ao0 K (b::l)) from h)
  rcases List.mem_cons.1 he with rfl|he
  · exact h1
  · exact Acx h2 e he
theorem Ay8(n:Nat):∀l:List Nat,Ah9 n l=l.toArray.contains n:=by
 intro l
 have key:Ah9 n l=true↔n∈l:=by
  induction l with
  |nil=>simp[Ah9]
  |cons x l ih=>
   have h:Ah9 n (x::l)=(Bool.rec (Ah9 n l) true (Nat.beq x n):Bool):=rfl
   rw[h,Fa]
   by_cases e:x=n
   · rw[decide_eq_true e];simp[e]
   · rw[decide_eq_false e]
     show Ah9 n l=true↔_
     rw[ih];simp[Ne.symm e]
 rw[Bool.eq_iff_iff,key]
 simp
theorem Aft{μ:Mu}(seen:List Nat):∀{es:List Ent}{xs:List MapEntry},EsR μ es xs→EsR μ (leftOf seen es) (xs.filter fun e=>!seen.toArray.contains e.born)
 |[],_,h=>by cases(show _=[] from h);exact(rfl:([]:List MapEntry)=[])
 |a::es,_,⟨x,xs,e,h1,h2,h3,h4⟩=>by
  subst e
  have h:leftOf seen (a::es)=(Bool.rec (a::leftOf seen es) (leftOf seen es) (Ah9 a.2.2 seen):List Ent):=rfl
  rw[h,Ay8,h3,List.filter_cons]
  cases seen.toArray.contains x.born with
  |true=>exact Aft seen h4
  |false=>exact⟨x,_,rfl,h1,h2,h3,Aft seen h4⟩
theorem Ac2{μ:Mu}{since:Nat}:∀{es:List Ent}{xs:List MapEntry},EsR μ es xs→Amc since es=true→∀x∈xs,x.born<since
 |[],_,h,_,x,hx=>by cases(show _=[] from h);cases hx
 |a::es,_,⟨y,xs,e,h1,h2,h3,h4⟩,ha,x,hx=>by
  subst e
  have ha:(Bool.rec false (Amc since es) (Nat.ble (Nat.add a.2.2 1) since):Bool)=true:=ha
  cases hb:Nat.ble (Nat.add a.2.2 1) since with
  |false=>rw[hb] at ha;cases ha
  |true=>
   rw[hb] at ha
   rcases List.mem_cons.1 hx with rfl|hx
   · have:a.2.2+1≤since:=Bi hb
     rw[h3] at this;exact this
   · exact Ac2 h4 ha x hx
theorem Ac1{μ:Mu}{n:Nat}:∀{es:List Ent}{xs:List MapEntry},EsR μ es xs→Agu n es=true→∃x∈xs,x.born<n
 |[],_,_,h=>by cases h
 |a::es,_,⟨y,xs,e,h1,h2,h3,h4⟩,ha=>by
  subst e
  have ha:(Bool.rec (Agu n es) true (Nat.ble (Nat.add a.2.2 1) n):Bool)=true:=ha
  cases hb:Nat.ble (Nat.add a.2.2 1) n with
  |true=>
   have:a.2.2+1≤n:=Bi hb
   rw[h3] at this
   exact⟨y,by simp,this⟩
  |false=>
   rw[hb] at ha
   obtain⟨x,hx,hl⟩:=Ac1 h4 ha
   exact⟨x,by simp[hx],hl⟩
theorem EsR.mem{μ:Mu}:∀{es:List Ent}{xs:List MapEntry},EsR μ es xs→∀x∈xs,∃e∈es,VR μ e.1 x.key∧VR μ e.2.1 x.val∧e.2.2=x.born
 |[],_,h,x,hx=>by cases(show _=[] from h);cases hx
 |a::es,_,⟨y,xs,e,h1,h2,h3,h4⟩,x,hx=>by
  subst e
  rcases List.mem_cons.1 hx with rfl|hx
  · exact⟨a,by simp,h1,h2,h3⟩
  · obtain⟨e,he,hh⟩:=EsR.mem h4 x hx
    exact⟨e,by simp[he],hh⟩
theorem Ab8{P:Program}{w:World}(n:Nat)(hn:0<n):∃i w',(choose (.mapNext n)).run P w=.ok i w'∧i<n∧w'.heap=w.heap∧w'.os=w.os∧w'.tape=w.tape∧w'.output=w.output:=by
 rw[run_choose]
 by_cases h:n≤1
 · exact⟨0,w,by rw[if_pos (by simpa[Question.forced] using h)],hn,rfl,rfl,rfl,rfl⟩
 · exact⟨(Question.mapNext n).cut (w.tape w.drawn (.mapNext n)),{ w with drawn:=w.drawn+1 },by rw[if_neg (by simpa[Question.forced] using h)],Nat.mod_lt _ hn,rfl,rfl,rfl,rfl⟩
theorem Ate{P:Program}{μ:Mu}{h:H}{w:World}(s:Sim μ h w){it:AV}{k:KV}(hg:Atf it h k){vx:Value}{ty:TypeId}(hx:VR μ it vx):
 ∃v w' μ' av h',(Instr.next vx false ty).run P w=.ok v w'∧Sim μ' h' w'∧Cr μ h w μ' h' w'∧VR μ' av v∧k av h':=by
 obtain⟨b,o,rfl,hg⟩:=Lq hg
 obtain⟨ho,hg⟩:=Fh hg
 obtain rfl:=Bd ho
 obtain⟨m,since,seen,stepped,hat,hg⟩:=Awn hg
 obtain⟨p,hp,hg⟩:=Nj hg
 obtain⟨hc,hg⟩:=Fh hg
 obtain⟨hold,hstep⟩:=Af hc
 obtain⟨l,hl,rfl⟩:=hx
 have hob:=s.ob b l (by rw[hat];simp) hl
 rw[hat] at hob
 obtain⟨lm,hlm,hblk,hoff⟩:=hob
 have hatm:h.at m=.map p.1 p.2:=Kw hp
 have hobm:=s.ob m lm (by rw[hatm];simp) hlm
 rw[hatm] at hobm
 obtain⟨xs,hblkm,hes⟩:=hobm
 have hleft:=Aft seen hes
 have hall:=Ac2 hleft hold
 have hg:(List.rec (k (.tuple [.bool false]) h) (fun e r _=>Ao0 (fun e=>h.Po b (.Ot m since (Kb seen [e.2.2]) p.2) (fun h=>k (.tuple [.bool true,e.1,e.2.1]) h)) (e::r)) (leftOf seen p.1):Prop):=hg
 have hL:(xs.filter fun e=>!seen.toArray.contains e.born).toList=xs.toList.filter fun e=>!seen.toArray.contains e.born:=by simp
 generalize hLd:(xs.filter fun e=>!seen.toArray.contains e.born)=L at hL
 have hLold:L.filter (fun e=>decide (e.born<since))=L:=by
  rw[Array.filter_eq_self]
  intro x hx
  exact decide_eq_true (hall x (by rw[←hL];exact hx.val))
 have hLnew:L.filter (fun e=>decide (e.born≥since))=#[]:=by
  rw[Array.filter_eq_empty_iff]
  intro x hx hd
  have:=hall x (by rw[←hL];exact hx.val)
  have:=of_decide_eq_true hd
  omega
 have hcond:((!seen.toArray.isEmpty&&!xs.isEmpty&&xs.all (fun e=>decide (e.born≥stepped)))=true)→False:=by
  intro hb
  simp only[Bool.and_eq_true] at hb
  obtain⟨⟨h1,h2⟩,h3⟩:=hb
  cases hs:Aag seen with
  |true=>
   cases seen with
   |nil=>simp at h1
   |cons=>cases hs
  |false=>
   rw[hs] at hstep
   have hstep:(Bool.rec (Agu stepped p.1) true (Aag p.1):Bool)=true:=hstep
   cases he:Aag p.1 with
   |true=>
    cases hpe:p.1 with
    |nil=>
     rw[hpe] at hes
     have hes:xs.toList=[]:=hes
     rw[Array.toList_eq_nil_iff.1 hes] at h2
     simp at h2
    |cons=>rw[hpe] at he;cases he
   |false=>
    rw[he] at hstep
    obtain⟨x,hx,hlt⟩:=Ac1 hes hstep
    have h3:=(Array.all_eq_true_iff_forall_mem.1 h3) x (Array.mem_def.2 hx)
    have:=of_decide_eq_true h3
    omega
 have hrun0:(Instr.next (.pointer (some ⟨l.blk,l.off+0,none⟩)) false ty).run P w=(do
  match(((if L.isEmpty then #[none] else #[])++(L++#[]).map some:Array (Option MapEntry)))[←choose (.mapNext ((if L.isEmpty then #[none] else #[])++(L++#[]).map some:Array (Option MapEntry)).size)]? with
  |some (some e)=>
   setObj l.blk (.mapIter (some lm.blk) since (seen.toArray.push e.born) p.2)
   pure (.tuple #[.bool true,e.key,e.val])
  |some none=>pure (.tuple #[.bool false])
  | none => stuck "Next: no such candidate" : Sem Value).run P w := by
  unfold Instr.next
  simp only[hoff,Nat.zero_add]
  rw[Aa (Ei hblk (by intros;simp))]
  simp only
  rw[Aa (Ei hblkm (by intros;simp))]
  simp only
  rw[if_neg (fun hh=>hcond hh),hLd,hLold,hLnew]
  rfl
 rw[hrun0]
 rw[←hL] at hleft
 cases hle:leftOf seen p.1 with
 |nil=>
  rw[hle] at hg hleft
  have hnil:L=#[]:=Array.toList_eq_nil_iff.1 hleft
  obtain⟨i,w',hr,hi,h1,h2,h3,h4⟩:=Ab8 (P:=P) (w:=w) 1 (by omega)
  have hi0:i=0:=by omega
  subst hi0
  refine⟨.tuple #[.bool false],w',μ,.tuple [.bool false],h,?_,s.heap h1,Cr.heap μ h h1 h2 h3 h4,⟨_,rfl,_,_,rfl,rfl,rfl⟩,hg⟩
  have hcand:((if L.isEmpty then #[none] else #[])++(L++#[]).map some:Array (Option MapEntry))=#[none]:=by rw[hnil];simp
  rw[hcand,show(#[none]:Array (Option MapEntry)).size=1 from rfl]
  rw[Aa hr]
  rfl
 |cons e0 r=>
  rw[hle] at hg hleft
  have hpos:0<L.size:=by
   obtain⟨x,xs',e,_⟩:=hleft
   have:L.toList.length=(x::xs').length:=by rw[e]
   simp at this;omega
  have hne:L.isEmpty=false:=by simp;intro e;rw[e] at hpos;simp at hpos
  have hcand:((if L.isEmpty then #[none] else #[])++(L++#[]).map some:Array (Option MapEntry))=L.map some:=by
   rw[hne];simp
  rw[hcand]
  obtain⟨i,w',hr,hi,h1,h2,h3,h4⟩:=Ab8 (P:=P) (w:=w) (L.map some).size (by simpa using hpos)
  have hi':i<L.size:=by simpa using hi
  obtain⟨e,he,hk1,hk2,hk3⟩:=hleft.mem L[i] (by simp)
  have hke:=Acx hg e he
  have s1:=s.heap h1
  have hblk':w'.heap[l.blk]? =some (.mapIter (some lm.blk) since seen.toArray stepped):=by rw[h1];exact hblk
  obtain⟨w2,hw2,s2,x2⟩:=s1.putObj (Pr:=P) (b:=b) (by rw[hat];rfl) hl hblk' (by intros;simp) (.mapIter (some lm.blk) since (seen.toArray.push L[i].born) p.2) (.Ot m since (Kb seen [e.2.2]) p.2) fun w' hw'=>⟨lm,hlm,by rw[hw',Og,hk3];simp,hoff⟩
  rw[Lh] at hke
  refine⟨.tuple #[.bool true,L[i].key,L[i].val],w2,μ,.tuple [.bool true,e.1,e.2.1],_,?_,s2,(Cr.heap μ h h1 h2 h3 h4).trans x2,⟨_,rfl,_,_,rfl,rfl,_,_,rfl,hk1,_,_,rfl,hk2,rfl⟩,hke⟩
  rw[Aa hr]
  have hget:(L.map some)[i]? =some (some L[i]):=by simp[hi']
  rw[hget]
  simp only
  rw[Aa hw2]
  rfl
theorem Af1:Bmj Bd5 where
 init l t:=by
  show(Option.rec AV.undef (fun v=>v) (Ec l t):AV)=_
  rw[Eg,List.getD_eq_getElem?_getD]
  cases l[t]?<;>rfl
 set f t v u:=by
  show(Bool.rec (f u) v (Nat.beq u t):AV)=_
  rw[Fa]
  by_cases e:u=t
  · rw[if_pos e,decide_eq_true e]
  · rw[if_neg e,decide_eq_false e];rfl
 force f k:=rfl
theorem Gx(f:FT)(d:Nat)(v:AV)(u:Nat):Ag f d v u=if u=d then v else f u:=Af1.set f d v u
theorem Xb(f:FT):∀(l:List Nat)(t:Nat),Nx l f t=.top∨Nx l f t=f t
 |[],_=>.inl rfl
 |u::l,t=>by
  show Ag (Nx l f) u (f u) t=.top∨Ag (Nx l f) u (f u) t=f t
  rw[Gx]
  by_cases e:t=u
  · rw[if_pos e,e];exact .inr rfl
  · rw[if_neg e];exact Xb f l t
section
variable{P:Program}{D:List Deferred}
structure FR(μ:Mu)(N:Nat)(D:List Deferred)(f:FT)(a:Act):Prop where
 size:N≤a.tmps.size
 get:∀t,VR μ (f t) (a.tmps.getD t undef)
 defs:a.defers=D
theorem FR.mono{μ μ':Mu}(h:Mu.le μ μ'){N:Nat}{f:FT}{a:Act}(r:FR μ N D f a):FR μ' N D f a:=⟨r.size,fun t=>VR.mono h _ _ (r.get t),r.defs⟩
theorem Aiw(ts:Array Value)(d t:Nat)(v:Value)(h:d<ts.size):(ts.setIfInBounds d v).getD t undef=if t=d then v else ts.getD t undef:=by
 simp only[Array.getD_eq_getD_getElem?,Array.getElem?_setIfInBounds]
 by_cases e:d=t
 · subst e;simp[h]
 · rw[if_neg e,if_neg (fun h=>e h.symm)]
def Om(N:Nat)(d:Option Tmp):Bool:=match d with
 |none=>true
 |some d=>Nat.blt d N
theorem FR.put{μ:Mu}{N:Nat}{f:FT}{a:Act}(r:FR μ N D f a){d:Option Tmp}(hd:Om N d=true){av:AV}{v:Value}(hv:VR μ av v):FR μ N D (Dm f d av) (a.put d v):=by
 cases d with
 |none=>exact r
 |some d=>
  have hd:d<N:=by simpa[Om] using hd
  refine⟨by simpa[Act.put] using r.size,fun t=>?_,r.defs⟩
  show VR μ (Ag f d av t) ((a.tmps.setIfInBounds d v).getD t undef)
  rw[Gx,Aiw _ _ _ _ (Nat.lt_of_lt_of_le hd r.size)]
  by_cases e:t=d
  · rw[if_pos e,if_pos e];exact hv
  · rw[if_neg e,if_neg e];exact r.get t
theorem FR.eval{E:Env}{μ:Mu}{N G:Nat}{f:FT}{a:Act}(r:FR μ N D f a)(gl:Fw μ G){o:Operand}(ho:Ej G o=true):VR μ (eval' E o f) (a.eval o):=
 Yf (C:=CP E) gl ho fun t _=>r.get t
def Gz(P:Program)(E:Env)(N G:Nat)(o:Oper):Bool:=Om N o.dst&&Zq P E G o.op
def yb(o:Option Value):Option Bool:=match o with
 |some (.bool b)=>some b
 |_=>none
theorem Iw(ops:Array Oper)(ts:Array Value)(j:Nat):yielded ops ts j=yb (((ops[j]?).bind (·.dst)).bind (ts[·]?)):=rfl
def Live(ops:Array Oper)(gs:List (Nat×Bool×Tmp))(a:Act):Prop:=∀g∈gs,((ops[g.1]?).bind (·.dst))=some g.2.2∧yb (a.tmps[g.2.2]?)=some g.2.1
def Se(d:Option Tmp)(gs:List (Nat×Bool×Tmp)):Bool:=match d with
 |none=>true
 |some d=>gs.all fun g=>!Nat.beq g.2.2 d
theorem Act.Tv(a:Act)(d:Option Tmp)(v:Value):(a.put d v).tmps.size=a.tmps.size:=by cases d<;>simp[Act.put]
theorem Ix{a:Act}{d:Option Tmp}{v:Value}{t:Nat}(h:d≠some t):(a.put d v).tmps[t]? =a.tmps[t]? :=by
 cases d with
 |none=>rfl
 |some d=>
  have:d≠t:=fun e=>h (by rw[e])
  simp[Act.put,Array.getElem?_setIfInBounds_ne this]
theorem Pv{d:Option Tmp}{gs:List (Nat×Bool×Tmp)}(h:Se d gs=true):∀g∈gs,d≠some g.2.2:=by
 intro g hg e
 subst e
 have:=List.all_eq_true.1 (show gs.all (fun g'=>!Nat.beq g'.2.2 g.2.2)=true from h) g hg
 simp at this
theorem Live.put{ops:Array Oper}{gs:List (Nat×Bool×Tmp)}{a:Act}(l:Live ops gs a){d:Option Tmp}(h:Se d gs=true)(v:Value):Live ops gs (a.put d v):=fun g hg=>
 ⟨(l g hg).1,by rw[Ix (Pv h g hg)];exact(l g hg).2⟩
theorem Kt{a b:Option (Nat×Bool)}(h:Fp a b=true):a=b:=by
 have key:∀v w,Fp.Ao4 v w=true→v=w:=by intro v w;cases v<;>cases w<;>simp[Fp.Ao4]
 cases a with
 |none=>cases b with
  |none=>rfl
  |some=>cases h
 |some p=>cases b with
  |none=>cases h
  |some q=>
   obtain⟨i,v⟩:=p;obtain⟨j,w⟩:=q
   have h:(Nat.beq i j&&Fp.Ao4 v w)=true:=h
   rw[Bool.and_eq_true] at h
   rw[Nat.eq_of_beq_eq_true h.1,key _ _ h.2]
def Air(o:Operand):Bool:=match o with
 |.const _=>true
 |_=>false
def A01(c:Operand)(gd:Tmp):Bool:=match c with
 |.tmp t=>Nat.beq t gd
 |_=>false
def Pt(G:Nat)(gd:Tmp)(w:Bool)(o:Op):Bool:=match o with
 |.pick c x y=>A01 c gd&&Ej G x&&Ej G y&&Air (Du w y x)
 |_=>false
def Auj(t:Tmp)(l:List (Option Tmp)):Bool:=l.any fun d=>match d with
 |some d=>Nat.beq d t
 |none=>false
def Hv(P:Program)(E:Env)(N G:Nat)(ops:List Oper)(its:Its):Option (Nat×Bool)→List (Nat×Bool×Tmp)→List (Option Tmp)→Bool:=Its.rec (motive:=fun _=>Option (Nat×Bool)→List (Nat×Bool×Tmp)→List (Option Tmp)→Bool)
 (fun _ _ _=>true)
 (fun o _ ih g gs prev=>and (and (Gz P E N G o) (and (Fp o.guard g) (Se o.dst gs))) (ih g gs (o.dst::prev)))
 (fun j gd w _ pk _ ihb ihr g gs prev=>and (and (and (Om N pk.dst) (and (Fp pk.guard g) (Se pk.dst gs))) (and (Pt G gd w pk.op) (and (Auj gd prev) (Option.rec false (fun o=>Option.rec false (fun d=>Nat.beq d gd) o.dst) (Ec ops j)))))
  (and (ihb (some (j,w)) ((j,w,gd)::gs) []) (ihr g gs (pk.dst::prev)))) its
def Ee(l:List Oper)(a:Act):Act:=l.foldl (fun a o=>a.put o.dst undef) a
theorem Ji(o:Oper)(l:List Oper)(a:Act):Ee (o::l) a=Ee l (a.put o.dst undef):=rfl
theorem Abl(l m:List Oper)(a:Act):Ee (l++m) a=Ee m (Ee l a):=List.foldl_append ..
theorem Pp(l:List Oper):∀a:Act,(Ee l a).tmps.size=a.tmps.size:=by
 induction l with
 |nil=>intro a;rfl
 |cons o l ih=>intro a;rw[Ji,ih,Act.Tv]
theorem Abk(l:List Oper):∀a:Act,(Ee l a).defers=a.defers:=by
 induction l with
 |nil=>intro a;rfl
 |cons o l ih=>intro a;rw[Ji,ih];cases o.dst<;>rfl
theorem Acf{l:List Oper}{t:Nat}:∀{a:Act},(∀o∈l,o.dst≠some t)→(Ee l a).tmps[t]? =a.tmps[t]? :=by
 induction l with
 |nil=>intro a _;rfl
 |cons o l ih=>intro a h;rw[Ji,ih (fun x hx=>h x (by simp[hx])),Ix (h o (by simp))]
theorem Vv{a:Act}{d:Option Tmp}{t:Nat}(h:a.tmps[t]? =some undef):(a.put d undef).tmps[t]? =some undef:=by
 cases d with
 |none=>exact h
 |some d=>
  by_cases e:d=t
  · subst e
    have:d<a.tmps.size:=(Array.getElem?_eq_some_iff.1 h).1
    simp[Act.put,this]
  · rw[Ix (by simpa using e)];exact h
theorem Afk{l:List Oper}{t:Nat}:∀{a:Act},a.tmps[t]? =some undef→(Ee l a).tmps[t]? =some undef:=by
 induction l with
 |nil=>intro a h;exact h
 |cons o l ih=>intro a h;rw[Ji];exact ih (Vv h)
theorem Ahy{a:Act}{d:Tmp}{v:Value}(h:d<a.tmps.size):(a.put (some d) v).tmps[d]? =some v:=by simp[Act.put,h]
variable{E:Env}{N G:Nat}{ops:Array Oper}{Q:Exit→Act→World→Prop}
theorem Ku:∀{its:Its}{g:Option (Nat×Bool)}{gs:List (Nat×Bool×Tmp)}{prev:List (Option Tmp)},Hv P E N G ops.toList its g gs prev=true→∀o∈its.flat,Om N o.dst=true∧∀x∈gs,o.dst≠some x.2.2
 |.nil,_,_,_,_,o,ho=>by simp[Its.flat] at ho
 |.op o r,g,gs,prev,h,x,hx=>by
  have h:(((Gz P E N G o)&&(Fp o.guard g&&Se o.dst gs))&&Hv P E N G ops.toList r g gs (o.dst::prev))=true:=h
  simp only[Bool.and_eq_true] at h
  rcases List.mem_cons.1 (show x∈o::r.flat from hx) with rfl|hx
  · refine⟨?_,Pv h.1.2.2⟩
    have:=h.1.1
    simp only[Gz,Bool.and_eq_true] at this
    exact this.1
  · exact Ku h.2 x hx
 |.grp j gd w b pk r,g,gs,prev,h,x,hx=>by
  have h:(((Om N pk.dst)&&(Fp pk.guard g&&Se pk.dst gs))&&(Pt G gd w pk.op&&(Auj gd prev&&_))&&(Hv P E N G ops.toList b (some (j,w)) ((j,w,gd)::gs) []&&Hv P E N G ops.toList r g gs (pk.dst::prev)))=true:=h
  simp only[Bool.and_eq_true] at h
  rcases List.mem_append.1 (show x∈b.flat++pk::r.flat from hx) with hx|hx
  · have:=Ku h.2.1 x hx
    exact⟨this.1,fun y hy=>this.2 y (by simp[hy])⟩
  · rcases List.mem_cons.1 hx with rfl|hx
    · exact⟨h.1.1.1,Pv h.1.1.2.2⟩
    · exact Ku h.2.2 x hx
theorem Aui{t:Tmp}{l:List (Option Tmp)}(h:Auj t l=true):some t∈l:=by
 obtain⟨d,hd,h⟩:=List.any_eq_true.1 h
 cases d with
 |none=>cases h
 |some d=>rw[Nat.eq_of_beq_eq_true h] at hd;exact hd
theorem Yh {ro : Option Nat} : ∀ {its : Its} {j : Nat} {w : Bool} {gd : Tmp} {gs : List (Nat × Bool × Tmp)} {prev : List (Option Tmp)} {rest : List Oper} {a : Act} {wd : World}, Hv P E N G ops.toList its (some (j, w)) ((j, w, gd) :: gs) prev = true → N ≤ a.tmps.size →
    ((ops[j]?).bind (·.dst)) = some gd → yb (a.tmps[gd]?) ≠ some w → (∀ t, some t ∈ prev → a.tmps[t]? = some undef) → wpListIn (Fo ro) 0 P ops Q rest (Ee its.flat a) wd → wpListIn (Fo ro) 0 P ops Q (its.flat ++ rest) a wd
  | .nil, _, _, _, _, _, _, _, _, _, _, _, _, _, hr => hr
  | .op o r, j, w, gd, gs, prev, rest, a, wd, h, hN, hj, hy, hp, hr => by
    have h : (((Gz P E N G o) && (Fp o.guard (some (j, w)) && Se o.dst ((j, w, gd) :: gs))) && Hv P E N G ops.toList r (some (j, w)) ((j, w, gd) :: gs) (o.dst :: prev)) = true := h
    simp only [Bool.and_eq_true] at h
    have hwant : Region.wanted o (yielded ops a.tmps) = false := by
      unfold Region.wanted
      rw [Kt h.1.2.1]
      show (yielded ops a.tmps j == some w) = false
      rw [Iw, hj]
      simpa using hy
    show wpListIn (Fo ro) 0 P ops Q (o :: (r.flat ++ rest)) a wd
    unfold wpListIn
    rw [hwant, if_neg (by simp)]
    refine ⟨fun _ _ => trivial, ?_⟩
    have hne := Pv h.1.2.2 (j, w, gd) (by simp)
    refine Yh h.2 (by rw [Act.Tv]; exact hN) hj (by rw [Ix hne]; exact hy) ?_ hr
    intro t ht
    rcases List.mem_cons.1 ht with e | ht
    · rw [← e]
      refine Ahy (Nat.lt_of_lt_of_le ?_ hN)
      have := h.1.1
      simp only [Gz, Bool.and_eq_true] at this
      rw [← e] at this
      simpa [Om] using this.1
    · exact Vv (hp t ht)
  | .grp j' gd' w' b pk r, j, w, gd, gs, prev, rest, a, wd, h, hN, hj, hy, hp, hr => by
    have h : (((Om N pk.dst) && (Fp pk.guard (some (j, w)) && Se pk.dst ((j, w, gd) :: gs))) && (Pt G gd' w' pk.op && (Auj gd' prev && (Option.rec false (fun o => Option.rec false (fun d => Nat.beq d gd') o.dst) (Ec ops.toList j'))))
      && (Hv P E N G ops.toList b (some (j', w')) ((j', w', gd') :: (j, w, gd) :: gs) [] && Hv P E N G ops.toList r (some (j, w)) ((j, w, gd) :: gs) (pk.dst :: prev))) = true := h
    simp only [Bool.and_eq_true] at h
    obtain ⟨⟨⟨hd, hg, hn⟩, hpk, ht, hjd⟩, hb, hrr⟩ := h
    have hj' : ((ops[j']?).bind (·.dst)) = some gd' := by
      rw [Eg, Array.getElem?_toList] at hjd
      cases ho : ops[j']? with
      | none => rw [ho] at hjd; cases hjd
      | some o =>
        rw [ho] at hjd
        have hjd : (Option.rec false (fun d => Nat.beq d gd') o.dst : Bool) = true := hjd
        show o.dst = some gd'
        cases hod : o.dst with
        | none => rw [hod] at hjd; cases hjd
        | some d => rw [hod] at hjd; rw [Nat.eq_of_beq_eq_true hjd]
    have hu := hp gd' (Aui ht)
    show wpListIn (Fo ro) 0 P ops Q ((b.flat ++ pk :: r.flat) ++ rest) a wd
    rw [List.append_assoc]
    refine Yh hb hN hj' (by rw [hu]; simp [yb, undef]) (by simp) ?_
    have hbd := Ku hb
    have hgd : (Ee b.flat a).tmps[gd]? = a.tmps[gd]? := Acf fun o ho => (hbd o ho).2 (j, w, gd) (by simp)
    have hwant : Region.wanted pk (yielded ops (Ee b.flat a).tmps) = false := by
      unfold Region.wanted
      rw [Kt hg]
      show (yielded ops (Ee b.flat a).tmps j == some w) = false
      rw [Iw, hj]
      show (yb ((Ee b.flat a).tmps[gd]?) == some w) = false
      rw [hgd]
      simpa using hy
    show wpListIn (Fo ro) 0 P ops Q (pk :: (r.flat ++ rest)) _ wd
    unfold wpListIn
    rw [hwant, if_neg (by simp)]
    refine ⟨fun _ _ => trivial, ?_⟩
    have hne := Pv hn (j, w, gd) (by simp)
    refine Yh hrr (by rw [Act.Tv, Pp]; exact hN) hj (by rw [Ix hne, hgd]; exact hy) ?_ ?_
    · intro t ht
      rcases List.mem_cons.1 ht with e | ht
      · rw [← e]
        refine Ahy (Nat.lt_of_lt_of_le ?_ (by rw [Pp]; exact hN))
        rw [← e] at hd
        simpa [Om] using hd
      · exact Vv (Afk (hp t ht))
    · have : Ee (Its.grp j' gd' w' b pk r).flat a = Ee r.flat ((Ee b.flat a).put pk.dst undef) := by
        show Ee (b.flat ++ pk :: r.flat) a = _
        rw [Abl, Ji]
      rw [← this]; exact hr
end
end Go.Den
namespace Go.Den
open Go.RowKit
section
variable{P:Program}{E:Env}{N G:Nat}{D:List Deferred}{ops:Array Oper}{Q:Exit→Act→World→Prop}
def Ew(l:List Oper)(a a':Act):Prop:=a'.tmps.size=a.tmps.size∧∀t,(∀o∈l,o.dst≠some t)→a'.tmps[t]? =a.tmps[t]?
theorem Ew.refl(l:List Oper)(a:Act):Ew l a a:=⟨rfl,fun _ _=>rfl⟩
theorem Ew.cons{o:Oper}{l:List Oper}{a a':Act}{v:Value}(h:Ew l (a.put o.dst v) a'):Ew (o::l) a a':=
 ⟨h.1.trans (Act.Tv _ _ _),fun t ht=>(h.2 t fun x hx=>ht x (by simp[hx])).trans (Ix (ht o (by simp)))⟩
theorem Ew.append{l m:List Oper}{a a' b:Act}(h:Ew l a a')(k:Ew m a' b):Ew (l++m) a b:=
 ⟨k.1.trans h.1,fun t ht=>(k.2 t fun x hx=>ht x (by simp[hx])).trans (h.2 t fun x hx=>ht x (by simp[hx]))⟩
theorem Ew.Ee(l:List Oper)(a:Act):Ew l a (Ee l a):=⟨Pp l a,fun _ ht=>Acf ht⟩
theorem Aun (l : List Oper) : ∀ (f : FT) (t : Nat), Abr l f t = .top ∨ (Abr l f t = f t ∧ ∀ o ∈ l, o.dst ≠ some t) := by
  induction l with
  | nil => intro f t; exact .inr ⟨rfl, by simp⟩
  | cons o l ih =>
    intro f t
    show Abr l (Dm f o.dst .top) t = .top ∨ (Abr l (Dm f o.dst .top) t = f t ∧ _)
    rcases ih (Dm f o.dst .top) t with h | ⟨h, hl⟩
    · exact .inl h
    · rw [h]
      cases hd : o.dst with
      | none => exact .inr ⟨rfl, by intro x hx; rcases List.mem_cons.1 hx with rfl | hx; · rw [hd]; simp
                                    · exact hl x hx⟩
      | some d =>
        show Ag f d .top t = .top ∨ _
        rw [Gx]
        by_cases e : t = d
        · left; rw [if_pos e]
        · right
          refine ⟨by rw [show Dm f (some d) AV.top t = Ag f d .top t from rfl, Gx, if_neg e], ?_⟩
          intro x hx
          rcases List.mem_cons.1 hx with rfl | hx
          · rw [hd]; simpa using fun h => e h.symm
          · exact hl x hx
theorem FR.top{μ:Mu}{f:FT}{a a':Act}{l:List Oper}(r:FR μ N D f a)(s:Ew l a a')(hd:a'.defers=D):FR μ N D (Abr l f) a':=by
 refine⟨by rw[s.1];exact r.size,fun t=>?_,hd⟩
 rcases Aun l f t with h|⟨h,hl⟩
 · rw[h];trivial
 · rw[h]
   have:=r.get t
   rw[Array.getD_eq_getD_getElem?] at this ⊢
   rw[s.2 t hl];exact this
def Acq(gs:List (Nat×Bool×Tmp)):Option (Nat×Bool):=match gs with
 |[]=>none
 |g::_=>some (g.1,g.2.1)
theorem Pe{o:Oper}{gs:List (Nat×Bool×Tmp)}{a:Act}(hg:o.guard=Acq gs)(l:Live ops gs a):Region.wanted o (yielded ops a.tmps)=true:=by
 unfold Region.wanted
 rw[hg]
 cases gs with
 |nil=>rfl
 |cons g gs=>
  obtain⟨h1,h2⟩:=l g (by simp)
  show(yielded ops a.tmps g.1==some g.2.1)=true
  rw[Iw,h1]
  show(yb (a.tmps[g.2.2]?)==some g.2.1)=true
  rw[h2];simp
theorem Anz{ro:Option Nat}{pk:Oper}{c x y:Operand}(hpk:pk.op=.pick c x y){a:Act}{w:World}{t:Bool}(hc:a.eval c=.bool t){next:Act→World→Prop}(h:next (a.put pk.dst (a.eval (Du t x y))) w):pk.wpIn (Fo ro) 0 P a w next Q:=by
 have:(execOp a.eval pk).run P w=.ok (.value (a.eval (Du t x y))) w:=by
  unfold execOp
  rw[hpk]
  simp only[hc]
  cases t<;>rfl
 refine Ib (fun c e=>by rw[hpk] at e;cases e) ?_
 rw[this]
 exact h
theorem Zp{gd:Tmp}{w:Bool}{o:Op}(h:Pt G gd w o=true):∃x y v,o=.pick (.tmp gd) x y∧Ej G x=true∧Ej G y=true∧Du w y x=.const v:=by
 cases o<;>try cases h
 rename_i c x y
 have h:(A01 c gd&&Ej G x&&Ej G y&&Air (Du w y x))=true:=h
 simp only[Bool.and_eq_true] at h
 obtain⟨⟨⟨h1,h2⟩,h3⟩,h4⟩:=h
 cases c<;>try cases h1
 rename_i t
 have e:=Nat.eq_of_beq_eq_true h1
 subst e
 cases hq:Du w y x<;>rw[hq] at h4<;>first|exact⟨x,y,_,rfl,by assumption,by assumption,hq⟩|cases h4
theorem Sc{w:Bool}{x y:Operand}(hx:Ej G x=true)(hy:Ej G y=true):Ej G (Du w x y)=true:=by cases w<;>assumption
theorem Live.same{gs:List (Nat×Bool×Tmp)}{a a':Act}{l:List Oper}(h:Live ops gs a)(s:Ew l a a')(hl:∀o∈l,∀g∈gs,o.dst≠some g.2.2):Live ops gs a':=fun g hg=>
 ⟨(h g hg).1,by rw[s.2 g.2.2 fun o ho=>hl o ho g hg];exact(h g hg).2⟩
def Bmk(_P:Program)(N:Nat)(D:List Deferred)(ops:Array Oper)(gs:List (Nat×Bool×Tmp))(its:Its)(μ:Mu)(h:H)(a:Act)(w:World)(K:FT→H→Prop)(q:Act→World→Prop):Prop:=
 ∀(μ':Mu)(f':FT)(h':H)(a':Act)(w':World),FR μ' N D f' a'→Sim μ' h' w'→Cr μ h w μ' h' w'→Live ops gs a'→Ew its.flat a a'→K f' h'→q a' w'
theorem Auv{ro:Option Nat}(ok:Bq P E){call:CF}(hcall:Fc P (CP E) G (fun p=>p) call){o:Oper}(hop:Zq P E G o.op=true){μ:Mu}{f:FT}{h:H}{a:Act}{w:World}{k:KV}{next:Act→World→Prop}{Q:Exit→Act→World→Prop}
 (hv:∀x∈o.op.operands.toList,VR μ (eval (CP E) x f) (a.eval x)) (s:Sim μ h w) (gl:Fw μ G) (hg:Auw E o.op call f h k) (g:Ajy (CP E) μ h w (fun p=>p) k a o.dst next):o.wpIn (Fo ro) 0 P a w next Q:=by
 by_cases hnx:∃x,o.op=.next x false
 · obtain⟨x,e⟩:=hnx
   rw[e] at hg
   obtain⟨v,w',μ',av,h',hr,s',x',hv',hk⟩:=Ate (P:=P) (ty:=o.type) s (show Atf (eval' E x f) h k from hg) (hv x (by rw[e];simp[Op.operands]))
   refine Ib (fun c hc=>by rw[e] at hc;cases hc) ?_
   have he:execOp a.eval o=(do pure (.value (←Instr.next (a.eval x) false o.type))):=by
    obtain⟨dst,op,type,pos,after,guard⟩:=o
    cases e;rfl
   rw[he,Aa hr]
   exact g _ _ _ _ _ s' x' hv' hk
 · have hg2:Ds E o.op call f h k:=by
    cases ho:o.op<;>rw[ho] at hg<;>try exact hg
    rename_i x b
    cases b with
    |true=>exact hg
    |false=>exact absurd ⟨x,ho⟩ hnx
   exact Af5 (C:=CP E) (good:=fun p=>p) (fun h=>h) ok hcall hop hv s gl (Aat hg2) g
theorem Vx {ro : Option Nat} (ok : Bq P E) {call : CF} (hcall : Fc P (CP E) G (fun p => p) call) : ∀ (its : Its) {gs : List (Nat × Bool × Tmp)} {prev : List (Option Tmp)}, Hv P E N G ops.toList its (Acq gs) gs prev = true →
    ∀ {μ : Mu} {f : FT} {h : H} {a : Act} {w : World} {K : FT → H → Prop} {rest : List Oper}, FR μ N D f a → Sim μ h w → Fw μ G → Live ops gs a → Ga E call its f h K → Bmk P N D ops gs its μ h a w K (wpListIn (Fo ro) 0 P ops Q rest) → wpListIn (Fo ro) 0 P ops Q (its.flat ++ rest) a w
  | .nil, gs, prev, _, μ, f, h, a, w, K, rest, fr, s, _, l, hr, he => he μ f h a w fr s (.refl _ _ _) l (.refl _ _) hr
  | .op o r, gs, prev, hk, μ, f, h, a, w, K, rest, fr, s, gl, l, hr, he => by
    have hk : (((Gz P E N G o) && (Fp o.guard (Acq gs) && Se o.dst gs)) && Hv P E N G ops.toList r (Acq gs) gs (o.dst :: prev)) = true := hk
    simp only [Bool.and_eq_true, Gz] at hk
    obtain ⟨⟨⟨hd, hop⟩, hg, hn⟩, hrr⟩ := hk
    have hr : Auw E o.op call f h (fun v h => coK E o.type v (fun v => Ga E call r (Dm f o.dst v) h K)) := hr
    have hopn : ∀ x ∈ o.op.operands.toList, Ej G x = true := by
      have hop := hop
      simp only [Zq, Bool.and_eq_true] at hop
      exact fun x hx => (List.all_eq_true.1 hop.1) x hx
    show wpListIn (Fo ro) 0 P ops Q (o :: (r.flat ++ rest)) a w
    unfold wpListIn
    rw [Pe (Kt hg) l, if_pos rfl]
    refine Auv ok hcall hop (fun x hx => fr.eval gl (hopn x hx)) s gl hr ?_
    intro μ' av h' v w' s' x' hv hg'
    refine Vx ok hcall r hrr ((fr.mono x'.le).put hd hv) s' (gl.mono x'.le) (l.put hn v) (Ve hg') ?_
    intro μ'' f'' h'' a'' w'' fr'' s'' x'' l'' sb hK
    exact he _ _ _ _ _ fr'' s'' (x'.trans x'') l'' (Ew.cons sb) hK
  | .grp j gd wt b pk r, gs, prev, hk, μ, f, h, a, w, K, rest, fr, s, gl, l, hr, he => by
    have hk : (((Om N pk.dst) && (Fp pk.guard (Acq gs) && Se pk.dst gs)) && (Pt G gd wt pk.op && (Auj gd prev && (Option.rec false (fun o => Option.rec false (fun d => Nat.beq d gd) o.dst) (Ec ops.toList j))))
      && (Hv P E N G ops.toList b (some (j, wt)) ((j, wt, gd) :: gs) [] && Hv P E N G ops.toList r (Acq gs) gs (pk.dst :: prev))) = true := hk
    simp only [Bool.and_eq_true] at hk
    obtain ⟨⟨⟨hd, hg, hn⟩, hpk, _, hjd⟩, hb, hrr⟩ := hk
    have hj : ((ops[j]?).bind (·.dst)) = some gd := by
      rw [Eg, Array.getElem?_toList] at hjd
      cases ho : ops[j]? with
      | none => rw [ho] at hjd; cases hjd
      | some o =>
        rw [ho] at hjd
        have hjd : (Option.rec false (fun d => Nat.beq d gd) o.dst : Bool) = true := hjd
        show o.dst = some gd
        cases hod : o.dst with
        | none => rw [hod] at hjd; cases hjd
        | some d => rw [hod] at hjd; rw [Nat.eq_of_beq_eq_true hjd]
    obtain ⟨x, y, cv, epk, hx, hy, hcv⟩ := Zp hpk
    obtain ⟨t, hft, hr⟩ := Gr (show asB (f gd) (fun t => A5n E wt b.flat pk t (Ga E call b) (Ga E call r) f h K) from hr)
    have hvt : a.tmps.getD gd undef = .bool t := by have := fr.get gd; rw [hft] at this; exact this
    have hgt : a.tmps[gd]? = some (.bool t) := by
      rw [Array.getD_eq_getD_getElem?] at hvt
      cases hq : a.tmps[gd]? with
      | none => rw [hq] at hvt; cases hvt
      | some v => rw [hq] at hvt; exact congrArg some hvt
    have hr : An (fun kj => gate wt t (Ga E call b f h (fun f h => asB (eval' E (Du wt x y) f) (fun v => kj v h))) (asB (eval' E (Du wt y x) f) (fun v => kj v h)))
        (fun v h => Ga E call r (Dm (Abr b.flat f) pk.dst (.bool v)) h K) := by
      unfold A5n at hr
      rw [epk] at hr
      exact hr
    have hbd := Ku hb
    show wpListIn (Fo ro) 0 P ops Q ((b.flat ++ pk :: r.flat) ++ rest) a w
    rw [List.append_assoc]
    by_cases hw : t = wt
    · subst hw
      have hr : Ga E call b f h (fun f' h' => asB (eval' E (Du t x y) f') (fun v => Ga E call r (Dm (Abr b.flat f) pk.dst (.bool v)) h' K)) := by cases t <;> exact hr
      refine Vx ok hcall b (gs := (j, t, gd) :: gs) hb fr s gl ?_ hr ?_
      · intro g hg'
        rcases List.mem_cons.1 hg' with rfl | hg'
        · exact ⟨hj, by show yb (a.tmps[gd]?) = some t; rw [hgt]; rfl⟩
        · exact l g hg'
      · intro μ' f' h' a' w' fr' s' x' l' sb hK
        obtain ⟨v, hv, hK⟩ := Gr hK
        have lo : Live ops gs a' := fun g hg' => l' g (by simp [hg'])
        show wpListIn (Fo ro) 0 P ops Q (pk :: (r.flat ++ rest)) a' w'
        unfold wpListIn
        rw [Pe (Kt hg) lo, if_pos rfl]
        have hc : a'.eval (.tmp gd) = .bool t := by
          have := (l' (j, t, gd) (by simp)).2
          have h2 : yb (a'.tmps[gd]?) = some t := this
          show a'.tmps.getD gd undef = .bool t
          rw [Array.getD_eq_getD_getElem?]
          cases hq : a'.tmps[gd]? with
          | none => rw [hq] at h2; cases h2
          | some u => rw [hq] at h2; cases u <;> simp [yb] at h2; subst h2; rfl
        have hev : a'.eval (Du t x y) = .bool v := by
          have := fr'.eval (E := E) (gl.mono x'.le) (Sc (w := t) hx hy)
          rw [hv] at this; exact this
        refine Anz epk hc ?_
        rw [hev]
        refine Vx ok hcall r hrr (((fr.mono x'.le).top sb fr'.defs).put hd (av := .bool v) (rfl : VR μ' (.bool v) (.bool v))) s' (gl.mono x'.le) (lo.put hn _) hK ?_
        intro μ'' f'' h'' a'' w'' fr'' s'' x'' l'' sb' hK'
        exact he _ _ _ _ _ fr'' s'' (x'.trans x'') l'' (sb.append (Ew.cons sb')) hK'
    · have hr : asB (eval' E (Du wt y x) f) (fun v => Ga E call r (Dm (Abr b.flat f) pk.dst (.bool v)) h K) := by
        cases t <;> cases wt <;> first | exact hr | exact absurd rfl hw
      obtain ⟨v, hv, hK⟩ := Gr hr
      refine Yh hb fr.size hj (by rw [hgt]; simpa [yb] using hw) (by simp) ?_
      have sb : Ew b.flat a (Ee b.flat a) := .Ee _ _
      have lo : Live ops gs (Ee b.flat a) := l.same sb fun o ho g hg' => (hbd o ho).2 g (by simp [hg'])
      show wpListIn (Fo ro) 0 P ops Q (pk :: (r.flat ++ rest)) _ w
      unfold wpListIn
      rw [Pe (Kt hg) lo, if_pos rfl]
      have hc : (Ee b.flat a).eval (.tmp gd) = .bool t := by
        show (Ee b.flat a).tmps.getD gd undef = .bool t
        rw [Array.getD_eq_getD_getElem?, sb.2 gd fun o ho => (hbd o ho).2 (j, wt, gd) (by simp), hgt]; rfl
      have hch : Du t x y = Du wt y x := by cases t <;> cases wt <;> first | rfl | exact absurd rfl hw
      have hev : (Ee b.flat a).eval (Du t x y) = .bool v := by
        have := fr.eval (E := E) gl (Sc (w := wt) hy hx)
        rw [hv] at this
        have this : a.eval (Du wt y x) = .bool v := this
        rw [hch, hcv] at *
        exact this
      refine Anz epk hc ?_
      rw [hev]
      refine Vx ok hcall r hrr ((fr.top sb (by rw [Abk]; exact fr.defs)).put hd (av := .bool v) (rfl : VR μ (.bool v) (.bool v))) s gl (lo.put hn _) hK ?_
      intro μ'' f'' h'' a'' w'' fr'' s'' x'' l'' sb' hK'
      exact he _ _ _ _ _ fr'' s'' x'' l'' (sb.append (Ew.cons sb')) hK'
theorem Yo(l0:List Oper):∀(n:Nat)(g:Option (Nat×Bool))(l:List Oper),(Gv l0 n g l).1.flat++(Gv l0 n g l).2=l:=by
 intro n
 induction n with
 |zero=>intro g l;rfl
 |succ n ih=>
  intro g l
  cases l with
  |nil=>rfl
  |cons o l'=>
   show(Tj l0 (Gv l0 n) g (o::l')).1.flat++(Tj l0 (Gv l0 n) g (o::l')).2=o::l'
   unfold Tj
   simp only
   cases hs:Fp o.guard g with
   |true=>
    simp only
    have:=ih g l'
    generalize Gv l0 n g l'=q at this ⊢
    obtain⟨q1,q2⟩:=q
    show o::(q1.flat++q2)=o::l'
    rw[this]
   |false=>
    simp only
    cases hg:o.guard with
    |none=>rfl
    |some p=>
     simp only
     cases Azq l0 g p.1 with
     |none=>rfl
     |some gd=>
      simp only
      have hb:=ih (some p) (o::l')
      generalize Gv l0 n (some p) (o::l')=q at hb ⊢
      obtain⟨q1,q2⟩:=q
      cases q2 with
      |nil=>rfl
      |cons pk l''=>
       simp only
       have hc:=ih g l''
       generalize Gv l0 n g l''=z at hc ⊢
       obtain⟨z1,z2⟩:=z
       show(q1.flat++pk::z1.flat)++z2=o::l'
       rw[←hb,←hc];simp
theorem Ak0{l:List Oper}{its:Its}(h:Aae l=some its):its.flat=l:=by
 unfold Aae at h
 have hf:=Yo l (Nat.add (Nat.mul 2 (len l)) 2) none l
 generalize Gv l (Nat.add (Nat.mul 2 (len l)) 2) none l=q at h hf
 obtain⟨q1,q2⟩:=q
 cases q2 with
 |nil=>cases h;simpa using hf
 |cons=>cases h
end
end Go.Den
