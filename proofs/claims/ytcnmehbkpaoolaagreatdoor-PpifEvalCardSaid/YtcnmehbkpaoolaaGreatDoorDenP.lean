/-
 Proof.
-/
import Derived.Test.YtcnmehbkpaoolaaGreatDoorDenA
import Derived.Test.YtcnmehbkpaoolaaGreatDoorDenC
noncomputable section
namespace Go.Den
abbrev FT:=Nat→AV
abbrev CF:=Aas Prop FT
abbrev H:=Hp FT
abbrev KV:=AV→H→Prop
def Ah(f:FT)(d:Nat)(v:AV):FT:=fun u=>Bool.rec (f u) v (Nat.beq u d)
def Ab(l:List AV):FT:=fun t=>Option.rec .undef (fun v=>v) (Ea l t)
def Bc9:FI where
 T:=FT
 init l:=Ab l
 get f t:=f t
 set f t v:=Ah f t v
 force f k:=k f
abbrev CP(E:Env):Cx Prop:=⟨E,Bc9,False⟩
def fN(n:Nat)(K:Nat→Prop):Prop:=Nat.rec False (fun m _=>K m) (Nat.succ n)
def fI(n:Int)(K:Int→Prop):Prop:=Int.rec (fun m=>fN m (fun m=>K (.ofNat m))) (fun m=>fN m (fun m=>K (.negSucc m))) n
def Df(n:Int)(K:Nat→Prop):Prop:=Int.rec (fun m=>K m) (fun _=>False) n
def Ar(M:(Bool→H→Prop)→Prop)(k:Bool→H→Prop):Prop:=M k
def oV{α:Type}(o:Option α)(K:α→Prop):Prop:=Option.rec False K o
def oK(o:Option (AV×H))(k:KV):Prop:=Option.rec False (fun p=>Prod.rec (fun v h=>Cf v (fun v=>Hp.rec (fun m n=>Kk m (fun m=>k v ⟨m,n⟩)) h)) p) o
def cnd(t:Bool)(A B:Prop):Prop:=Bool.rec B A t
def gate(w t:Bool)(A B:Prop):Prop:=Bool.rec (Bool.rec A B t) (Bool.rec B A t) w
def Dq(l c i:Nat)(K:Nat→Prop):Prop:=Bool.rec False (fN (Fk c i) K) (Nat.ble (Nat.add i 1) l)
def Gq(l c lo hi:Nat)(K:Nat→Nat→Prop):Prop:=Bool.rec False (fN (Nat.sub hi lo) (fun n=>fN (Vm c lo hi) (fun d=>K n d))) (An (Nat.ble lo hi) (Nat.ble hi l))
def Auf(l c m d:Nat)(K:Nat→Nat→Prop):Prop:=Bool.rec False (fN (Nat.add l m) (fun n=>fN (Yl l c d) (fun e=>K n e))) (Nat.ble (Nat.add l m) (intMax .i64))
def ltS(l c m d:Nat):Bool:=Qw (Gs l c) (Gs m d)
def Rx(k:IntKind)(a b:Int)(K:Int→Prop):Prop:=Bool.rec (fI (wrap k (a.tdiv b)) K) False (Bm b (.ofNat 0))
def Tx(a b:Int)(K:Int→Prop):Prop:=Bool.rec (fI (a.tmod b) K) False (Bm b (.ofNat 0))
def Acz(k:IntKind)(a b:Int)(K:Int→Prop):Prop:=Df b (fun b=>fI (wrap k (a*2^(min b k.bits))) K)
def Agq(k:IntKind)(a b:Int)(K:Int→Prop):Prop:=Df b (fun b=>fI (a.fdiv (2^(min b k.bits))) K)
def Bb9(a b:Int)(K:Nat→Nat→Prop):Prop:=Df a (fun a=>Df b (fun b=>K a b))
def Ll(g:Nat→Nat→Nat)(k:IntKind)(a b:Int)(K:Int→Prop):Prop:=Bb9 a b (fun a b=>Bool.rec False (fN (g a b) (fun n=>K (.ofNat n))) (An (Nat.ble a (intMax k)) (Nat.ble b (intMax k))))
def low(n:Nat):Nat:=(fun(_:Nat→(Nat→Prop)→Prop)(_:Int→(Int→Prop)→Prop)(_:((Bool→H→Prop)→Prop)→(Bool→H→Prop)→Prop)(_:Nat→Nat→Nat→(Nat→Prop)→Prop)(_:Nat→Nat→Nat→Nat→(Nat→Nat→Prop)→Prop)(_:Nat→Nat→Nat→Nat→(Nat→Nat→Prop)→Prop)
 (_:IntKind→Int→Int→(Int→Prop)→Prop) (_:IntKind→Int→Int→(Int→Prop)→Prop) (_:IntKind→Int→Int→(Int→Prop)→Prop) (_:(Nat→Nat→Nat)→IntKind→Int→Int→(Int→Prop)→Prop) (_:Option (AV×H)→KV→Prop) (_:H→P→Nat→Prop→(AV→Prop)→Prop) (_:H→P→Nat→List AV→Prop→(H→Prop)→Prop) (_:H→Ob FT→(P→H→Prop)→Prop)=>n)
 fN fI Ar Dq Gq Auf Rx Acz Agq Ll oK (fun h b o x k=>h.Hs b o x k) (fun h b o l x k=>h.Gr b o l x k) (fun h o k=>h.Cz o k)
def Am:Prop:=(fun(_:Nat)=>False) (low 0)
def Ah5(a b:IntKind):Bool:=match a with
 |.i8=>match b with|.i8=>true|_=>false
 |.i16=>match b with|.i16=>true|_=>false
 |.i32=>match b with|.i32=>true|_=>false
 |.i64=>match b with|.i64=>true|_=>false
 |.u8=>match b with|.u8=>true|_=>false
 |.u16=>match b with|.u16=>true|_=>false
 |.u32=>match b with|.u32=>true|_=>false
 |.u64=>match b with|.u64=>true|_=>false
def chk(b:Bool)(K:Prop):Prop:=Bool.rec Am K b
section
def asI(k:IntKind)(v:AV)(K:Int→Prop):Prop:=AV.rec (motive_1:=fun _=>Prop) (motive_2:=fun _=>Unit)
 (fun _=>Am) (fun j n=>Bool.rec Am (K n) (Ah5 k j)) (fun _ _=>Am) Am (fun _ _=>Am) Am (fun _ _ _ _ _=>Am) Am (fun _=>Am) (fun _ _ _ _ _=>Am) Am (fun _ _ _=>Am) Am (fun _ _=>Am) (fun _ _=>Am) Am () (fun _ _ _ _=>()) v
def Apz(v:AV)(K:Int→Prop):Prop:=AV.rec (motive_1:=fun _=>Prop) (motive_2:=fun _=>Unit)
 (fun _=>Am) (fun _ n=>K n) (fun _ _=>Am) Am (fun _ _=>Am) Am (fun _ _ _ _ _=>Am) Am (fun _=>Am) (fun _ _ _ _ _=>Am) Am (fun _ _ _=>Am) Am (fun _ _=>Am) (fun _ _=>Am) Am () (fun _ _ _ _=>()) v
def asB(v:AV)(K:Bool→Prop):Prop:=AV.rec (motive_1:=fun _=>Prop) (motive_2:=fun _=>Unit)
 (fun b=>K b) (fun _ _=>Am) (fun _ _=>Am) Am (fun _ _=>Am) Am (fun _ _ _ _ _=>Am) Am (fun _=>Am) (fun _ _ _ _ _=>Am) Am (fun _ _ _=>Am) Am (fun _ _=>Am) (fun _ _=>Am) Am () (fun _ _ _ _=>()) v
def asS(v:AV)(K:Nat→Nat→Prop):Prop:=AV.rec (motive_1:=fun _=>Prop) (motive_2:=fun _=>Unit)
 (fun _=>Am) (fun _ _=>Am) (fun l c=>K l c) Am (fun _ _=>Am) Am (fun _ _ _ _ _=>Am) Am (fun _=>Am) (fun _ _ _ _ _=>Am) Am (fun _ _ _=>Am) Am (fun _ _=>Am) (fun _ _=>Am) Am () (fun _ _ _ _=>()) v
def asP(v:AV)(K:P→Nat→Prop):Prop:=AV.rec (motive_1:=fun _=>Prop) (motive_2:=fun _=>Unit)
 (fun _=>Am) (fun _ _=>Am) (fun _ _=>Am) Am (fun b o=>K b o) Am (fun _ _ _ _ _=>Am) Am (fun _=>Am) (fun _ _ _ _ _=>Am) Am (fun _ _ _=>Am) Am (fun _ _=>Am) (fun _ _=>Am) Am () (fun _ _ _ _=>()) v
def asG(v:AV)(K:List AV→Prop):Prop:=AV.rec (motive_1:=fun _=>Prop) (motive_2:=fun _=>Unit)
 (fun _=>Am) (fun _ _=>Am) (fun _ _=>Am) Am (fun _ _=>Am) Am (fun _ _ _ _ _=>Am) Am (fun _=>Am) (fun _ _ _ _ _=>Am) Am (fun _ _ _=>Am) Am (fun cs _=>K cs) (fun _ _=>Am) Am () (fun _ _ _ _=>()) v
def asT(v:AV)(K:List AV→Prop):Prop:=AV.rec (motive_1:=fun _=>Prop) (motive_2:=fun _=>Unit)
 (fun _=>Am) (fun _ _=>Am) (fun _ _=>Am) Am (fun _ _=>Am) Am (fun _ _ _ _ _=>Am) Am (fun _=>Am) (fun _ _ _ _ _=>Am) Am (fun _ _ _=>Am) Am (fun _ _=>Am) (fun cs _=>K cs) Am () (fun _ _ _ _=>()) v
def Bft(v:AV)(K:Fn→List AV→List AV→Prop):Prop:=AV.rec (motive_1:=fun _=>Prop) (motive_2:=fun _=>Unit)
 (fun _=>Am) (fun _ _=>Am) (fun _ _=>Am) Am (fun _ _=>Am) Am (fun _ _ _ _ _=>Am) Am (fun _=>Am) (fun fn a c _ _=>K fn a c) Am (fun _ _ _=>Am) Am (fun _ _=>Am) (fun _ _=>Am) Am () (fun _ _ _ _=>()) v
def Au9(o:Ob FT)(K:(Nat→AV)→LpS→LoopState→AX→Prop):Prop:=Ob.rec Am (fun _ _ _ _ _=>Am) (fun _ _=>Am) (fun _ _=>Am) (fun _ _ _=>Am) (fun f s st pd=>K f s st pd) (fun _ _ _ _=>Am) o
def one(v:AV)(K:Prop):Prop:=AV.rec (motive_1:=fun _=>Prop) (motive_2:=fun _=>Unit)
 (fun _=>K) (fun _ _=>K) (fun _ _=>K) K (fun _ _=>K) K (fun _ _ _ _ _=>K) K (fun _=>K) (fun _ _ _ _ _=>K) K (fun _ _ _=>K) K (fun _ _=>Am) (fun _ _=>Am) Am () (fun _ _ _ _=>()) v
def Hy(v:AV)(K:Nat→Prop):Prop:=AV.rec (motive_1:=fun _=>Prop) (motive_2:=fun _=>Unit)
 (fun _=>Am) (fun _ _=>Am) (fun _ _=>Am) Am (fun _ _=>Am) (K 0) (fun _ _ n _ _=>K n) Am (fun _=>Am) (fun _ _ _ _ _=>Am) Am (fun _ _ _=>Am) Am (fun _ _=>Am) (fun _ _=>Am) Am () (fun _ _ _ _=>()) v
def Dj(sz i:Nat)(v:AV)(K:AV→Prop):Prop:=AV.rec (motive_1:=fun _=>Prop) (motive_2:=fun _=>Unit)
 (fun _=>Am) (fun _ _=>Am) (fun _ _=>Am) Am (fun _ _=>Am) Am (fun b o n z _=>Bool.rec Am (fN (Nat.add o (Nat.mul i sz)) (fun q=>K (.ptr b q))) (An (Nat.ble (Nat.add i 1) n) (Nat.beq sz z))) Am (fun _=>Am) (fun _ _ _ _ _=>Am) Am (fun _ _ _=>Am) Am (fun _ _=>Am) (fun _ _=>Am) Am () (fun _ _ _ _=>()) v
end
def Af(o:Nat)(v:AV)(K:AV→Prop):Prop:=asP v (fun b q=>fN (Nat.add q o) (fun q=>K (.ptr b q)))
def ld1(a:AV)(h:H)(K:AV→Prop):Prop:=asP a (fun b o=>h.Hs b o Am K)
def ldn(n:Nat)(a:AV)(h:H)(K:AV→Prop):Prop:=asP a (fun b o=>h.Im b o n Am (fun l=>K (.agg l)))
def st1(a v:AV)(h:H)(K:H→Prop):Prop:=asP a (fun b o=>one v (h.Gr b o [v] Am K))
def stn(n:Nat)(a v:AV)(h:H)(K:H→Prop):Prop:=asP a (fun b o=>asG v (fun cs=>Bool.rec Am (h.Gr b o cs Am K) (An (Nat.beq (len cs) n) (Nat.ble 1 n))))
def Apf(o:Nat)(v:AV)(K:AV→Prop):Prop:=asG v (fun cs=>oV (Ea cs o) K)
def Bkg(o n:Nat)(v:AV)(K:AV→Prop):Prop:=asG v (fun cs=>K (.agg (Mh n (Qg o cs))))
def ext(i:Nat)(v:AV)(K:AV→Prop):Prop:=asT v (fun cs=>oV (Ea cs i) K)
def Bfs(o:Ob FT)(K:P→Nat→List Nat→Nat→Prop):Prop:=Ob.rec Am (fun _ _ _ _ _=>Am) (fun _ _=>Am) (fun _ _=>Am) (fun _ _ _=>Am) (fun _ _ _ _=>Am) (fun m since seen stepped=>K m since seen stepped) o
abbrev Ent:=AV×AV×Nat
def Ahp(n:Nat)(l:List Nat):Bool:=List.rec false (fun x _ ih=>Bool.rec ih true (Nat.beq x n)) l
def leftOf(seen:List Nat)(es:List Ent):List Ent:=List.rec [] (fun e _ ih=>Bool.rec (e::ih) ih (Ahp e.2.2 seen)) es
def Aky(since:Nat)(l:List Ent):Bool:=List.rec true (fun e _ ih=>Bool.rec false ih (Nat.ble (Nat.add e.2.2 1) since)) l
def Af8(stepped:Nat)(l:List Ent):Bool:=List.rec false (fun e _ ih=>Bool.rec ih true (Nat.ble (Nat.add e.2.2 1) stepped)) l
def Zr{α:Type}(l:List α):Bool:=List.rec true (fun _ _ _=>false) l
def Anw(K:Ent→Prop)(l:List Ent):Prop:=List.rec True (fun e r ih=>List.rec (K e) (fun _ _ _=>And (K e) ih) r) l
def Bb7(b m:P)(since:Nat)(seen:List Nat)(es:List Ent)(clock:Nat)(h:H)(k:KV):Prop:=
 List.rec (k (.tuple [.bool false]) h) (fun e r _=>Anw (fun e=>h.Sa b (.Pa m since (Kl seen [e.2.2]) clock) (fun h=>k (.tuple [.bool true,e.1,e.2.1]) h)) (e::r)) (leftOf seen es)
def Ar6(it:AV)(h:H)(k:KV):Prop:=asP it (fun b o=>Bool.rec Am (Bfs (h.at b) (fun m since seen stepped=>oV (Qf (h.at m)) (fun p=>Bool.rec Am (Bb7 b m since seen p.1 p.2 h k)
 (An (Aky since (leftOf seen p.1)) (Bool.rec (Bool.rec (Af8 stepped p.1) true (Zr p.1)) true (Zr seen)))))) (Nat.beq o 0))
section
variable(E:Env)
def eval'(o:Operand)(f:FT):AV:=eval (CP E) o f
def coD(d:TypeDesc)(v:AV)(K:AV→Prop):Prop:=match d with
 |.int k=>asI k v (fun n=>K (.int k n))
 |.bool=>asB v (fun b=>K (.bool b))
 |.string=>asS v (fun l c=>K (.str l c))
 |_=>K v
def coK(t:TypeId)(v:AV)(K:AV→Prop):Prop:=match E.ty t with
 |some ti=>coD ti.desc v K
 |none=>K v
def bI(op:BinOp)(k:IntKind)(a b:Int)(K:AV→Prop):Prop:=match op with
 |.add=>fI (wrap k (Cl a b)) (fun n=>K (.int k n))
 |.sub=>fI (wrap k (Gl a b)) (fun n=>K (.int k n))
 |.mul=>fI (wrap k (a*b)) (fun n=>K (.int k n))
 |.eql=>K (.bool (Bm a b))
 |.neq=>K (.bool (Ck (Bm a b)))
 |.lss=>K (.bool (Cs a b))
 |.leq=>K (.bool (Er a b))
 |.gtr=>K (.bool (Cs b a))
 |.geq=>K (.bool (Er b a))
 |.quo=>Rx k a b (fun n=>K (.int k n))
 |.rem=>Tx a b (fun n=>K (.int k n))
 |.shl=>Acz k a b (fun n=>K (.int k n))
 |.shr=>Agq k a b (fun n=>K (.int k n))
 |.and=>Ll Nat.land k a b (fun n=>K (.int k n))
 |.or=>Ll Nat.lor k a b (fun n=>K (.int k n))
 |.xor=>Ll Nat.xor k a b (fun n=>K (.int k n))
 |.andNot=>False
def bS(op:BinOp)(l c m d:Nat)(K:AV→Prop):Prop:=match op with
 |.add=>Auf l c m d (fun n e=>K (.str n e))
 |.eql=>K (.bool (Bc l c m d))
 |.neq=>K (.bool (Ck (Bc l c m d)))
 |.lss=>K (.bool (ltS l c m d))
 |.geq=>K (.bool (Ck (ltS l c m d)))
 |_=>False
def Ane(op:BinOp):Bool:=match op with
 |.shl=>true
 |.shr=>true
 |_=>false
def A8p(op:BinOp)(k:IntKind)(y:AV)(K:Int→Prop):Prop:=match Ane op with
 |true=>Apz y K
 |false=>asI k y K
def A8k(op:BinOp)(t:TypeId)(d:TypeDesc)(x y:AV)(K:AV→Prop):Prop:=match d with
 |.int k=>asI k x (fun a=>A8p op k y (fun b=>bI op k a b K))
 |.string=>asS x (fun l c=>asS y (fun m d=>bS op l c m d K))
 |_=>oV (Qk E op t x y) K
def Au2(op:BinOp)(t:TypeId)(x y:AV)(K:AV→Prop):Prop:=match E.ty t with
 |some ti=>A8k E op t ti.desc x y K
 |none=>False
def Apw(op:BinOp)(t:TypeId)(ox oy:Operand)(x y:AV)(K:AV→Prop):Prop:=Bool.rec (Au2 E op t x y K) (oV (Aks E op t x y) K) (Aku E op t ox oy)
def un2(op:UnOp)(x:AV)(K:AV→Prop):Prop:=match op with
 |.not=>asB x (fun b=>K (.bool (Ck b)))
 |op=>oV (unA op x) K
def Ab0(t:TypeId)(a:AV)(h:H)(K:AV→Prop):Prop:=match E.ty t with
 |some i=>match i.agg with
  |true=>ldn i.size a h K
  |false=>ld1 a h K
 |none=>False
def Ajg(t:TypeId)(a v:AV)(h:H)(K:H→Prop):Prop:=match E.ty t with
 |some i=>match i.agg with
  |true=>stn i.size a v h K
  |false=>match Nat.beq i.size 1 with
   |true=>st1 a v h K
   |false=>False
 |none=>False
def Ann(t:TypeId)(i:Nat):Option (Nat×Nat×Bool):=match E.ty t with
 |some ti=>match ti.desc with
  |.struct fs=>match Mq fs.toList i with
   |some p=>match E.ty p.2 with
    |some fi=>some (p.1,fi.size,fi.agg)
    |none=>none
   |none=>none
  |_=>none
 |none=>none
def Zw(t:TypeId)(x:AV)(i:Nat)(K:AV→Prop):Prop:=match Ann E t i with
 |some p=>match p.2.2 with
  |true=>Bkg p.1 p.2.1 x K
  |false=>Apf p.1 x K
 |none=>False
def Up(t:TypeId)(x:AV)(i:Nat)(K:AV→Prop):Prop:=match Vv E t i with
 |some o=>Af o x K
 |none=>False
def Aju(v:AV)(K:Nat→Prop):Prop:=Apz v (fun n=>Df n K)
def Lv(t:TypeId)(x i:AV)(h:H)(k:KV):Prop:=match Rn E t with
 |some e=>match E.ty e with
  |some ei=>Aju i (fun n=>Dj ei.size n x (fun v=>k v h))
  |none=>False
 |none=>oK (Ep E t x (Bt i) h) k
def Qa(t:TypeId)(x i:AV)(h:H)(k:KV):Prop:=match E.ty t with
 |some ti=>match isStr ti.desc with
  |true=>asS x (fun l c=>Aju i (fun n=>Dq l c n (fun b=>k (.int .u8 (.ofNat b)) h)))
  |false=>oK (Ly E t x (Bt i) h) k
 |none=>False
def Ah0(ats:List TypeId)(d:TypeDesc)(x:AV)(h:H)(k:KV):Prop:=match d with
 |.string=>asS x (fun l _=>k (.int .i64 (.ofNat l)) h)
 |.slice _=>Hy x (fun n=>k (.int .i64 (.ofNat n)) h)
 |_=>oK (Vg E ats x h) k
def Ao9(ats:List TypeId)(x:AV)(h:H)(k:KV):Prop:=match Ea ats 0 with
 |some t=>match E.ty t with
  |some ti=>Ah0 E ats ti.desc x h k
  |none=>False
 |none=>False
def Ka(b:Builtin)(ats:List TypeId)(args:List AV)(h:H)(k:KV):Prop:=match b with
 |.len=>match args with
  |[x]=>Ao9 E ats x h k
  |_=>False
 |b=>oK (Cb E b ats args h) k
def El(t:TypeId):Bool:=match E.ty t with
 |some ti=>Oc ti.desc
 |none=>false
def Aae(s d:TypeId)(dd:TypeDesc)(x:AV)(h:H)(k:KV):Prop:=match dd with
 |.int kd=>match El E s with
  |true=>Apz x (fun n=>fI (wrap kd n) (fun n=>k (.int kd n) h))
  |false=>oK (Fs E h s d x) k
 |_=>oK (Fs E h s d x) k
def Ux(s d:TypeId)(x:AV)(h:H)(k:KV):Prop:=match E.ty d with
 |some ti=>Aae E s d ti.desc x h k
 |none=>False
def Apt(o:Option AV)(d:Nat)(K:Nat→Prop):Prop:=match o with
 |some v=>Aju v K
 |none=>K d
def slice3(h:H)(t:TypeId)(x:AV)(lo hi mx:Option (Option Nat)):Option (AV×H):=Option.rec none (fun m=>Fi h (Kg E h t x lo hi m)) (Px mx)
def Mb(t:TypeId)(x:AV)(lo hi mx:Option AV)(h:H)(k:KV):Prop:=match E.ty t with
 |some ti=>match isStr ti.desc with
  |true=>match mx with
   |none=>asS x (fun l c=>Apt hi l (fun hi=>Apt lo 0 (fun lo=>Gq l c lo hi (fun n d=>k (.str n d) h))))
   |some _=>False
  |false=>oK (slice3 E h t x (lo.map Bt) (hi.map Bt) (mx.map Bt)) k
 |none=>False
def Akx(e:TypeId)(h:H)(k:KV):Prop:=match E.ty e with
 |some i=>h.Cz (rowOf e i.zero) (fun b h=>k (.ptr b 0) h)
 |none=>False
def Zm(t:TypeId)(x:AV)(h:H)(k:KV):Prop:=match E.ty t with
 |some ti=>match isIface ti.desc with
  |true=>False
  |false=>k (.iface t x) h
 |none=>False
def A8j(e:TypeId)(v:AV)(h:H)(k:KV):Prop:=match E.ty e with
 |some i=>match i.agg with
  |true=>asG v (fun cs=>Bool.rec Am (h.Cz (rowOf e cs) (fun b h=>k (.ptr b 0) h)) (Nat.ble 1 (len cs)))
  |false=>one v (h.Cz (rowOf e [v]) (fun b h=>k (.ptr b 0) h))
 |none=>False
def Ax8(call:CF)(fv:AV)(args:List AV)(h:H)(k:KV):Prop:=Acf (CP E) call fv args h k
def inv2(call:CF)(fv:AV)(name:String)(args:List AV)(h:H)(k:KV):Prop:=Acg (CP E) call fv name args h k
def Hq(E:Env)(f:FT)(l:List Operand):List AV:=List.rec [] (fun x _ ih=>eval' E x f::ih) l
def Dn(o:Op)(call:CF)(f:FT)(h:H)(k:KV):Prop:=match o with
 |.move x=>k (eval' E x f) h
 |.assign x=>k (eval' E x f) h
 |.alloc e=>Akx E e h k
 |.box e x=>A8j E e (eval' E x f) h k
 |.load t a=>Ab0 E t (eval' E a f) h (fun v=>k v h)
 |.store t a x=>Ajg E t (eval' E a f) (eval' E x f) h (fun h=>k .undef h)
 |.binOp op t x y _=>Apw E op t x y (eval' E x f) (eval' E y f) (fun v=>k v h)
 |.unOp op _ x=>un2 op (eval' E x f) (fun v=>k v h)
 |.convert s d x=>Ux E s d (eval' E x f) h k
 |.makeInterface t x=>Zm E t (eval' E x f) h k
 |.slice t x lo hi mx=>Mb E t (eval' E x f) (lo.map (fun x=>eval' E x f)) (hi.map (fun x=>eval' E x f)) (mx.map (fun x=>eval' E x f)) h k
 |.fieldAddr t x i=>Up E t (eval' E x f) i (fun v=>k v h)
 |.field t x i=>Zw E t (eval' E x f) i (fun v=>k v h)
 |.indexAddr t x i=>Lv E t (eval' E x f) (eval' E i f) h k
 |.index t x i=>Qa E t (eval' E x f) (eval' E i f) h k
 |.extract x i=>ext i (eval' E x f) (fun v=>k v h)
 |.call c=>match c.callee with
  |.builtin b=>Ka E b c.argTypes.toList (Hq E f c.args.toList) h k
  |.invoke r name=>inv2 E call (eval' E r f) name (Hq E f c.args.toList) h k
  |.value v=>Ax8 E call (eval' E v f) (Hq E f c.args.toList) h k
 |.makeFunc fn a b=>k (.func fn (Hq E f a.toList) (Hq E f b.toList)) h
 |o=>exec o (CP E) call f h k
def Atk(o:Op)(call:CF)(f:FT)(h:H)(k:KV):Prop:=match o with
 |.next x b=>match b with
  |false=>Ar6 (eval' E x f) h k
  |true=>Dn E (.next x true) call f h k
 |o=>Dn E o call f h k
end
inductive Its where
 |nil
 |op (o:Oper) (rest:Its)
 |grp (j:Nat) (gd:Tmp) (want:Bool) (body:Its) (pk:Oper) (rest:Its)
def Its.flat:Its→List Oper
 |.nil=>[]
 |.op o r=>o::r.flat
 |.grp _ _ _ b pk r=>b.flat++pk::r.flat
def Di(f:FT)(d:Option Tmp)(v:AV):FT:=match d with
 |some d=>Ah f d v
 |none=>f
def Aa7(l:List Oper)(f:FT):FT:=match l with
 |[]=>f
 |o::l=>Aa7 l (Di f o.dst .top)
def Arx(o:Op):Option (Operand×Operand×Operand):=match o with
 |.pick c a b=>some (c,a,b)
 |_=>none
def Ds(w:Bool)(x y:Operand):Operand:=Bool.rec y x w
def A5m (E : Env) (w : Bool) (bf : List Oper) (pk : Oper) (t : Bool) (body rest : FT → H → (FT → H → Prop) → Prop) (f : FT) (h : H) (K : FT → H → Prop) : Prop := match Arx pk.op with
  | none => False
  | some (_, x, y) => Ar (fun kj => gate w t
        (body f h (fun f h => asB (eval' E (Ds w x y) f) (fun v => kj v h)))
        (asB (eval' E (Ds w y x) f) (fun v => kj v h)))
        (fun v h => rest (Di (Aa7 bf f) pk.dst (.bool v)) h K)
def Gi(E:Env)(call:CF)(its:Its):FT→H→(FT→H→Prop)→Prop:=Its.rec (motive:=fun _=>FT→H→(FT→H→Prop)→Prop)
 (fun f h K=>K f h)
 (fun o _ ih f h K=>Atk E o.op call f h (fun v h=>coK E o.type v (fun v=>ih (Di f o.dst v) h K)))
 (fun _ gd w b pk _ ihb ihr f h K=>asB (f gd) (fun t=>A5m E w b.flat pk t ihb ihr f h K)) its
def Fl(a b:Option (Nat×Bool)):Bool:=match a with
 |none=>match b with
  |none=>true
  |some _=>false
 |some (i,v)=>match b with
  |none=>false
  |some (j,w)=>and (Nat.beq i j) (Aod v w)
where Aod (v w:Bool):Bool:=match v with
 |true=>w
 |false=>match w with
  |true=>false
  |false=>true
def Axp(ops:List Oper)(g:Option (Nat×Bool))(j:Nat):Option Tmp:=Option.rec none (fun o=>Bool.rec none o.dst (Fl o.guard g)) (Ea ops j)
abbrev Aoh:=Option (Nat×Bool)→List Oper→Its×List Oper
def Tq(ops:List Oper)(ih:Aoh):Aoh:=fun g l=>List.rec (.nil,[])
 (fun o l' _=>Bool.rec
  (Option.rec (.nil,o::l') (fun p=>Option.rec (.nil,o::l') (fun gd=>
   Prod.rec (fun b r=>List.rec (.nil,o::l') (fun pk l'' _=>Prod.rec (fun q r=>(.grp p.1 gd p.2 b pk q,r)) (ih g l'')) r) (ih (some p) (o::l'))) (Axp ops g p.1)) o.guard)
  (Prod.rec (fun q r=>(.op o q,r)) (ih g l')) (Fl o.guard g)) l
def Gz(ops:List Oper)(n:Nat):Aoh:=Nat.rec (motive:=fun _=>Aoh) (fun _ l=>(.nil,l)) (fun _ ih=>Tq ops ih) n
def Zq(ops:List Oper):Option Its:=Prod.rec (fun q r=>List.rec (some q) (fun _ _ _=>none) r) (Gz ops (Nat.add (Nat.mul 2 (len ops)) 2) none ops)
def allEq(r:AV→AV→Bool)(xs:List AV):List AV→Bool:=List.rec (motive:=fun _=>List AV→Bool) (fun ys=>List.rec true (fun _ _ _=>false) ys) (fun x _ ih ys=>List.rec false (fun y ys _=>An (r x y) (ih ys)) ys) xs
def A5p(x y:Fn):Bool:=match x with
 |.func i=>match y with|.func j=>Nat.beq i j|_=>false
 |_=>false
def Au6(r:AV→AV→Bool)(x y:AV):Bool:=match x with
 |.bool a=>match y with|.bool b=>Af5 a b|_=>false
 |.int k a=>match y with|.int j b=>An (Ah5 k j) (Bm a b)|_=>false
 |.str l c=>match y with|.str m d=>An (Nat.beq l m) (Nat.beq c d)|_=>false
 |.Gk=>match y with|.Gk=>true|_=>false
 |.ptr a i=>match y with|.ptr b j=>An (P.beq a b) (Nat.beq i j)|_=>false
 |.Cy=>match y with|.Cy=>true|_=>false
 |.slice a i n z t=>match y with|.slice b j m w u=>An (An (P.beq a b) (Nat.beq i j)) (An (An (Nat.beq n m) (Nat.beq z w)) (Af5 t u))|_=>false
 |.Sc=>match y with|.Sc=>true|_=>false
 |.map a=>match y with|.map b=>P.beq a b|_=>false
 |.func f a c=>match y with|.func g b d=>An (A5p f g) (An (allEq r a b) (allEq r c d))|_=>false
 |.Uf=>match y with|.Uf=>true|_=>false
 |.iface t v=>match y with|.iface u w=>An (Nat.beq t u) (r v w)|_=>false
 |.Ie=>match y with|.Ie=>true|_=>false
 |.agg xs=>match y with|.agg ys=>allEq r xs ys|_=>false
 |.tuple xs=>match y with|.tuple ys=>allEq r xs ys|_=>false
 |_=>false
def Pj(n:Nat):AV→AV→Bool:=Nat.rec (fun _ _=>false) (fun _ ih=>Au6 ih) n
def eqC(x y:AV)(A:Prop):Prop:=Bool.rec Am A (Pj 4 x y)
section
variable(E:Env)
def Em(p:TypeDesc→Bool)(t:TypeId):Bool:=match E.ty t with
 |some ti=>p ti.desc
 |none=>false
def Pz(d:TypeDesc):Bool:=match d with
 |.slice _=>true
 |_=>false
def Hg(d:TypeDesc):Bool:=match d with
 |.slice _=>true
 |.string=>true
 |_=>false
def kindOf(o:Op):Nat:=match o with
 |.move _=>0
 |.assign _=>0
 |.binOp ..=>0
 |.unOp ..=>0
 |.fieldAddr ..=>0
 |.field ..=>0
 |.extract ..=>0
 |.makeInterface ..=>0
 |.makeFunc ..=>0
 |.index ..=>0
 |.indexAddr ..=>0
 |.nilCheck _=>0
 |.build ..=>0
 |.pick ..=>0
 |.slice t _ _ _ _=>Bool.rec 1 0 (Em E Hg t)
 |.convert s d _=>Bool.rec (Bool.rec 1 2 (Em E Pz d)) 0 (An (El E s) (El E d))
 |.load ..=>1
 |.lookup ..=>1
 |.call c=>match c.callee with
  |.builtin b=>match b with
   |.len=>match c.argTypes.toList with
    |t::_=>Bool.rec 1 0 (Em E Hg t)
    |[]=>1
   |.cap=>1
   |.unsafeSliceData=>1
   |.min=>1
   |.max=>1
   |_=>2
  |_=>2
 |_=>2
inductive Dr where
 |nil
 |op (i:Nat) (o:Oper) (rl:List (Nat×Oper)) (rest:Dr)
 |grp (j:Nat) (gd:Tmp) (want:Bool) (body:Dr) (ip:Nat) (pk:Oper) (rest:Dr)
abbrev Tri:=Nat×Oper×List (Nat×Oper)
def Ym(l:List (Nat×Oper)):List Oper:=List.rec [] (fun p _ ih=>p.2::ih) l
abbrev Af9:=Option (Nat×Bool)→List Tri→Dr×List Tri
def Qv(ops:List Oper)(ih:Af9):Af9:=fun g l=>List.rec (.nil,[])
 (fun o l' _=>Bool.rec
  (Option.rec (.nil,o::l') (fun p=>Option.rec (.nil,o::l') (fun gd=>
   Prod.rec (fun b r=>List.rec (.nil,o::l') (fun pk l'' _=>Prod.rec (fun q r=>(.grp p.1 gd p.2 b pk.1 pk.2.1 q,r)) (ih g l'')) r) (ih (some p) (o::l'))) (Axp ops g p.1)) o.2.1.guard)
  (Prod.rec (fun q r=>(.op o.1 o.2.1 o.2.2 q,r)) (ih g l')) (Fl o.2.1.guard g)) l
def Fv(ops:List Oper)(n:Nat):Af9:=Nat.rec (motive:=fun _=>Af9) (fun _ l=>(.nil,l)) (fun _ ih=>Qv ops ih) n
def Np(call:CF)(rl:List Oper)(f:FT)(h:H)(A:Prop):Prop:=List.rec A (fun o _ ih=>Dn E o.op call f h (fun v _=>coK E o.type v (fun v=>eqC v (Option.rec .undef f o.dst) ih))) rl
def Dr.Uv(its:Dr):List (Option Tmp):=Dr.rec [] (fun _ o _ _ ih=>o.dst::ih) (fun _ _ _ _ _ pk _ ihb ihr=>Kl ihb (pk.dst::ihr)) its
def Xb(l:List (Option Tmp))(f:FT):FT:=List.rec (motive:=fun _=>FT→FT) (fun f=>f) (fun d _ ih f=>ih (Di f d .top)) l f
def A5l (w : Bool) (bd : List (Option Tmp)) (pk : Oper) (t : Bool) (body rest : FT → H → (FT → H → Prop) → Prop) (f : FT) (h : H) (K : FT → H → Prop) : Prop := match Arx pk.op with
  | none => False
  | some (_, x, y) => Ar (fun kj => gate w t
        (body f h (fun f h => asB (eval' E (Ds w x y) f) (fun v => kj v h)))
        (asB (eval' E (Ds w y x) f) (fun v => kj v h)))
        (fun v h => rest (Di (Xb bd f) pk.dst (.bool v)) h K)
def Jj(call:CF)(its:Dr):FT→H→(FT→H→Prop)→Prop:=Dr.rec (motive:=fun _=>FT→H→(FT→H→Prop)→Prop)
 (fun f h K=>K f h)
 (fun _ o rl _ ih f h K=>Dn E o.op call f h (fun v h=>coK E o.type v (fun v=>Np E call (Ym rl) (Di f o.dst v) h (ih (Di f o.dst v) h K))))
 (fun _ gd w b _ pk _ ihb ihr f h K=>asB (f gd) (fun t=>A5l E w b.Uv pk t ihb ihr f h K)) its
end
def Sz(acc:List Nat)(es:List Edge):Nat:=List.rec 0 (fun e _ ih=>Bool.rec ih (Nat.lor ih (Nat.lor (Nat.shiftLeft 1 e.on) (Option.rec 0 (fun m=>m) (Ea acc e.on)))) (Region.binds .any e)) es
def Hz(l:List Oper):List Nat→List Nat:=List.rec (motive:=fun _=>List Nat→List Nat) (fun acc=>acc) (fun o _ ih acc=>ih (Kl acc [Sz acc o.after.toList])) l
def bit(m i:Nat):Bool:=Nat.beq (Nat.mod (Nat.shiftRight m i) 2) 1
def Aox(E:Env)(_ms:List Nat)(m:Nat)(g:Option (Nat×Bool))(done:List (Nat×Oper)):List (Nat×Oper):=List.rec [] (fun p _ ih=>Bool.rec ih (p::ih) (An (Nat.beq (kindOf E p.2.op) 1) (An (Bool.rec (Fl p.2.guard g) true (Fl p.2.guard none)) (Ck (bit m p.1))))) done
def Ul(o:Op):Bool:=match o with
 |.alloc _=>true
 |.makeMap _ r=>match r with
  |none=>true
  |some _=>false
 |.makeSlice _ _ _=>true
 |.buildSlice _ _ _=>true
 |_=>false
def Asc(o:Op)(ms:List Nat)(i:Nat)(pl:List Nat):Nat:=Bool.rec (Option.rec 0 (fun m=>m) (Ea ms i)) (Bool.rec 0 (Option.rec 0 (fun m=>m) (Ea ms i)) (List.rec true (fun j _ ih=>Bool.rec false ih (bit (Option.rec 0 (fun m=>m) (Ea ms j)) i)) pl)) (Ul o)
def triples(E:Env)(ops:List Oper)(ms pl:List Nat):List (Nat×Oper)→List Tri:=List.rec (motive:=fun _=>List (Nat×Oper)→List Tri) (fun _=>[])
 (fun i pl ih done=>Option.rec [] (fun o=>(i,o,Bool.rec [] (Aox E ms (Asc o.op ms i pl) o.guard done) (Nat.beq (kindOf E o.op) 2))::ih (Kl done [(i,o)])) (Ea ops i)) pl
def Apj(E:Env)(ops:List Oper)(pl:List Nat):Option Dr:=Prod.rec (fun q r=>List.rec (some q) (fun _ _ _=>none) r) (Fv ops (Nat.add (Nat.mul 2 (len ops)) 2) none (triples E ops (Hz ops []) pl []))
abbrev Aj:=List (Nat×List Nat)
def Kh(ps:Aj)(id:Nat):Option (List Nat):=List.rec none (fun p _ ih=>Bool.rec ih (some p.2) (Nat.beq p.1 id)) ps
inductive Pos where
 |root
 |l (p:Pos)
 |r (p:Pos)
 |lab (p:Pos) (n:Nat)
def Pos.beq(p:Pos):Pos→Bool:=Pos.rec (motive:=fun _=>Pos→Bool)
 (fun q=>Pos.rec true (fun _ _=>false) (fun _ _=>false) (fun _ _ _=>false) q)
 (fun _ ih q=>Pos.rec false (fun q _=>ih q) (fun _ _=>false) (fun _ _ _=>false) q)
 (fun _ ih q=>Pos.rec false (fun _ _=>false) (fun q _=>ih q) (fun _ _ _=>false) q)
 (fun _ n ih q=>Pos.rec false (fun _ _=>false) (fun _ _=>false) (fun q m _=>An (Nat.beq n m) (ih q)) q) p
abbrev Ay:=List (Pos×Nat)
def cutAt(cs:Ay)(p:Pos):Option Nat:=List.rec none (fun c _ ih=>Bool.rec ih (some c.2) (Pos.beq c.1 p)) cs
abbrev Jump:=Nat→FT→H→Prop
abbrev KX':=AX→FT→H→Prop
def Aqs(ds:List Tmp):List AV→FT→FT:=List.rec (motive:=fun _=>List AV→FT→FT) (fun _ f=>f) (fun d _ ih vs f=>List.rec f (fun v vs _=>ih vs (Ah f d v)) vs) ds
def Ani(E:Env)(fn:Fn):Bool:=match fn with
 |.func f=>match E.fn f with
  |some fn=>match fn.body with
   | some _ => !(fn.name == "runtime.NumGoroutine")
   |none=>false
  |none=>false
 |_=>false
def isReady(s:LoopState):Bool:=match s with
 |.ready=>true
 |_=>false
def Aw8(s:LoopState):Bool:=match s with
 |.busy=>false
 |_=>true
def nOf(pls:Aj):Nat:=Option.rec 0 (fun l=>List.rec 0 (fun n _ _=>n) l) (Kh pls 4294967295)
def Xk(pls:Aj):List Nat:=Option.rec [] (fun l=>l) (Kh pls 4294967294)
def Oh(l:List Nat)(f:FT):FT:=List.rec (fun _=>.top) (fun t _ ih=>Ah ih t (f t)) l
def pFs(n:Nat):Nat→P:=Nat.rec (motive:=fun _=>Nat→P) (fun _=>.z) (fun _ ih m=>Bool.rec (Bool.rec (.r (ih (Nat.div (Nat.sub m 2) 2))) (.l (ih (Nat.div (Nat.sub m 1) 2))) (Nat.beq (Nat.mod m 2) 1)) .z (Nat.beq m 0)) n
def Bdh(l:P)(K:AX→H→Prop)(h:H):Prop:=Au9 (h.at l) (fun f' s st pd=>Bool.rec Am (h.Sa l (.loop f' s .exhausted pd) (fun h=>K pd h)) (Aw8 st))
def Aq3(E:Env)(call:CF)(lp:LpS)(g:AV)(f:FT)(h:H)(K:AX→H→Prop):Prop:=
 Bft g (fun fn a c=>Bool.rec Am (h.Cz (.loop f lp .ready .normal) (fun l h=>call fn (a++[.func (.yield l.nat) [] []]++c) h (fun _ h=>Bdh l K h))) (Ani E fn))
def Apx(x y:AX):Bool:=match x with
 |.normal=>match y with|.normal=>true|_=>false
 |.exit i=>match y with|.exit j=>Nat.beq i j|_=>false
 |.goto i=>match y with|.goto j=>Nat.beq i j|_=>false
 |.ret=>match y with|.ret=>true|_=>false
def Bi2(x:AX)(l:List AX):Bool:=List.rec false (fun y _ ih=>Bool.rec ih true (Apx x y)) l
def Bfa(l:List AX):List AX:=List.rec [] (fun x _ ih=>Bool.rec (x::ih) ih (Bi2 x ih)) l
def Be7(id:Nat)(l:List AX):List AX:=List.rec [] (fun x _ ih=>Bool.rec (x::ih) ih (Apx x (.exit id))) l
def Anq(c:Code):List AX:=Code.rec (motive:=fun _=>List AX) [] (fun _ _ _=>[]) (fun _ _ x y=>Kl x y) (fun _ _ _ x y=>Kl x y) (fun id _ x=>Be7 id x) (fun _ x=>x)
 (fun _ _ _ _ x y=>Kl x y) (fun id=>[.exit id]) (fun _ x=>x) (fun _=>[]) (fun l=>[.goto l]) [.ret] (fun _=>[]) c
def Amx(x:AX)(l:List AX)(K:AX→Prop):Prop:=List.rec False (fun y _ ih=>cnd (Apx x y) (K y) ih) l
def opsOf(c:Code):Array Oper:=match c with
 |.region _ ops _=>ops
 |_=>#[]
theorem Ayh{x y:AX}(h:Apx x y=true):x=y:=by
 cases x<;>cases y<;>first|rfl|cases h|(rw[Nat.eq_of_beq_eq_true (show Nat.beq _ _=true from h)])
theorem Abt{x:AX}{K:AX→Prop}:∀{l:List AX},Amx x l K→K x
 |[],h=>h.elim
 |y::l,h=>by
  have h:cnd (Apx x y) (K y) (Amx x l K):=h
  cases e:Apx x y with
  |true=>rw[e] at h;rw[Ayh e];exact h
  |false=>rw[e] at h;exact Abt h
def Bkn(c:Code)(p:Pos):Code:=Pos.rec c
 (fun _ ih=>match ih with|.seq a _=>a|.cond _ a _=>a|.block _ a=>a|.loop a=>a|.scope a=>a|_=>.skip)
 (fun _ ih=>match ih with|.seq _ b=>b|.cond _ _ b=>b|_=>.skip)
 (fun _ n ih=>match ih with|.scope a=>Option.rec .skip (fun c=>c) (findLabel a n)|_=>.skip) p
section
variable(E:Env)(call:CF)(pls:Aj)(cuts:Ay)(J:Jump)
def enter(p:Pos)(f:FT)(h:H)(A:Prop):Prop:=Option.rec A (fun L=>J L f h) (cutAt cuts p)
def A2d(B:FT→H→KX'→Prop)(K:KX'):KX':=fun x f h=>AX.rec (B f h K) (fun id=>K (.exit id) f h) (fun l=>K (.goto l) f h) (K .ret f h) x
def Akr(id:Nat)(K:KX'):KX':=fun x f h=>AX.rec (K .normal f h) (fun j=>Bool.rec (K (.exit j) f h) (K .normal f h) (Nat.beq j id)) (fun l=>K (.goto l) f h) (K .ret f h) x
def Asg(B:FT→H→Prop)(K:KX'):KX':=fun x f h=>AX.rec (B f h) (fun id=>K (.exit id) f h) (fun l=>K (.goto l) f h) (K .ret f h) x
def Yp(c:Code)(B:Nat→FT→H→Prop)(K:KX'):KX':=fun x f h=>AX.rec (K .normal f h) (fun id=>K (.exit id) f h) (fun l=>Option.rec (K (.goto l) f h) (fun _=>B l f h) (findLabel c l)) (K .ret f h) x
def Be8(id:Nat)(ops:List Oper)(f:FT)(h:H)(K:FT→H→Prop):Prop:=oV (Kh pls id) (fun pl=>List.rec False (fun _ _ _=>oV (Apj E ops pl) (fun its=>Jj E call its f h K)) pl)
def Ba8(id:Nat)(ops:List Oper)(d:Bool)(f:FT)(h:H)(K:FT→H→Prop):Prop:=Bool.rec (Option.rec (oV (Zq ops) (fun its=>Gi E call its f h K)) (fun _=>False) (Kh pls id)) (Be8 E call pls id ops f h K) d
abbrev Pk:=Pos→FT→H→KX'→Prop
def Ba2(a b:Pk):Pk:=fun p f h K=>a (.l p) f h (A2d (b (.r p)) K)
def Ayt(c:Operand)(a b:Pk):Pk:=fun p f h K=>asB (eval' E c f) (fun t=>Bool.rec (b (.r p) f h K) (a (.l p) f h K) t)
def Aqv(id:Nat)(a:Pk):Pk:=fun p f h K=>a (.l p) f h (Akr id K)
def Ays(a:Pk):Pk:=fun p f h K=>a (.l p) f h (Asg (fun f h=>enter cuts J p f h False) K)
def Aqt(c:Code)(a:Pk):Pk:=fun p f h K=>a (.l p) f h (Yp c (fun l f h=>enter cuts J (.lab p l) f h False) K)
def Ba3(id:Nat)(ops:List Oper)(d:Bool):Pk:=fun _ f h K=>Ba8 E call pls id ops d f h (fun f h=>K .normal f h)
def Aqu(g:Operand)(ps:Array Tmp)(as bd:Code):Pk:=fun _ f h K=>Aq3 E call ⟨ps.toList,as,bd,pls,nOf pls⟩ (eval' E g f) (Oh (Xk pls) f) h (fun x h=>Amx x (.normal::Bfa (Anq bd)) (fun y=>K y f h))
def Ow(a:Pk):Pk:=fun p f h K=>enter cuts J p f h (a p f h K)
def Yu(c:Code):Pk:=Code.rec (motive:=fun _=>Pk)
 (Ow cuts J (fun _ f h K=>K .normal f h)) (fun id ops d=>Ow cuts J (Ba3 E call pls id ops.toList d)) (fun _ _ a b=>Ow cuts J (Ba2 a b)) (fun c _ _ a b=>Ow cuts J (Ayt E c a b)) (fun id _ a=>Ow cuts J (Aqv id a)) (fun _ a=>Ow cuts J (Ays cuts J a))
 (fun g ps as bd _ _=>Ow cuts J (Aqu E call pls g ps as bd)) (fun id=>Ow cuts J (fun _ f h K=>K (.exit id) f h)) (fun c a=>Ow cuts J (Aqt cuts J c a)) (fun _=>Ow cuts J (fun _ f h K=>K .normal f h)) (fun l=>Ow cuts J (fun _ f h K=>K (.goto l) f h)) (Ow cuts J (fun _ f h K=>K .ret f h)) (fun _=>fun _ _ _ _=>False) c
def Ayq(c:Code):Pk:=Code.rec (motive:=fun _=>Pk)
 (fun _ f h K=>K .normal f h) (fun id ops d=>Ba3 E call pls id ops.toList d) (fun a b _ _=>Ba2 (Yu E call pls cuts J a) (Yu E call pls cuts J b)) (fun c a b _ _=>Ayt E c (Yu E call pls cuts J a) (Yu E call pls cuts J b)) (fun id a _=>Aqv id (Yu E call pls cuts J a)) (fun a _=>Ays cuts J (Yu E call pls cuts J a))
 (fun g ps as bd _ _=>Aqu E call pls g ps as bd) (fun id=>fun _ f h K=>K (.exit id) f h) (fun c _=>Aqt cuts J c (Yu E call pls cuts J c)) (fun _=>fun _ f h K=>K .normal f h) (fun l=>fun _ f h K=>K (.goto l) f h) (fun _ f h K=>K .ret f h) (fun _=>fun _ _ _ _=>False) c
abbrev CK:=Option (Code×KX')
def ckL(p:Pos)(c:Code)(K:KX'):CK:=Code.rec (motive:=fun _=>CK) none (fun _ _ _=>none) (fun a b _ _=>some (a,A2d (Yu E call pls cuts J b (.r p)) K)) (fun _ a _ _ _=>some (a,K)) (fun id a _=>some (a,Akr id K))
 (fun a _=>some (a,Asg (fun f h=>enter cuts J p f h False) K)) (fun _ _ _ _ _ _=>none) (fun _=>none) (fun a _=>some (a,Yp a (fun l f h=>enter cuts J (.lab p l) f h False) K)) (fun _=>none) (fun _=>none) none (fun _=>none) c
def ckR(c:Code)(K:KX'):CK:=Code.rec (motive:=fun _=>CK) none (fun _ _ _=>none) (fun _ b _ _=>some (b,K)) (fun _ _ b _ _=>some (b,K)) (fun _ _ _=>none)
 (fun _ _=>none) (fun _ _ _ _ _ _=>none) (fun _=>none) (fun _ _=>none) (fun _=>none) (fun _=>none) none (fun _=>none) c
def Azi(p:Pos)(n:Nat)(c:Code)(K:KX'):CK:=Code.rec (motive:=fun _=>CK) none (fun _ _ _=>none) (fun _ _ _ _=>none) (fun _ _ _ _ _=>none) (fun _ _ _=>none)
 (fun _ _=>none) (fun _ _ _ _ _ _=>none) (fun _=>none) (fun a _=>Option.rec none (fun r=>some (r,Yp a (fun l f h=>enter cuts J (.lab p l) f h False) K)) (findLabel a n)) (fun _=>none) (fun _=>none) none (fun _=>none) c
def Uz(c0:Code)(K0:KX')(p:Pos):CK:=Pos.rec (some (c0,K0))
 (fun p ih=>Option.rec none (fun q=>ckL E call pls cuts J p q.1 q.2) ih) (fun _ ih=>Option.rec none (fun q=>ckR q.1 q.2) ih) (fun p n ih=>Option.rec none (fun q=>Azi cuts J p n q.1 q.2) ih) p
def Jd(c0:Code)(K0:KX')(p:Pos)(f:FT)(h:H):Prop:=Option.rec False (fun q=>Ayq E call pls cuts J q.1 p f h q.2) (Uz E call pls cuts J c0 K0 p)
def noJ:Jump:=fun _ _ _=>False
def Bkk(l:P)(k:KV):KX':=fun x _ h=>Au9 (h.at l) (fun f s _ _=>AX.rec (h.Sa l (.loop f s .ready .normal) (fun h=>k (.bool true) h)) (fun id=>h.Sa l (.loop f s .done (.exit id)) (fun h=>k (.bool false) h))
 (fun t=>h.Sa l (.loop f s .done (.goto t)) (fun h=>k (.bool false) h)) (h.Sa l (.loop f s .done .ret) (fun h=>k (.bool false) h)) x)
def Bi1(l:P)(s:LpS)(k:KV):KX':=fun x f h=>AX.rec (Au9 (h.at l) (fun f' s' st pd=>Bool.rec Am (h.Sa l (.loop f' s' .busy pd) (fun h=>Yu E call s.pls [] noJ s.body .root f h (Bkk l k))) (isReady st))) (fun _=>False) (fun _=>False) False x
def Az3(chk:LpS→Bool)(l:P)(args:List AV)(h:H)(k:KV):Prop:=Au9 (h.at l) (fun f s _ _=>Bool.rec Am (Yu E call s.pls [] noJ s.assign .root (Aqs s.params args f) h (Bi1 E call l s k)) (An (chk s) (Nat.beq (len args) (len s.params))))
def Ai9(chk:LpS→Bool)(n:Nat)(args:List AV)(h:H)(k:KV):Prop:=Bool.rec Am (Az3 E call chk (pFs 64 n) args h k) (Nat.beq (P.nat (pFs 64 n)) n)
def A2i(f:FT)(h:H)(r:ResultVar)(k:AV→Prop):Prop:=ResultVar.rec (fun t=>k (f t)) (fun a t=>Ab0 E t (f a) h k) r
def Ag4(f:FT)(h:H)(rs:List ResultVar):(List AV→Prop)→Prop:=List.rec (motive:=fun _=>(List AV→Prop)→Prop) (fun k=>k []) (fun r _ ih k=>A2i E f h r (fun v=>ih (fun l=>k (v::l)))) rs
def Ak8(l:List AV):AV:=List.rec (.tuple []) (fun v r _=>List.rec v (fun _ _ _=>.tuple (v::r)) r) l
def As(rs:List ResultVar)(k:KV):KX':=fun x f h=>AX.rec (Ag4 E f h rs (fun l=>k (Ak8 l) h)) (fun _=>False) (fun _=>False) (Ag4 E f h rs (fun l=>k (Ak8 l) h)) x
end
end Go.Den
namespace Go.Den
open Go.RowKit
theorem Bda(n:Nat)(K:Nat→Prop):fN n K=K n:=rfl
theorem Ak(n:Int)(K:Int→Prop):fI n K=K n:=by cases n<;>rfl
theorem Ee:¬Am:=fun h=>h
theorem Ang{a b:IntKind}(h:Ah5 a b=true):a=b:=by cases a<;>cases b<;>first|rfl|cases h
theorem Rt{k:IntKind}{v:AV}{K:Int→Prop}(h:asI k v K):∃n,v=.int k n∧K n:=by
 cases v<;>try exact(Ee h).elim
 rename_i j n
 have h:(Bool.rec Am (K n) (Ah5 k j):Prop):=h
 cases hk:Ah5 k j with
 |false=>rw[hk] at h;exact(Ee h).elim
 |true=>rw[hk] at h;cases Ang hk;exact⟨n,rfl,by assumption⟩
theorem Vi{v:AV}{K:Int→Prop}(h:Apz v K):∃k n,v=.int k n∧K n:=by
 cases v<;>first|exact(Ee h).elim|exact⟨_,_,rfl,h⟩
theorem Hl{v:AV}{K:Bool→Prop}(h:asB v K):∃b,v=.bool b∧K b:=by
 cases v<;>first|exact(Ee h).elim|exact⟨_,rfl,h⟩
theorem Kx{v:AV}{K:Nat→Nat→Prop}(h:asS v K):∃l c,v=.str l c∧K l c:=by
 cases v<;>first|exact(Ee h).elim|exact⟨_,_,rfl,h⟩
theorem Ma{v:AV}{K:P→Nat→Prop}(h:asP v K):∃b o,v=.ptr b o∧K b o:=by
 cases v<;>first|exact(Ee h).elim|exact⟨_,_,rfl,h⟩
theorem Vj{v:AV}{K:List AV→Prop}(h:asG v K):∃cs,v=.agg cs∧K cs:=by
 cases v<;>first|exact(Ee h).elim|exact⟨_,rfl,h⟩
theorem Aog{v:AV}{K:List AV→Prop}(h:asT v K):∃cs,v=.tuple cs∧K cs:=by
 cases v<;>first|exact(Ee h).elim|exact⟨_,rfl,h⟩
theorem Ava{v:AV}{K:Fn→List AV→List AV→Prop}(h:Bft v K):∃fn a c,v=.func fn a c∧K fn a c:=by
 cases v<;>first|exact(Ee h).elim|exact⟨_,_,_,rfl,h⟩
theorem Vh{o:Ob FT}{K:(Nat→AV)→LpS→LoopState→AX→Prop}(h:Au9 o K):∃f s st pd,o=.loop f s st pd∧K f s st pd:=by
 cases o<;>first|exact(Ee h).elim|exact⟨_,_,_,_,rfl,h⟩
theorem Amz{v:AV}{K:Prop}(h:one v K):v.one=true∧v.cells=[v]∧K:=by
 cases v<;>first|exact(Ee h).elim|exact⟨rfl,rfl,h⟩
theorem Nv{α:Type}{o:Option α}{K:α→Prop}(h:oV o K):∃v,o=some v∧K v:=by
 cases o with
 |none=>exact h.elim
 |some v=>exact⟨v,rfl,h⟩
theorem Mo{n:Int}{K:Nat→Prop}(h:Df n K):∃m,n=Int.ofNat m∧K m:=by
 cases n with
 |ofNat m=>exact⟨m,rfl,h⟩
 |negSucc m=>exact h.elim
theorem Zk{v:AV}{K:Nat→Prop}(h:Aju v K):∃m,Bt v=some m∧K m:=by
 obtain⟨k,n,rfl,h⟩:=Vi h
 obtain⟨m,rfl,h⟩:=Mo h
 exact⟨m,rfl,h⟩
theorem Xq{c:Bool}{K:Prop}(h:(Bool.rec False K c:Prop)):c=true∧K:=by
 cases c with
 |false=>exact h.elim
 |true=>exact⟨rfl,h⟩
theorem Fe{c:Bool}{K:Prop}(h:(Bool.rec Am K c:Prop)):c=true∧K:=by
 cases c with
 |false=>exact(Ee h).elim
 |true=>exact⟨rfl,h⟩
theorem Ahk{c:Bool}{K:Prop}(h:(Bool.rec K False c:Prop)):c=false∧K:=by
 cases c with
 |true=>exact h.elim
 |false=>exact⟨rfl,h⟩
theorem Asi{v:AV}{K:Nat→Prop}(h:Hy v K):(v=.Cy∧K 0)∨∃b o n z t,v=.slice b o n z t∧K n:=by
 cases v<;>first|exact(Ee h).elim|exact .inl ⟨rfl,h⟩|exact .inr ⟨_,_,_,_,_,rfl,h⟩
theorem Aph{sz i:Nat}{v:AV}{K:AV→Prop}(h:Dj sz i v K):∃b o n t,v=.slice b o n sz t∧Nat.ble (Nat.add i 1) n=true∧K (.ptr b (Nat.add o (Nat.mul i sz))):=by
 cases v<;>try exact(Ee h).elim
 rename_i b o n z t
 obtain⟨hc,h⟩:=Fe (show(Bool.rec Am (fN (Nat.add o (Nat.mul i sz)) (fun q=>K (.ptr b q))) (An (Nat.ble (Nat.add i 1) n) (Nat.beq sz z)):Prop) from h)
 obtain⟨h1,h2⟩:=Ag hc
 have e:=Bl h2
 subst e
 exact⟨b,o,n,t,rfl,h1,by assumption⟩
theorem Bb6(E:Env)(k:KV)(o:Option (AV×H)):oK o k=Dk (CP E) k o:=rfl
theorem Ac(k:KV)(v:AV)(h:H):oK (some (v,h)) k=k v h:=by
 obtain⟨m,n⟩:=h
 show Cf v (fun v=>Kk m (fun m=>k v ⟨m,n⟩))=_
 rw[Ch,Jr]
theorem Ar4{k:KV}{o:Option (AV×H)}(h:oK o k):∃v h',o=some (v,h')∧k v h':=by
 cases o with
 |none=>exact h.elim
 |some p=>obtain⟨v,h'⟩:=p;rw[Ac] at h;exact⟨v,h',rfl,h⟩
section
variable{E:Env}
theorem Ax1{d:TypeDesc}{v:AV}{K:AV→Prop}(h:coD d v K):K v:=by
 unfold coD at h
 split at h
 · obtain⟨n,rfl,h2⟩:=Rt h;exact h2
 · obtain⟨b,rfl,h2⟩:=Hl h;exact h2
 · obtain⟨l,c,rfl,h2⟩:=Kx h;exact h2
 · exact h
theorem Va{t:TypeId}{v:AV}{K:AV→Prop}(h:coK E t v K):K v:=by
 unfold coK at h
 split at h
 · exact Ax1 h
 · exact h
theorem Aak{op:BinOp}{k:IntKind}{a b:Int}{g:Nat→Nat→Nat}(hg:∀x y,Aiw op k x y=some (.int k (.ofNat (g x y)))){K:AV→Prop}(h:Ll g k a b (fun n=>K (.int k n))):∃v,Aiv op k a b=some v∧K v:=by
 obtain⟨x,rfl,h⟩:=Mo h
 obtain⟨y,rfl,h⟩:=Mo h
 obtain⟨hc,h⟩:=Xq h
 refine⟨_,?_,h⟩
 show(Bool.rec none (Aiw op k x y) (An (Nat.ble x (intMax k)) (Nat.ble y (intMax k))):Option AV)=_
 rw[hc,hg]
theorem Au5{op:BinOp}{k:IntKind}{a b:Int}{K:AV→Prop}(h:bI op k a b K):∃v,Aam op k a b=some v∧K v:=by
 cases op<;>simp only[bI] at h
 case add=>rw[Ak] at h;exact⟨_,rfl,h⟩
 case sub=>rw[Ak] at h;exact⟨_,rfl,h⟩
 case mul=>rw[Ak] at h;exact⟨_,rfl,h⟩
 case quo=>
  obtain⟨hc,h⟩:=Ahk h
  rw[Ak] at h
  refine⟨_,?_,h⟩
  show A5k k a b=_
  unfold A5k;rw[hc];rfl
 case rem=>
  obtain⟨hc,h⟩:=Ahk h
  rw[Ak] at h
  refine⟨_,?_,h⟩
  show A5j k a b=_
  unfold A5j;rw[hc]
 case and=>exact Aak (fun _ _=>rfl) h
 case or=>exact Aak (fun _ _=>rfl) h
 case xor=>exact Aak (fun _ _=>rfl) h
 case shl=>
  obtain⟨m,rfl,h2⟩:=Mo h
  rw[Ak] at h2
  exact⟨_,rfl,h2⟩
 case shr=>
  obtain⟨m,rfl,h2⟩:=Mo h
  rw[Ak] at h2
  exact⟨_,rfl,h2⟩
 case eql=>exact⟨_,rfl,h⟩
 case neq=>exact⟨_,rfl,h⟩
 case lss=>exact⟨_,rfl,h⟩
 case leq=>exact⟨_,rfl,h⟩
 case gtr=>exact⟨_,rfl,h⟩
 case geq=>exact⟨_,rfl,h⟩
theorem A8n{op:BinOp}{l c m d:Nat}{K:AV→Prop}(h:bS op l c m d K):∃v,Af3 op l c m d=some v∧K v:=by
 cases op<;>simp only[bS] at h
 case add=>
  obtain⟨hc,h⟩:=Xq h
  refine⟨_,?_,h⟩
  show(Bool.rec none _ (Nat.ble (Nat.add l m) (intMax .i64)):Option AV)=_
  rw[hc]
 all_goals exact⟨_,rfl,h⟩
theorem Au1{op:BinOp}{t:TypeId}{x y:AV}{K:AV→Prop}(h:Au2 E op t x y K):∃v,Qk E op t x y=some v∧K v:=by
 unfold Au2 at h
 split at h
 · unfold A8k at h
   split at h
   · obtain⟨a,rfl,h2⟩:=Rt h
     clear h
     unfold A8p at h2
     rename_i k _
     cases hs:Ane op with
     |true=>
      rw[hs] at h2
      obtain⟨j,b,rfl,h3⟩:=Vi h2
      obtain⟨v,hv,h4⟩:=Au5 h3
      refine⟨v,?_,h4⟩
      show(Bool.rec none (Aam op k a b) (sameKind op k j):Option AV)=_
      have:sameKind op k j=true:=by cases op<;>first|rfl|cases hs
      rw[this];exact hv
     |false=>
      rw[hs] at h2
      obtain⟨b,rfl,h3⟩:=Rt h2
      obtain⟨v,hv,h4⟩:=Au5 h3
      refine⟨v,?_,h4⟩
      show(Bool.rec none (Aam op k a b) (sameKind op k k):Option AV)=_
      have:sameKind op k k=true:=by cases op<;>first|rfl|exact decide_eq_true rfl
      rw[this];exact hv
   · obtain⟨l,c,rfl,h2⟩:=Kx h
     obtain⟨m,d,rfl,h3⟩:=Kx h2
     obtain⟨v,hv,h4⟩:=A8n h3
     exact⟨v,hv,h4⟩
   · exact Nv h
 · exact h.elim
theorem Au0{op:BinOp}{t:TypeId}{ox oy:Operand}{x y:AV}{K:AV→Prop}(h:Apw E op t ox oy x y K):∃v,Aix E op t ox oy x y=some v∧K v:=by
 unfold Apw at h
 unfold Aix
 cases ha:Aku E op t ox oy with
 |false=>rw[ha] at h;exact Au1 h
 |true=>
  rw[ha] at h
  have h:oV (Aks E op t x y) K:=h
  show∃v,Aks E op t x y=some v∧K v
  cases hb:Aks E op t x y with
  |none=>rw[hb] at h;exact h.elim
  |some v=>rw[hb] at h;exact⟨v,rfl,h⟩
theorem Awe{op:UnOp}{x:AV}{K:AV→Prop}(h:un2 op x K):∃v,unA op x=some v∧K v:=by
 unfold un2 at h
 split at h
 · obtain⟨b,rfl,h2⟩:=Hl h
   refine⟨_,rfl,?_⟩
   cases b<;>exact h2
 · exact Nv h
end
end Go.Den
namespace Go.Den
open Go.RowKit
section
variable{E:Env}{call:CF}{f:FT}{h:H}{k:KV}
theorem Ia{o:Option (AV×H)}{v:AV}{h':H}(e:o=some (v,h'))(hk:k v h'):Dk (CP E) k o:=by
 rw[e,←Bb6,Ac];exact hk
theorem Qe{l:List Operand}:Hq E f l=l.map fun x=>eval (CP E) x f:=by
 induction l with
 |nil=>rfl
 |cons x l ih=>show eval' E x f::Hq E f l=_;rw[ih];rfl
theorem Ap2{e:TypeId}(hg:Akx E e h k):Dk (CP E) k (Xv e (E.ty e) h):=by
 unfold Akx at hg
 split at hg
 · rename_i i hi
   rw[Rg] at hg
   refine Ia ?_ hg
   rw[hi];rfl
 · exact hg.elim
theorem Ahy{t:TypeId}{a:AV}(hg:Ab0 E t a h (fun v=>k v h)):(Xe.rec False (fun b off=>Option.rec False (fun i=>Ta (CP E) h k b off i) (E.ty t)) (Ss a):Prop):=by
 unfold Ab0 at hg
 split at hg
 · rename_i i hi
   split at hg
   · rename_i ha
     obtain⟨b,o,rfl,hg⟩:=Ma hg
     show(Option.rec False (fun i=>Ta (CP E) h k b o i) (E.ty t):Prop)
     rw[hi]
     show(Bool.rec _ (h.Im b o i.size False (fun l=>k (.agg l) h)) i.agg:Prop)
     rw[ha];exact hg
   · rename_i ha
     obtain⟨b,o,rfl,hg⟩:=Ma hg
     show(Option.rec False (fun i=>Ta (CP E) h k b o i) (E.ty t):Prop)
     rw[hi]
     show(Bool.rec (h.Hs b o False (fun v=>k v h)) _ i.agg:Prop)
     rw[ha];exact hg
 · exact hg.elim
theorem Aoo{t:TypeId}{a v:AV}(hg:Ajg E t a v h (fun h=>k .undef h)):(Xe.rec False (fun b off=>Option.rec False (fun i=>Cf v (fun v=>No (CP E) h k b off v i)) (E.ty t)) (Ss a):Prop):=by
 unfold Ajg at hg
 split at hg
 · rename_i i hi
   split at hg
   · obtain⟨b,o,rfl,hg⟩:=Ma hg
     obtain⟨cs,rfl,hg⟩:=Vj hg
     obtain⟨hc,hg⟩:=Fe hg
     show(Option.rec False (fun i=>Cf (.agg cs) (fun v=>No (CP E) h k b o v i)) (E.ty t):Prop)
     rw[hi]
     show Cf (.agg cs) (fun v=>No (CP E) h k b o v i)
     rw[Ch]
     show(Bool.rec False (h.Gr b o cs False (fun h=>k .undef h)) (An (Nat.beq (len cs) i.size) (Nat.ble 1 i.size)):Prop)
     rw[hc];exact hg
   · split at hg
     · rename_i hs
       obtain⟨b,o,rfl,hg⟩:=Ma hg
       obtain⟨h1,h2,hg⟩:=Amz hg
       show(Option.rec False (fun i=>Cf v (fun v=>No (CP E) h k b o v i)) (E.ty t):Prop)
       rw[hi]
       show Cf v (fun v=>No (CP E) h k b o v i)
       rw[Ch]
       show(Bool.rec False (h.Gr b o v.cells False (fun h=>k .undef h)) (An (Nat.beq (len v.cells) i.size) (Nat.ble 1 i.size)):Prop)
       rw[h2,Bl hs];exact hg
     · exact hg.elim
 · exact hg.elim
theorem Ayd{e:TypeId}{v:AV}(hg:A8j E e v h k):Cf v (fun v=>(Bool.rec False (h.Cz (rowOf e v.cells) (fun b h=>k (.ptr b 0) h)) (Nat.ble 1 (len v.cells)):Prop)):=by
 rw[Ch]
 unfold A8j at hg
 split at hg
 · split at hg
   · obtain⟨cs,rfl,hg⟩:=Vj hg
     exact hg
   · obtain⟨h1,h2,hg⟩:=Amz hg
     rw[h2];exact hg
 · exact hg.elim
theorem Aj9{t:TypeId}{x:AV}{i:Nat}(hg:Up E t x i (fun v=>k v h)):(Xe.rec False (fun b off=>Option.rec False (fun o=>k (.ptr b (Nat.add off o)) h) (Vv E t i)) (Ss x):Prop):=by
 unfold Up at hg
 split at hg
 · rename_i o ho
   obtain⟨b,q,rfl,hg⟩:=Ma hg
   show(Option.rec False (fun o=>k (.ptr b (Nat.add q o)) h) (Vv E t i):Prop)
   rw[ho];exact hg
 · exact hg.elim
theorem Apg{t:TypeId}{x:AV}{i:Nat}(hg:Zw E t x i (fun v=>k v h)):Dk (CP E) k (Rl E t x i h):=by
 unfold Zw at hg
 split at hg
 · rename_i p hp
   unfold Ann at hp
   split at hp<;>try cases hp
   rename_i ti hti
   split at hp<;>try cases hp
   rename_i fs hfs
   split at hp<;>try cases hp
   rename_i q hq
   split at hp<;>cases hp
   rename_i fi hfi
   have key:∀cs r,part E q.2 cs q.1=some r→Rl E t (.agg cs) i h=some (r,h):=fun cs r hr=>by
    show(Option.rec none (fun ti=>match ti.desc with
     |.struct fs=>Option.rec none (fun p=>Fi h (part E p.2 cs p.1)) (Mq fs.toList i)
     |_=>none) (E.ty t):Option (AV×H))=_
    rw[hti]
    simp only[hfs,hq]
    show Fi h (part E q.2 cs q.1)=_
    rw[hr];rfl
   split at hg
   · rename_i ha
     have ha:fi.agg=true:=ha
     obtain⟨cs,rfl,hg2⟩:=Vj hg
     refine Ia (key cs (.agg (Mh fi.size (Qg q.1 cs))) ?_) hg2
     show(Option.rec none (fun i=>Bool.rec (Ea cs q.1) (some (.agg (Mh i.size (Qg q.1 cs)))) i.agg) (E.ty q.2):Option AV)=_
     rw[hfi]
     show(Bool.rec (Ea cs q.1) (some (.agg (Mh fi.size (Qg q.1 cs)))) fi.agg:Option AV)=_
     rw[ha]
   · rename_i ha
     have ha:fi.agg=false:=ha
     obtain⟨cs,rfl,hg2⟩:=Vj hg
     obtain⟨v,hv,hg3⟩:=Nv hg2
     refine Ia (key cs v ?_) hg3
     show(Option.rec none (fun i=>Bool.rec (Ea cs q.1) (some (.agg (Mh i.size (Qg q.1 cs)))) i.agg) (E.ty q.2):Option AV)=_
     rw[hfi]
     show(Bool.rec (Ea cs q.1) (some (.agg (Mh fi.size (Qg q.1 cs)))) fi.agg:Option AV)=_
     rw[ha];exact hv
 · exact hg.elim
theorem Aj5{t:TypeId}{x i:AV}(hg:Lv E t x i h k):Dk (CP E) k (Ep E t x (Bt i) h):=by
 unfold Lv at hg
 split at hg
 · rename_i e he
   split at hg
   · rename_i ei hei
     obtain⟨m,hm,hg⟩:=Zk hg
     obtain⟨b,o,n,q,rfl,h1,hg⟩:=Aph hg
     refine Ia ?_ hg
     rw[hm]
     show Rk E t b o n ei.size m h=_
     unfold Rk Ao
     rw[he]
     show(Option.rec none (fun ti=>Bool.rec none _ _) (E.ty e):Option (AV×H))=_
     rw[hei]
     show(Bool.rec none (some (.ptr b (Nat.add o (Nat.mul m ei.size)),h)) (An (Nat.ble (Nat.add m 1) n) (Nat.beq ei.size ei.size)):Option (AV×H))=_
     rw[h1,Nat.beq_refl];rfl
   · exact hg.elim
 · exact hg
theorem Apb{t:TypeId}{x i:AV}(hg:Qa E t x i h k):Dk (CP E) k (Ly E t x (Bt i) h):=by
 unfold Qa at hg
 split at hg
 · rename_i ti hti
   split at hg
   · rename_i hs
     obtain⟨l,c,rfl,hg⟩:=Kx hg
     obtain⟨m,hm,hg⟩:=Zk hg
     obtain⟨hc,hg⟩:=Xq hg
     refine Ia ?_ hg
     rw[hm]
     show(Option.rec none (fun ti=>Bool.rec none (Bool.rec none (some (.int .u8 (.ofNat (Fk c m)),h)) (Nat.ble (Nat.add m 1) l)) (isStr ti.desc)) (E.ty t):Option (AV×H))=_
     rw[hti]
     show(Bool.rec none (Bool.rec none (some (.int .u8 (.ofNat (Fk c m)),h)) (Nat.ble (Nat.add m 1) l)) (isStr ti.desc):Option (AV×H))=_
     rw[hs,hc]
   · exact hg
 · exact hg.elim
theorem A5r{i:Nat}{x:AV}(hg:ext i x (fun v=>k v h)):Dk (CP E) k (Mw x i h):=by
 obtain⟨cs,rfl,hg⟩:=Aog hg
 obtain⟨v,hv,hg⟩:=Nv hg
 refine Ia ?_ hg
 show Fi h (Ea cs i)=_
 rw[hv];rfl
theorem Axd{ats:List TypeId}{x:AV}(hg:Ao9 E ats x h k):Dk (CP E) k (Vg E ats x h):=by
 unfold Ao9 at hg
 split at hg
 · rename_i t ht
   split at hg
   · rename_i ti hti
     have e:Vg E ats x h=Asj E ti.desc x h:=by
      unfold Vg;rw[ht]
      show(Option.rec none (fun ti=>Asj E ti.desc x h) (E.ty t):Option (AV×H))=_
      rw[hti]
     unfold Ah0 at hg
     split at hg
     · rename_i hd
       obtain⟨l,c,rfl,hg2⟩:=Kx hg
       exact Ia (e.trans (by rw[hd];rfl)) hg2
     · rename_i hd
       rcases Asi hg with⟨rfl,hg2⟩|⟨b,o,n,z,q,rfl,hg2⟩
       · exact Ia (e.trans (by rw[hd];rfl)) hg2
       · exact Ia (e.trans (by rw[hd];rfl)) hg2
     · exact hg
   · exact hg.elim
 · exact hg.elim
theorem Ait{b:Builtin}{ats:List TypeId}{args:List AV}(hg:Ka E b ats args h k):Dk (CP E) k (Cb E b ats args h):=by
 unfold Ka at hg
 split at hg
 · split at hg
   · exact Axd hg
   · exact hg.elim
 · exact hg
theorem At5{s d:TypeId}{x:AV}(hg:Ux E s d x h k):Dk (CP E) k (Fs E h s d x):=by
 unfold Ux at hg
 split at hg
 · rename_i ti hti
   unfold Aae at hg
   split at hg
   · rename_i kd hd
     split at hg
     · obtain⟨j,n,rfl,hg2⟩:=Vi hg
       rw[Ak] at hg2
       refine Ia ?_ hg2
       unfold Fs;rw[hti]
       show Anv E h s ti.desc (.int j n)=_
       rw[hd];rfl
     · exact hg
   · exact hg
 · exact hg.elim
theorem Aiu{o:Option AV}{d:Nat}{K:Nat→Prop}(hg:Apt o d K):∃n,bound d (o.map Bt)=some n∧K n:=by
 cases o with
 |none=>exact⟨d,rfl,hg⟩
 |some v=>obtain⟨m,hm,hg⟩:=Zk hg;exact⟨m,hm,hg⟩
theorem Vx{o:Option Operand}:Qc (CP E) f o=(o.map fun x=>eval' E x f).map Bt:=by cases o<;>rfl
theorem Aos{t:TypeId}{x:AV}{lo hi mx:Option AV}(hg:Mb E t x lo hi mx h k):
 Dk (CP E) k (Option.rec none (fun m=>Fi h (Kg E h t x (lo.map Bt) (hi.map Bt) m)) (Px (mx.map Bt))):=by
 unfold Mb at hg
 split at hg
 · rename_i ti hti
   split at hg
   · rename_i hs
     split at hg
     · obtain⟨l,c,rfl,hg⟩:=Kx hg
       obtain⟨n,hn,hg⟩:=Aiu hg
       obtain⟨m,hm,hg⟩:=Aiu hg
       obtain⟨hc,hg⟩:=Xq hg
       refine Ia ?_ hg
       show Fi h (Kg E h t (.str l c) (lo.map Bt) (hi.map Bt) none)=_
       have hd:ti.desc=.string:=by
        cases hdd:ti.desc<;>rw[hdd] at hs<;>first|rfl|cases hs
       unfold Kg
       rw[hti]
       show Fi h (Yn E h ti.desc (.str l c) (lo.map Bt) (hi.map Bt) none)=_
       rw[hd]
       show Fi h (Ic l (lo.map Bt) (hi.map Bt) (fun lo h=>Akd c l lo h))=_
       unfold Ic
       rw[hn]
       show Fi h (Option.rec none (fun lo=>Akd c l lo n) (bound 0 (lo.map Bt)))=_
       rw[hm]
       show Fi h (Bool.rec none (some (.str (Nat.sub n m) (Vm c m n))) (An (Nat.ble m n) (Nat.ble n l)))=_
       rw[hc];rfl
     · exact hg.elim
   · exact hg
 · exact hg.elim
theorem Ahn{t:TypeId}{x:AV}(hg:Zm E t x h k):Dk (CP E) k (Mr E t x h):=by
 unfold Zm at hg
 split at hg
 · rename_i ti hti
   split at hg
   · exact hg.elim
   · rename_i hi
     refine Ia ?_ hg
     unfold Mr;rw[hti]
     show(Bool.rec (some (.iface t x,h)) none (isIface ti.desc):Option (AV×H))=_
     rw[hi]
 · exact hg.elim
theorem Zx{o:Op}(hg:Dn E o call f h k):exec o (CP E) call f h k:=by
 cases o
 case move x=>show Cf (eval (CP E) x f) (fun v=>k v h);rw[Ch];exact hg
 case assign x=>show Cf (eval (CP E) x f) (fun v=>k v h);rw[Ch];exact hg
 case alloc e=>exact Ap2 hg
 case box e x=>exact Ayd hg
 case load t a=>exact Ahy hg
 case store t a x=>exact Aoo hg
 case binOp op t x y q=>
  obtain⟨v,hv,hg⟩:=Au0 (show Apw E op t x y (eval' E x f) (eval' E y f) (fun v=>k v h) from hg)
  show(Option.rec False (fun v=>k v h) (Aix E op t x y (eval (CP E) x f) (eval (CP E) y f)):Prop)
  have hv:Aix E op t x y (eval (CP E) x f) (eval (CP E) y f)=some v:=hv
  rw[hv];exact hg
 case unOp op t x=>
  obtain⟨v,hv,hg⟩:=Awe (show un2 op (eval' E x f) (fun v=>k v h) from hg)
  show(Option.rec False (fun v=>k v h) (unA op (eval (CP E) x f)):Prop)
  have hv:unA op (eval (CP E) x f)=some v:=hv
  rw[hv];exact hg
 case convert s d x=>exact At5 hg
 case makeInterface t x=>exact Ahn hg
 case slice t x lo hi mx=>
  have:=Aos (show Mb E t (eval' E x f) (lo.map (fun x=>eval' E x f)) (hi.map (fun x=>eval' E x f)) (mx.map (fun x=>eval' E x f)) h k from hg)
  show Dk (CP E) k (Option.rec none (fun m=>Fi h (Kg E h t (eval (CP E) x f) (Qc (CP E) f lo) (Qc (CP E) f hi) m)) (Px (Qc (CP E) f mx)))
  rw[Vx,Vx,Vx];exact this
 case fieldAddr t x i=>exact Aj9 hg
 case field t x i=>exact Apg hg
 case indexAddr t x i=>exact Aj5 hg
 case index t x i=>exact Apb hg
 case extract x i=>exact A5r hg
 case makeFunc fn a b=>
  have hg:k (.func fn (Hq E f a.toList) (Hq E f b.toList)) h:=hg
  refine Eq.mpr (Gg (C:=CP E) (f:=f) a.toList _) ?_
  refine Eq.mpr (Gg (C:=CP E) (f:=f) b.toList _) ?_
  show k (.func fn (a.toList.map fun x=>eval (CP E) x f) (b.toList.map fun x=>eval (CP E) x f)) h
  rw[show(a.toList.map fun x=>eval (CP E) x f)=Hq E f a.toList from Qe.symm,show(b.toList.map fun x=>eval (CP E) x f)=Hq E f b.toList from Qe.symm];exact hg
 case call c=>
  obtain⟨callee,args,ats⟩:=c
  cases callee with
  |invoke v name=>
   have hg:Acg (CP E) call (eval (CP E) v f) name (Hq E f args.toList) h k:=hg
   show Ih (CP E) f args.toList (fun l=>Acg (CP E) call (eval (CP E) v f) name l h k)
   refine Eq.mpr (Gg (C:=CP E) (f:=f) args.toList _) ?_
   show Acg (CP E) call (eval (CP E) v f) name (args.toList.map fun x=>eval (CP E) x f) h k
   rw[show(args.toList.map fun x=>eval (CP E) x f)=Hq E f args.toList from Qe.symm];exact hg
  |builtin b=>
   have hg:Ka E b ats.toList (Hq E f args.toList) h k:=hg
   have:=Ait hg
   show Ih (CP E) f args.toList (fun l=>Dk (CP E) k (Cb E b ats.toList l h))
   refine Eq.mpr (Gg (C:=CP E) (f:=f) args.toList _) ?_
   show oK (Cb E b ats.toList (args.toList.map fun x=>eval (CP E) x f) h) k
   rw[show(args.toList.map fun x=>eval (CP E) x f)=Hq E f args.toList from Qe.symm];exact this
  |value v=>
   have hg:Acf (CP E) call (eval (CP E) v f) (Hq E f args.toList) h k:=hg
   show Ih (CP E) f args.toList (fun l=>Acf (CP E) call (eval (CP E) v f) l h k)
   refine Eq.mpr (Gg (C:=CP E) (f:=f) args.toList _) ?_
   show Acf (CP E) call (eval (CP E) v f) (args.toList.map fun x=>eval (CP E) x f) h k
   rw[show(args.toList.map fun x=>eval (CP E) x f)=Hq E f args.toList from Qe.symm];exact hg
 all_goals exact hg
end
end Go.Den
namespace Go.Den
open Go.RowKit
theorem Au8{o:Ob FT}{K:P→Nat→List Nat→Nat→Prop}(h:Bfs o K):∃m a b c,o=.Pa m a b c∧K m a b c:=by
 cases o<;>first|exact(Ee h).elim|exact⟨_,_,_,_,rfl,h⟩
theorem Acd{K:Ent→Prop}:∀{l:List Ent},Anw K l→∀e∈l,K e
 |[],_,e,he=>by cases he
 |[a],h,e,he=>by rw[List.mem_singleton.1 he];exact h
 |a::b::l,h,e,he=>by
  obtain⟨h1,h2⟩:=(show And (K a) (Anw K (b::l)) from h)
  rcases List.mem_cons.1 he with rfl|he
  · exact h1
  · exact Acd h2 e he
theorem Axa(n:Nat):∀l:List Nat,Ahp n l=l.toArray.contains n:=by
 intro l
 have key:Ahp n l=true↔n∈l:=by
  induction l with
  |nil=>simp[Ahp]
  |cons x l ih=>
   have h:Ahp n (x::l)=(Bool.rec (Ahp n l) true (Nat.beq x n):Bool):=rfl
   rw[h,Fy]
   by_cases e:x=n
   · rw[decide_eq_true e];simp[e]
   · rw[decide_eq_false e]
     show Ahp n l=true↔_
     rw[ih];simp[Ne.symm e]
 rw[Bool.eq_iff_iff,key]
 simp
theorem Ae6{μ:Mu}(seen:List Nat):∀{es:List Ent}{xs:List MapEntry},EsR μ es xs→EsR μ (leftOf seen es) (xs.filter fun e=>!seen.toArray.contains e.born)
 |[],_,h=>by cases(show _=[] from h);exact(rfl:([]:List MapEntry)=[])
 |a::es,_,⟨x,xs,e,h1,h2,h3,h4⟩=>by
  subst e
  have h:leftOf seen (a::es)=(Bool.rec (a::leftOf seen es) (leftOf seen es) (Ahp a.2.2 seen):List Ent):=rfl
  rw[h,Axa,h3,List.filter_cons]
  cases seen.toArray.contains x.born with
  |true=>exact Ae6 seen h4
  |false=>exact⟨x,_,rfl,h1,h2,h3,Ae6 seen h4⟩
theorem Acm{μ:Mu}{since:Nat}:∀{es:List Ent}{xs:List MapEntry},EsR μ es xs→Aky since es=true→∀x∈xs,x.born<since
 |[],_,h,_,x,hx=>by cases(show _=[] from h);cases hx
 |a::es,_,⟨y,xs,e,h1,h2,h3,h4⟩,ha,x,hx=>by
  subst e
  have ha:(Bool.rec false (Aky since es) (Nat.ble (Nat.add a.2.2 1) since):Bool)=true:=ha
  cases hb:Nat.ble (Nat.add a.2.2 1) since with
  |false=>rw[hb] at ha;cases ha
  |true=>
   rw[hb] at ha
   rcases List.mem_cons.1 hx with rfl|hx
   · have:a.2.2+1≤since:=Br hb
     rw[h3] at this;exact this
   · exact Acm h4 ha x hx
theorem Acl{μ:Mu}{n:Nat}:∀{es:List Ent}{xs:List MapEntry},EsR μ es xs→Af8 n es=true→∃x∈xs,x.born<n
 |[],_,_,h=>by cases h
 |a::es,_,⟨y,xs,e,h1,h2,h3,h4⟩,ha=>by
  subst e
  have ha:(Bool.rec (Af8 n es) true (Nat.ble (Nat.add a.2.2 1) n):Bool)=true:=ha
  cases hb:Nat.ble (Nat.add a.2.2 1) n with
  |true=>
   have:a.2.2+1≤n:=Br hb
   rw[h3] at this
   exact⟨y,by simp,this⟩
  |false=>
   rw[hb] at ha
   obtain⟨x,hx,hl⟩:=Acl h4 ha
   exact⟨x,by simp[hx],hl⟩
theorem EsR.mem{μ:Mu}:∀{es:List Ent}{xs:List MapEntry},EsR μ es xs→∀x∈xs,∃e∈es,VR μ e.1 x.key∧VR μ e.2.1 x.val∧e.2.2=x.born
 |[],_,h,x,hx=>by cases(show _=[] from h);cases hx
 |a::es,_,⟨y,xs,e,h1,h2,h3,h4⟩,x,hx=>by
  subst e
  rcases List.mem_cons.1 hx with rfl|hx
  · exact⟨a,by simp,h1,h2,h3⟩
  · obtain⟨e,he,hh⟩:=EsR.mem h4 x hx
    exact⟨e,by simp[he],hh⟩
theorem Abn{P:Program}{w:World}(n:Nat)(hn:0<n):∃i w',(choose (.mapNext n)).run P w=.ok i w'∧i<n∧w'.heap=w.heap∧w'.os=w.os∧w'.tape=w.tape∧w'.output=w.output:=by
 rw[run_choose]
 by_cases h:n≤1
 · exact⟨0,w,by rw[if_pos (by simpa[Question.forced] using h)],hn,rfl,rfl,rfl,rfl⟩
 · exact⟨(Question.mapNext n).cut (w.tape w.drawn (.mapNext n)),{ w with drawn:=w.drawn+1 },by rw[if_neg (by simpa[Question.forced] using h)],Nat.mod_lt _ hn,rfl,rfl,rfl,rfl⟩
theorem Ar5{P:Program}{μ:Mu}{h:H}{w:World}(s:Sim μ h w){it:AV}{k:KV}(hg:Ar6 it h k){vx:Value}{ty:TypeId}(hx:VR μ it vx):
 ∃v w' μ' av h',(Instr.next vx false ty).run P w=.ok v w'∧Sim μ' h' w'∧Cw μ h w μ' h' w'∧VR μ' av v∧k av h':=by
 obtain⟨b,o,rfl,hg⟩:=Ma hg
 obtain⟨ho,hg⟩:=Fe hg
 obtain rfl:=Bl ho
 obtain⟨m,since,seen,stepped,hat,hg⟩:=Au8 hg
 obtain⟨p,hp,hg⟩:=Nv hg
 obtain⟨hc,hg⟩:=Fe hg
 obtain⟨hold,hstep⟩:=Ag hc
 obtain⟨l,hl,rfl⟩:=hx
 have hob:=s.ob b l (by rw[hat];simp) hl
 rw[hat] at hob
 obtain⟨lm,hlm,hblk,hoff⟩:=hob
 have hatm:h.at m=.map p.1 p.2:=Lh hp
 have hobm:=s.ob m lm (by rw[hatm];simp) hlm
 rw[hatm] at hobm
 obtain⟨xs,hblkm,hes⟩:=hobm
 have hleft:=Ae6 seen hes
 have hall:=Acm hleft hold
 have hg:(List.rec (k (.tuple [.bool false]) h) (fun e r _=>Anw (fun e=>h.Sa b (.Pa m since (Kl seen [e.2.2]) p.2) (fun h=>k (.tuple [.bool true,e.1,e.2.1]) h)) (e::r)) (leftOf seen p.1):Prop):=hg
 have hL:(xs.filter fun e=>!seen.toArray.contains e.born).toList=xs.toList.filter fun e=>!seen.toArray.contains e.born:=by simp
 generalize hLd:(xs.filter fun e=>!seen.toArray.contains e.born)=L at hL
 have hLold:L.filter (fun e=>decide (e.born<since))=L:=by
  rw[Array.filter_eq_self]
  intro x hx
  exact decide_eq_true (hall x (by rw[←hL];exact hx.val))
 have hLnew:L.filter (fun e=>decide (e.born≥since))=#[]:=by
  rw[Array.filter_eq_empty_iff]
  intro x hx hd
  have:=hall x (by rw[←hL];exact hx.val)
  have:=of_decide_eq_true hd
  omega
 have hcond:((!seen.toArray.isEmpty&&!xs.isEmpty&&xs.all (fun e=>decide (e.born≥stepped)))=true)→False:=by
  intro hb
  simp only[Bool.and_eq_true] at hb
  obtain⟨⟨h1,h2⟩,h3⟩:=hb
  cases hs:Zr seen with
  |true=>
   cases seen with
   |nil=>simp at h1
   |cons=>cases hs
  |false=>
   rw[hs] at hstep
   have hstep:(Bool.rec (Af8 stepped p.1) true (Zr p.1):Bool)=true:=hstep
   cases he:Zr p.1 with
   |true=>
    cases hpe:p.1 with
    |nil=>
     rw[hpe] at hes
     have hes:xs.toList=[]:=hes
     rw[Array.toList_eq_nil_iff.1 hes] at h2
     simp at h2
    |cons=>rw[hpe] at he;cases he
   |false=>
    rw[he] at hstep
    obtain⟨x,hx,hlt⟩:=Acl hes hstep
    have h3:=(Array.all_eq_true_iff_forall_mem.1 h3) x (Array.mem_def.2 hx)
    have:=of_decide_eq_true h3
    omega
 have hrun0:(Instr.next (.pointer (some ⟨l.blk,l.off+0,none⟩)) false ty).run P w=(do
  match(((if L.isEmpty then #[none] else #[])++(L++#[]).map some:Array (Option MapEntry)))[←choose (.mapNext ((if L.isEmpty then #[none] else #[])++(L++#[]).map some:Array (Option MapEntry)).size)]? with
  |some (some e)=>
   setObj l.blk (.mapIter (some lm.blk) since (seen.toArray.push e.born) p.2)
   pure (.tuple #[.bool true,e.key,e.val])
  |some none=>pure (.tuple #[.bool false])
  | none => stuck "Next: no such candidate" : Sem Value).run P w := by
  unfold Instr.next
  simp only[hoff,Nat.zero_add]
  rw[Aa (Ef hblk (by intros;simp))]
  simp only
  rw[Aa (Ef hblkm (by intros;simp))]
  simp only
  rw[if_neg (fun hh=>hcond hh),hLd,hLold,hLnew]
  rfl
 rw[hrun0]
 rw[←hL] at hleft
 cases hle:leftOf seen p.1 with
 |nil=>
  rw[hle] at hg hleft
  have hnil:L=#[]:=Array.toList_eq_nil_iff.1 hleft
  obtain⟨i,w',hr,hi,h1,h2,h3,h4⟩:=Abn (P:=P) (w:=w) 1 (by omega)
  have hi0:i=0:=by omega
  subst hi0
  refine⟨.tuple #[.bool false],w',μ,.tuple [.bool false],h,?_,s.heap h1,Cw.heap μ h h1 h2 h3 h4,⟨_,rfl,_,_,rfl,rfl,rfl⟩,hg⟩
  have hcand:((if L.isEmpty then #[none] else #[])++(L++#[]).map some:Array (Option MapEntry))=#[none]:=by rw[hnil];simp
  rw[hcand,show(#[none]:Array (Option MapEntry)).size=1 from rfl]
  rw[Aa hr]
  rfl
 |cons e0 r=>
  rw[hle] at hg hleft
  have hpos:0<L.size:=by
   obtain⟨x,xs',e,_⟩:=hleft
   have:L.toList.length=(x::xs').length:=by rw[e]
   simp at this;omega
  have hne:L.isEmpty=false:=by simp;intro e;rw[e] at hpos;simp at hpos
  have hcand:((if L.isEmpty then #[none] else #[])++(L++#[]).map some:Array (Option MapEntry))=L.map some:=by
   rw[hne];simp
  rw[hcand]
  obtain⟨i,w',hr,hi,h1,h2,h3,h4⟩:=Abn (P:=P) (w:=w) (L.map some).size (by simpa using hpos)
  have hi':i<L.size:=by simpa using hi
  obtain⟨e,he,hk1,hk2,hk3⟩:=hleft.mem L[i] (by simp)
  have hke:=Acd hg e he
  have s1:=s.heap h1
  have hblk':w'.heap[l.blk]? =some (.mapIter (some lm.blk) since seen.toArray stepped):=by rw[h1];exact hblk
  obtain⟨w2,hw2,s2,x2⟩:=s1.putObj (Pr:=P) (b:=b) (by rw[hat];rfl) hl hblk' (by intros;simp) (.mapIter (some lm.blk) since (seen.toArray.push L[i].born) p.2) (.Pa m since (Kl seen [e.2.2]) p.2) fun w' hw'=>⟨lm,hlm,by rw[hw',Ot,hk3];simp,hoff⟩
  rw[Nt] at hke
  refine⟨.tuple #[.bool true,L[i].key,L[i].val],w2,μ,.tuple [.bool true,e.1,e.2.1],_,?_,s2,(Cw.heap μ h h1 h2 h3 h4).trans x2,⟨_,rfl,_,_,rfl,rfl,_,_,rfl,hk1,_,_,rfl,hk2,rfl⟩,hke⟩
  rw[Aa hr]
  have hget:(L.map some)[i]? =some (some L[i]):=by simp[hi']
  rw[hget]
  simp only
  rw[Aa hw2]
  rfl
theorem Anl:Blo Bc9 where
 init l t:=by
  show(Option.rec AV.undef (fun v=>v) (Ea l t):AV)=_
  rw[Ed,List.getD_eq_getElem?_getD]
  cases l[t]?<;>rfl
 set f t v u:=by
  show(Bool.rec (f u) v (Nat.beq u t):AV)=_
  rw[Fy]
  by_cases e:u=t
  · rw[if_pos e,decide_eq_true e]
  · rw[if_neg e,decide_eq_false e];rfl
 force f k:=rfl
theorem Hh(f:FT)(d:Nat)(v:AV)(u:Nat):Ah f d v u=if u=d then v else f u:=Anl.set f d v u
theorem Wq(f:FT):∀(l:List Nat)(t:Nat),Oh l f t=.top∨Oh l f t=f t
 |[],_=>.inl rfl
 |u::l,t=>by
  show Ah (Oh l f) u (f u) t=.top∨Ah (Oh l f) u (f u) t=f t
  rw[Hh]
  by_cases e:t=u
  · rw[if_pos e,e];exact .inr rfl
  · rw[if_neg e];exact Wq f l t
section
variable{P:Program}{D:List Deferred}
structure FR(μ:Mu)(N:Nat)(D:List Deferred)(f:FT)(a:Act):Prop where
 size:N≤a.tmps.size
 get:∀t,VR μ (f t) (a.tmps.getD t undef)
 defs:a.defers=D
theorem FR.mono{μ μ':Mu}(h:Mu.le μ μ'){N:Nat}{f:FT}{a:Act}(r:FR μ N D f a):FR μ' N D f a:=⟨r.size,fun t=>VR.mono h _ _ (r.get t),r.defs⟩
theorem Ah9(ts:Array Value)(d t:Nat)(v:Value)(h:d<ts.size):(ts.setIfInBounds d v).getD t undef=if t=d then v else ts.getD t undef:=by
 simp only[Array.getD_eq_getD_getElem?,Array.getElem?_setIfInBounds]
 by_cases e:d=t
 · subst e;simp[h]
 · rw[if_neg e,if_neg (fun h=>e h.symm)]
def Oy(N:Nat)(d:Option Tmp):Bool:=match d with
 |none=>true
 |some d=>Nat.blt d N
theorem FR.put{μ:Mu}{N:Nat}{f:FT}{a:Act}(r:FR μ N D f a){d:Option Tmp}(hd:Oy N d=true){av:AV}{v:Value}(hv:VR μ av v):FR μ N D (Di f d av) (a.put d v):=by
 cases d with
 |none=>exact r
 |some d=>
  have hd:d<N:=by simpa[Oy] using hd
  refine⟨by simpa[Act.put] using r.size,fun t=>?_,r.defs⟩
  show VR μ (Ah f d av t) ((a.tmps.setIfInBounds d v).getD t undef)
  rw[Hh,Ah9 _ _ _ _ (Nat.lt_of_lt_of_le hd r.size)]
  by_cases e:t=d
  · rw[if_pos e,if_pos e];exact hv
  · rw[if_neg e,if_neg e];exact r.get t
theorem FR.eval{E:Env}{μ:Mu}{N G:Nat}{f:FT}{a:Act}(r:FR μ N D f a)(gl:Gy μ G){o:Operand}(ho:Ey G o=true):VR μ (eval' E o f) (a.eval o):=
 Xw (C:=CP E) gl ho fun t _=>r.get t
def Ht(P:Program)(E:Env)(N G:Nat)(o:Oper):Bool:=Oy N o.dst&&Ze P E G o.op
def yb(o:Option Value):Option Bool:=match o with
 |some (.bool b)=>some b
 |_=>none
theorem Jm(ops:Array Oper)(ts:Array Value)(j:Nat):yielded ops ts j=yb (((ops[j]?).bind (·.dst)).bind (ts[·]?)):=rfl
def Live(ops:Array Oper)(gs:List (Nat×Bool×Tmp))(a:Act):Prop:=∀g∈gs,((ops[g.1]?).bind (·.dst))=some g.2.2∧yb (a.tmps[g.2.2]?)=some g.2.1
def Sn(d:Option Tmp)(gs:List (Nat×Bool×Tmp)):Bool:=match d with
 |none=>true
 |some d=>gs.all fun g=>!Nat.beq g.2.2 d
theorem Act.Tz(a:Act)(d:Option Tmp)(v:Value):(a.put d v).tmps.size=a.tmps.size:=by cases d<;>simp[Act.put]
theorem Jo{a:Act}{d:Option Tmp}{v:Value}{t:Nat}(h:d≠some t):(a.put d v).tmps[t]? =a.tmps[t]? :=by
 cases d with
 |none=>rfl
 |some d=>
  have:d≠t:=fun e=>h (by rw[e])
  simp[Act.put,Array.getElem?_setIfInBounds_ne this]
theorem Pw{d:Option Tmp}{gs:List (Nat×Bool×Tmp)}(h:Sn d gs=true):∀g∈gs,d≠some g.2.2:=by
 intro g hg e
 subst e
 have:=List.all_eq_true.1 (show gs.all (fun g'=>!Nat.beq g'.2.2 g.2.2)=true from h) g hg
 simp at this
theorem Live.put{ops:Array Oper}{gs:List (Nat×Bool×Tmp)}{a:Act}(l:Live ops gs a){d:Option Tmp}(h:Sn d gs=true)(v:Value):Live ops gs (a.put d v):=fun g hg=>
 ⟨(l g hg).1,by rw[Jo (Pw h g hg)];exact(l g hg).2⟩
theorem Lc{a b:Option (Nat×Bool)}(h:Fl a b=true):a=b:=by
 have key:∀v w,Fl.Aod v w=true→v=w:=by intro v w;cases v<;>cases w<;>simp[Fl.Aod]
 cases a with
 |none=>cases b with
  |none=>rfl
  |some=>cases h
 |some p=>cases b with
  |none=>cases h
  |some q=>
   obtain⟨i,v⟩:=p;obtain⟨j,w⟩:=q
   have h:(Nat.beq i j&&Fl.Aod v w)=true:=h
   rw[Bool.and_eq_true] at h
   rw[Nat.eq_of_beq_eq_true h.1,key _ _ h.2]
def Ah4(o:Operand):Bool:=match o with
 |.const _=>true
 |_=>false
def Ayo(c:Operand)(gd:Tmp):Bool:=match c with
 |.tmp t=>Nat.beq t gd
 |_=>false
def Pu(G:Nat)(gd:Tmp)(w:Bool)(o:Op):Bool:=match o with
 |.pick c x y=>Ayo c gd&&Ey G x&&Ey G y&&Ah4 (Ds w y x)
 |_=>false
def Ata(t:Tmp)(l:List (Option Tmp)):Bool:=l.any fun d=>match d with
 |some d=>Nat.beq d t
 |none=>false
def Lt(P:Program)(E:Env)(N G:Nat)(ops:List Oper)(its:Its):Option (Nat×Bool)→List (Nat×Bool×Tmp)→List (Option Tmp)→Bool:=Its.rec (motive:=fun _=>Option (Nat×Bool)→List (Nat×Bool×Tmp)→List (Option Tmp)→Bool)
 (fun _ _ _=>true)
 (fun o _ ih g gs prev=>and (and (Ht P E N G o) (and (Fl o.guard g) (Sn o.dst gs))) (ih g gs (o.dst::prev)))
 (fun j gd w _ pk _ ihb ihr g gs prev=>and (and (and (Oy N pk.dst) (and (Fl pk.guard g) (Sn pk.dst gs))) (and (Pu G gd w pk.op) (and (Ata gd prev) (Option.rec false (fun o=>Option.rec false (fun d=>Nat.beq d gd) o.dst) (Ea ops j)))))
  (and (ihb (some (j,w)) ((j,w,gd)::gs) []) (ihr g gs (pk.dst::prev)))) its
def Dz(l:List Oper)(a:Act):Act:=l.foldl (fun a o=>a.put o.dst undef) a
theorem Jw(o:Oper)(l:List Oper)(a:Act):Dz (o::l) a=Dz l (a.put o.dst undef):=rfl
theorem Aaz(l m:List Oper)(a:Act):Dz (l++m) a=Dz m (Dz l a):=List.foldl_append ..
theorem Pt(l:List Oper):∀a:Act,(Dz l a).tmps.size=a.tmps.size:=by
 induction l with
 |nil=>intro a;rfl
 |cons o l ih=>intro a;rw[Jw,ih,Act.Tz]
theorem Aay(l:List Oper):∀a:Act,(Dz l a).defers=a.defers:=by
 induction l with
 |nil=>intro a;rfl
 |cons o l ih=>intro a;rw[Jw,ih];cases o.dst<;>rfl
theorem Abr{l:List Oper}{t:Nat}:∀{a:Act},(∀o∈l,o.dst≠some t)→(Dz l a).tmps[t]? =a.tmps[t]? :=by
 induction l with
 |nil=>intro a _;rfl
 |cons o l ih=>intro a h;rw[Jw,ih (fun x hx=>h x (by simp[hx])),Jo (h o (by simp))]
theorem Vq{a:Act}{d:Option Tmp}{t:Nat}(h:a.tmps[t]? =some undef):(a.put d undef).tmps[t]? =some undef:=by
 cases d with
 |none=>exact h
 |some d=>
  by_cases e:d=t
  · subst e
    have:d<a.tmps.size:=(Array.getElem?_eq_some_iff.1 h).1
    simp[Act.put,this]
  · rw[Jo (by simpa using e)];exact h
theorem Aez{l:List Oper}{t:Nat}:∀{a:Act},a.tmps[t]? =some undef→(Dz l a).tmps[t]? =some undef:=by
 induction l with
 |nil=>intro a h;exact h
 |cons o l ih=>intro a h;rw[Jw];exact ih (Vq h)
theorem Ahc{a:Act}{d:Tmp}{v:Value}(h:d<a.tmps.size):(a.put (some d) v).tmps[d]? =some v:=by simp[Act.put,h]
variable{E:Env}{N G:Nat}{ops:Array Oper}{Q:Exit→Act→World→Prop}
theorem Ld:∀{its:Its}{g:Option (Nat×Bool)}{gs:List (Nat×Bool×Tmp)}{prev:List (Option Tmp)},Lt P E N G ops.toList its g gs prev=true→∀o∈its.flat,Oy N o.dst=true∧∀x∈gs,o.dst≠some x.2.2
 |.nil,_,_,_,_,o,ho=>by simp[Its.flat] at ho
 |.op o r,g,gs,prev,h,x,hx=>by
  have h:(((Ht P E N G o)&&(Fl o.guard g&&Sn o.dst gs))&&Lt P E N G ops.toList r g gs (o.dst::prev))=true:=h
  simp only[Bool.and_eq_true] at h
  rcases List.mem_cons.1 (show x∈o::r.flat from hx) with rfl|hx
  · refine⟨?_,Pw h.1.2.2⟩
    have:=h.1.1
    simp only[Ht,Bool.and_eq_true] at this
    exact this.1
  · exact Ld h.2 x hx
 |.grp j gd w b pk r,g,gs,prev,h,x,hx=>by
  have h:(((Oy N pk.dst)&&(Fl pk.guard g&&Sn pk.dst gs))&&(Pu G gd w pk.op&&(Ata gd prev&&_))&&(Lt P E N G ops.toList b (some (j,w)) ((j,w,gd)::gs) []&&Lt P E N G ops.toList r g gs (pk.dst::prev)))=true:=h
  simp only[Bool.and_eq_true] at h
  rcases List.mem_append.1 (show x∈b.flat++pk::r.flat from hx) with hx|hx
  · have:=Ld h.2.1 x hx
    exact⟨this.1,fun y hy=>this.2 y (by simp[hy])⟩
  · rcases List.mem_cons.1 hx with rfl|hx
    · exact⟨h.1.1.1,Pw h.1.1.2.2⟩
    · exact Ld h.2.2 x hx
theorem As9{t:Tmp}{l:List (Option Tmp)}(h:Ata t l=true):some t∈l:=by
 obtain⟨d,hd,h⟩:=List.any_eq_true.1 h
 cases d with
 |none=>cases h
 |some d=>rw[Nat.eq_of_beq_eq_true h] at hd;exact hd
theorem Xy {ro : Option Nat} : ∀ {its : Its} {j : Nat} {w : Bool} {gd : Tmp} {gs : List (Nat × Bool × Tmp)} {prev : List (Option Tmp)} {rest : List Oper} {a : Act} {wd : World}, Lt P E N G ops.toList its (some (j, w)) ((j, w, gd) :: gs) prev = true → N ≤ a.tmps.size →
    ((ops[j]?).bind (·.dst)) = some gd → yb (a.tmps[gd]?) ≠ some w → (∀ t, some t ∈ prev → a.tmps[t]? = some undef) → wpListIn (Fo ro) 0 P ops Q rest (Dz its.flat a) wd → wpListIn (Fo ro) 0 P ops Q (its.flat ++ rest) a wd
  | .nil, _, _, _, _, _, _, _, _, _, _, _, _, _, hr => hr
  | .op o r, j, w, gd, gs, prev, rest, a, wd, h, hN, hj, hy, hp, hr => by
    have h : (((Ht P E N G o) && (Fl o.guard (some (j, w)) && Sn o.dst ((j, w, gd) :: gs))) && Lt P E N G ops.toList r (some (j, w)) ((j, w, gd) :: gs) (o.dst :: prev)) = true := h
    simp only [Bool.and_eq_true] at h
    have hwant : Region.wanted o (yielded ops a.tmps) = false := by
      unfold Region.wanted
      rw [Lc h.1.2.1]
      show (yielded ops a.tmps j == some w) = false
      rw [Jm, hj]
      simpa using hy
    show wpListIn (Fo ro) 0 P ops Q (o :: (r.flat ++ rest)) a wd
    unfold wpListIn
    rw [hwant, if_neg (by simp)]
    refine ⟨fun _ _ => trivial, ?_⟩
    have hne := Pw h.1.2.2 (j, w, gd) (by simp)
    refine Xy h.2 (by rw [Act.Tz]; exact hN) hj (by rw [Jo hne]; exact hy) ?_ hr
    intro t ht
    rcases List.mem_cons.1 ht with e | ht
    · rw [← e]
      refine Ahc (Nat.lt_of_lt_of_le ?_ hN)
      have := h.1.1
      simp only [Ht, Bool.and_eq_true] at this
      rw [← e] at this
      simpa [Oy] using this.1
    · exact Vq (hp t ht)
  | .grp j' gd' w' b pk r, j, w, gd, gs, prev, rest, a, wd, h, hN, hj, hy, hp, hr => by
    have h : (((Oy N pk.dst) && (Fl pk.guard (some (j, w)) && Sn pk.dst ((j, w, gd) :: gs))) && (Pu G gd' w' pk.op && (Ata gd' prev && (Option.rec false (fun o => Option.rec false (fun d => Nat.beq d gd') o.dst) (Ea ops.toList j'))))
      && (Lt P E N G ops.toList b (some (j', w')) ((j', w', gd') :: (j, w, gd) :: gs) [] && Lt P E N G ops.toList r (some (j, w)) ((j, w, gd) :: gs) (pk.dst :: prev))) = true := h
    simp only [Bool.and_eq_true] at h
    obtain ⟨⟨⟨hd, hg, hn⟩, hpk, ht, hjd⟩, hb, hrr⟩ := h
    have hj' : ((ops[j']?).bind (·.dst)) = some gd' := by
      rw [Ed, Array.getElem?_toList] at hjd
      cases ho : ops[j']? with
      | none => rw [ho] at hjd; cases hjd
      | some o =>
        rw [ho] at hjd
        have hjd : (Option.rec false (fun d => Nat.beq d gd') o.dst : Bool) = true := hjd
        show o.dst = some gd'
        cases hod : o.dst with
        | none => rw [hod] at hjd; cases hjd
        | some d => rw [hod] at hjd; rw [Nat.eq_of_beq_eq_true hjd]
    have hu := hp gd' (As9 ht)
    show wpListIn (Fo ro) 0 P ops Q ((b.flat ++ pk :: r.flat) ++ rest) a wd
    rw [List.append_assoc]
    refine Xy hb hN hj' (by rw [hu]; simp [yb, undef]) (by simp) ?_
    have hbd := Ld hb
    have hgd : (Dz b.flat a).tmps[gd]? = a.tmps[gd]? := Abr fun o ho => (hbd o ho).2 (j, w, gd) (by simp)
    have hwant : Region.wanted pk (yielded ops (Dz b.flat a).tmps) = false := by
      unfold Region.wanted
      rw [Lc hg]
      show (yielded ops (Dz b.flat a).tmps j == some w) = false
      rw [Jm, hj]
      show (yb ((Dz b.flat a).tmps[gd]?) == some w) = false
      rw [hgd]
      simpa using hy
    show wpListIn (Fo ro) 0 P ops Q (pk :: (r.flat ++ rest)) _ wd
    unfold wpListIn
    rw [hwant, if_neg (by simp)]
    refine ⟨fun _ _ => trivial, ?_⟩
    have hne := Pw hn (j, w, gd) (by simp)
    refine Xy hrr (by rw [Act.Tz, Pt]; exact hN) hj (by rw [Jo hne, hgd]; exact hy) ?_ ?_
    · intro t ht
      rcases List.mem_cons.1 ht with e | ht
      · rw [← e]
        refine Ahc (Nat.lt_of_lt_of_le ?_ (by rw [Pt]; exact hN))
        rw [← e] at hd
        simpa [Oy] using hd
      · exact Vq (Aez (hp t ht))
    · have : Dz (Its.grp j' gd' w' b pk r).flat a = Dz r.flat ((Dz b.flat a).put pk.dst undef) := by
        show Dz (b.flat ++ pk :: r.flat) a = _
        rw [Aaz, Jw]
      rw [← this]; exact hr
end
end Go.Den
namespace Go.Den
open Go.RowKit
section
variable{P:Program}{E:Env}{N G:Nat}{D:List Deferred}{ops:Array Oper}{Q:Exit→Act→World→Prop}
def Ew(l:List Oper)(a a':Act):Prop:=a'.tmps.size=a.tmps.size∧∀t,(∀o∈l,o.dst≠some t)→a'.tmps[t]? =a.tmps[t]?
theorem Ew.refl(l:List Oper)(a:Act):Ew l a a:=⟨rfl,fun _ _=>rfl⟩
theorem Ew.cons{o:Oper}{l:List Oper}{a a':Act}{v:Value}(h:Ew l (a.put o.dst v) a'):Ew (o::l) a a':=
 ⟨h.1.trans (Act.Tz _ _ _),fun t ht=>(h.2 t fun x hx=>ht x (by simp[hx])).trans (Jo (ht o (by simp)))⟩
theorem Ew.append{l m:List Oper}{a a' b:Act}(h:Ew l a a')(k:Ew m a' b):Ew (l++m) a b:=
 ⟨k.1.trans h.1,fun t ht=>(k.2 t fun x hx=>ht x (by simp[hx])).trans (h.2 t fun x hx=>ht x (by simp[hx]))⟩
theorem Ew.Dz(l:List Oper)(a:Act):Ew l a (Dz l a):=⟨Pt l a,fun _ ht=>Abr ht⟩
theorem Atd (l : List Oper) : ∀ (f : FT) (t : Nat), Aa7 l f t = .top ∨ (Aa7 l f t = f t ∧ ∀ o ∈ l, o.dst ≠ some t) := by
  induction l with
  | nil => intro f t; exact .inr ⟨rfl, by simp⟩
  | cons o l ih =>
    intro f t
    show Aa7 l (Di f o.dst .top) t = .top ∨ (Aa7 l (Di f o.dst .top) t = f t ∧ _)
    rcases ih (Di f o.dst .top) t with h | ⟨h, hl⟩
    · exact .inl h
    · rw [h]
      cases hd : o.dst with
      | none => exact .inr ⟨rfl, by intro x hx; rcases List.mem_cons.1 hx with rfl | hx; · rw [hd]; simp
                                    · exact hl x hx⟩
      | some d =>
        show Ah f d .top t = .top ∨ _
        rw [Hh]
        by_cases e : t = d
        · left; rw [if_pos e]
        · right
          refine ⟨by rw [show Di f (some d) AV.top t = Ah f d .top t from rfl, Hh, if_neg e], ?_⟩
          intro x hx
          rcases List.mem_cons.1 hx with rfl | hx
          · rw [hd]; simpa using fun h => e h.symm
          · exact hl x hx
theorem FR.top{μ:Mu}{f:FT}{a a':Act}{l:List Oper}(r:FR μ N D f a)(s:Ew l a a')(hd:a'.defers=D):FR μ N D (Aa7 l f) a':=by
 refine⟨by rw[s.1];exact r.size,fun t=>?_,hd⟩
 rcases Atd l f t with h|⟨h,hl⟩
 · rw[h];trivial
 · rw[h]
   have:=r.get t
   rw[Array.getD_eq_getD_getElem?] at this ⊢
   rw[s.2 t hl];exact this
def Ab6(gs:List (Nat×Bool×Tmp)):Option (Nat×Bool):=match gs with
 |[]=>none
 |g::_=>some (g.1,g.2.1)
theorem Pn{o:Oper}{gs:List (Nat×Bool×Tmp)}{a:Act}(hg:o.guard=Ab6 gs)(l:Live ops gs a):Region.wanted o (yielded ops a.tmps)=true:=by
 unfold Region.wanted
 rw[hg]
 cases gs with
 |nil=>rfl
 |cons g gs=>
  obtain⟨h1,h2⟩:=l g (by simp)
  show(yielded ops a.tmps g.1==some g.2.1)=true
  rw[Jm,h1]
  show(yb (a.tmps[g.2.2]?)==some g.2.1)=true
  rw[h2];simp
theorem Amw{ro:Option Nat}{pk:Oper}{c x y:Operand}(hpk:pk.op=.pick c x y){a:Act}{w:World}{t:Bool}(hc:a.eval c=.bool t){next:Act→World→Prop}(h:next (a.put pk.dst (a.eval (Ds t x y))) w):pk.wpIn (Fo ro) 0 P a w next Q:=by
 have:(execOp a.eval pk).run P w=.ok (.value (a.eval (Ds t x y))) w:=by
  unfold execOp
  rw[hpk]
  simp only[hc]
  cases t<;>rfl
 refine Is (fun c e=>by rw[hpk] at e;cases e) ?_
 rw[this]
 exact h
theorem Zd{gd:Tmp}{w:Bool}{o:Op}(h:Pu G gd w o=true):∃x y v,o=.pick (.tmp gd) x y∧Ey G x=true∧Ey G y=true∧Ds w y x=.const v:=by
 cases o<;>try cases h
 rename_i c x y
 have h:(Ayo c gd&&Ey G x&&Ey G y&&Ah4 (Ds w y x))=true:=h
 simp only[Bool.and_eq_true] at h
 obtain⟨⟨⟨h1,h2⟩,h3⟩,h4⟩:=h
 cases c<;>try cases h1
 rename_i t
 have e:=Nat.eq_of_beq_eq_true h1
 subst e
 cases hq:Ds w y x<;>rw[hq] at h4<;>first|exact⟨x,y,_,rfl,by assumption,by assumption,hq⟩|cases h4
theorem Sk{w:Bool}{x y:Operand}(hx:Ey G x=true)(hy:Ey G y=true):Ey G (Ds w x y)=true:=by cases w<;>assumption
theorem Live.same{gs:List (Nat×Bool×Tmp)}{a a':Act}{l:List Oper}(h:Live ops gs a)(s:Ew l a a')(hl:∀o∈l,∀g∈gs,o.dst≠some g.2.2):Live ops gs a':=fun g hg=>
 ⟨(h g hg).1,by rw[s.2 g.2.2 fun o ho=>hl o ho g hg];exact(h g hg).2⟩
def Blp(_P:Program)(N:Nat)(D:List Deferred)(ops:Array Oper)(gs:List (Nat×Bool×Tmp))(its:Its)(μ:Mu)(h:H)(a:Act)(w:World)(K:FT→H→Prop)(q:Act→World→Prop):Prop:=
 ∀(μ':Mu)(f':FT)(h':H)(a':Act)(w':World),FR μ' N D f' a'→Sim μ' h' w'→Cw μ h w μ' h' w'→Live ops gs a'→Ew its.flat a a'→K f' h'→q a' w'
theorem Atj{ro:Option Nat}(ok:Cc P E){call:CF}(hcall:Gm P (CP E) G (fun p=>p) call){o:Oper}(hop:Ze P E G o.op=true){μ:Mu}{f:FT}{h:H}{a:Act}{w:World}{k:KV}{next:Act→World→Prop}{Q:Exit→Act→World→Prop}
 (hv:∀x∈o.op.operands.toList,VR μ (eval (CP E) x f) (a.eval x)) (s:Sim μ h w) (gl:Gy μ G) (hg:Atk E o.op call f h k) (g:Ai6 (CP E) μ h w (fun p=>p) k a o.dst next):o.wpIn (Fo ro) 0 P a w next Q:=by
 by_cases hnx:∃x,o.op=.next x false
 · obtain⟨x,e⟩:=hnx
   rw[e] at hg
   obtain⟨v,w',μ',av,h',hr,s',x',hv',hk⟩:=Ar5 (P:=P) (ty:=o.type) s (show Ar6 (eval' E x f) h k from hg) (hv x (by rw[e];simp[Op.operands]))
   refine Is (fun c hc=>by rw[e] at hc;cases hc) ?_
   have he:execOp a.eval o=(do pure (.value (←Instr.next (a.eval x) false o.type))):=by
    obtain⟨dst,op,type,pos,after,guard⟩:=o
    cases e;rfl
   rw[he,Aa hr]
   exact g _ _ _ _ _ s' x' hv' hk
 · have hg2:Dn E o.op call f h k:=by
    cases ho:o.op<;>rw[ho] at hg<;>try exact hg
    rename_i x b
    cases b with
    |true=>exact hg
    |false=>exact absurd ⟨x,ho⟩ hnx
   exact Afh (C:=CP E) (good:=fun p=>p) (fun h=>h) ok hcall hop hv s gl (Zx hg2) g
theorem Zp {ro : Option Nat} (ok : Cc P E) {call : CF} (hcall : Gm P (CP E) G (fun p => p) call) : ∀ (its : Its) {gs : List (Nat × Bool × Tmp)} {prev : List (Option Tmp)}, Lt P E N G ops.toList its (Ab6 gs) gs prev = true →
    ∀ {μ : Mu} {f : FT} {h : H} {a : Act} {w : World} {K : FT → H → Prop} {rest : List Oper}, FR μ N D f a → Sim μ h w → Gy μ G → Live ops gs a → Gi E call its f h K → Blp P N D ops gs its μ h a w K (wpListIn (Fo ro) 0 P ops Q rest) → wpListIn (Fo ro) 0 P ops Q (its.flat ++ rest) a w
  | .nil, gs, prev, _, μ, f, h, a, w, K, rest, fr, s, _, l, hr, he => he μ f h a w fr s (.refl _ _ _) l (.refl _ _) hr
  | .op o r, gs, prev, hk, μ, f, h, a, w, K, rest, fr, s, gl, l, hr, he => by
    have hk : (((Ht P E N G o) && (Fl o.guard (Ab6 gs) && Sn o.dst gs)) && Lt P E N G ops.toList r (Ab6 gs) gs (o.dst :: prev)) = true := hk
    simp only [Bool.and_eq_true, Ht] at hk
    obtain ⟨⟨⟨hd, hop⟩, hg, hn⟩, hrr⟩ := hk
    have hr : Atk E o.op call f h (fun v h => coK E o.type v (fun v => Gi E call r (Di f o.dst v) h K)) := hr
    have hopn : ∀ x ∈ o.op.operands.toList, Ey G x = true := by
      have hop := hop
      simp only [Ze, Bool.and_eq_true] at hop
      exact fun x hx => (List.all_eq_true.1 hop.1) x hx
    show wpListIn (Fo ro) 0 P ops Q (o :: (r.flat ++ rest)) a w
    unfold wpListIn
    rw [Pn (Lc hg) l, if_pos rfl]
    refine Atj ok hcall hop (fun x hx => fr.eval gl (hopn x hx)) s gl hr ?_
    intro μ' av h' v w' s' x' hv hg'
    refine Zp ok hcall r hrr ((fr.mono x'.le).put hd hv) s' (gl.mono x'.le) (l.put hn v) (Va hg') ?_
    intro μ'' f'' h'' a'' w'' fr'' s'' x'' l'' sb hK
    exact he _ _ _ _ _ fr'' s'' (x'.trans x'') l'' (Ew.cons sb) hK
  | .grp j gd wt b pk r, gs, prev, hk, μ, f, h, a, w, K, rest, fr, s, gl, l, hr, he => by
    have hk : (((Oy N pk.dst) && (Fl pk.guard (Ab6 gs) && Sn pk.dst gs)) && (Pu G gd wt pk.op && (Ata gd prev && (Option.rec false (fun o => Option.rec false (fun d => Nat.beq d gd) o.dst) (Ea ops.toList j))))
      && (Lt P E N G ops.toList b (some (j, wt)) ((j, wt, gd) :: gs) [] && Lt P E N G ops.toList r (Ab6 gs) gs (pk.dst :: prev))) = true := hk
    simp only [Bool.and_eq_true] at hk
    obtain ⟨⟨⟨hd, hg, hn⟩, hpk, _, hjd⟩, hb, hrr⟩ := hk
    have hj : ((ops[j]?).bind (·.dst)) = some gd := by
      rw [Ed, Array.getElem?_toList] at hjd
      cases ho : ops[j]? with
      | none => rw [ho] at hjd; cases hjd
      | some o =>
        rw [ho] at hjd
        have hjd : (Option.rec false (fun d => Nat.beq d gd) o.dst : Bool) = true := hjd
        show o.dst = some gd
        cases hod : o.dst with
        | none => rw [hod] at hjd; cases hjd
        | some d => rw [hod] at hjd; rw [Nat.eq_of_beq_eq_true hjd]
    obtain ⟨x, y, cv, epk, hx, hy, hcv⟩ := Zd hpk
    obtain ⟨t, hft, hr⟩ := Hl (show asB (f gd) (fun t => A5m E wt b.flat pk t (Gi E call b) (Gi E call r) f h K) from hr)
    have hvt : a.tmps.getD gd undef = .bool t := by have := fr.get gd; rw [hft] at this; exact this
    have hgt : a.tmps[gd]? = some (.bool t) := by
      rw [Array.getD_eq_getD_getElem?] at hvt
      cases hq : a.tmps[gd]? with
      | none => rw [hq] at hvt; cases hvt
      | some v => rw [hq] at hvt; exact congrArg some hvt
    have hr : Ar (fun kj => gate wt t (Gi E call b f h (fun f h => asB (eval' E (Ds wt x y) f) (fun v => kj v h))) (asB (eval' E (Ds wt y x) f) (fun v => kj v h)))
        (fun v h => Gi E call r (Di (Aa7 b.flat f) pk.dst (.bool v)) h K) := by
      unfold A5m at hr
      rw [epk] at hr
      exact hr
    have hbd := Ld hb
    show wpListIn (Fo ro) 0 P ops Q ((b.flat ++ pk :: r.flat) ++ rest) a w
    rw [List.append_assoc]
    by_cases hw : t = wt
    · subst hw
      have hr : Gi E call b f h (fun f' h' => asB (eval' E (Ds t x y) f') (fun v => Gi E call r (Di (Aa7 b.flat f) pk.dst (.bool v)) h' K)) := by cases t <;> exact hr
      refine Zp ok hcall b (gs := (j, t, gd) :: gs) hb fr s gl ?_ hr ?_
      · intro g hg'
        rcases List.mem_cons.1 hg' with rfl | hg'
        · exact ⟨hj, by show yb (a.tmps[gd]?) = some t; rw [hgt]; rfl⟩
        · exact l g hg'
      · intro μ' f' h' a' w' fr' s' x' l' sb hK
        obtain ⟨v, hv, hK⟩ := Hl hK
        have lo : Live ops gs a' := fun g hg' => l' g (by simp [hg'])
        show wpListIn (Fo ro) 0 P ops Q (pk :: (r.flat ++ rest)) a' w'
        unfold wpListIn
        rw [Pn (Lc hg) lo, if_pos rfl]
        have hc : a'.eval (.tmp gd) = .bool t := by
          have := (l' (j, t, gd) (by simp)).2
          have h2 : yb (a'.tmps[gd]?) = some t := this
          show a'.tmps.getD gd undef = .bool t
          rw [Array.getD_eq_getD_getElem?]
          cases hq : a'.tmps[gd]? with
          | none => rw [hq] at h2; cases h2
          | some u => rw [hq] at h2; cases u <;> simp [yb] at h2; subst h2; rfl
        have hev : a'.eval (Ds t x y) = .bool v := by
          have := fr'.eval (E := E) (gl.mono x'.le) (Sk (w := t) hx hy)
          rw [hv] at this; exact this
        refine Amw epk hc ?_
        rw [hev]
        refine Zp ok hcall r hrr (((fr.mono x'.le).top sb fr'.defs).put hd (av := .bool v) (rfl : VR μ' (.bool v) (.bool v))) s' (gl.mono x'.le) (lo.put hn _) hK ?_
        intro μ'' f'' h'' a'' w'' fr'' s'' x'' l'' sb' hK'
        exact he _ _ _ _ _ fr'' s'' (x'.trans x'') l'' (sb.append (Ew.cons sb')) hK'
    · have hr : asB (eval' E (Ds wt y x) f) (fun v => Gi E call r (Di (Aa7 b.flat f) pk.dst (.bool v)) h K) := by
        cases t <;> cases wt <;> first | exact hr | exact absurd rfl hw
      obtain ⟨v, hv, hK⟩ := Hl hr
      refine Xy hb fr.size hj (by rw [hgt]; simpa [yb] using hw) (by simp) ?_
      have sb : Ew b.flat a (Dz b.flat a) := .Dz _ _
      have lo : Live ops gs (Dz b.flat a) := l.same sb fun o ho g hg' => (hbd o ho).2 g (by simp [hg'])
      show wpListIn (Fo ro) 0 P ops Q (pk :: (r.flat ++ rest)) _ w
      unfold wpListIn
      rw [Pn (Lc hg) lo, if_pos rfl]
      have hc : (Dz b.flat a).eval (.tmp gd) = .bool t := by
        show (Dz b.flat a).tmps.getD gd undef = .bool t
        rw [Array.getD_eq_getD_getElem?, sb.2 gd fun o ho => (hbd o ho).2 (j, wt, gd) (by simp), hgt]; rfl
      have hch : Ds t x y = Ds wt y x := by cases t <;> cases wt <;> first | rfl | exact absurd rfl hw
      have hev : (Dz b.flat a).eval (Ds t x y) = .bool v := by
        have := fr.eval (E := E) gl (Sk (w := wt) hy hx)
        rw [hv] at this
        have this : a.eval (Ds wt y x) = .bool v := this
        rw [hch, hcv] at *
        exact this
      refine Amw epk hc ?_
      rw [hev]
      refine Zp ok hcall r hrr ((fr.top sb (by rw [Aay]; exact fr.defs)).put hd (av := .bool v) (rfl : VR μ (.bool v) (.bool v))) s gl (lo.put hn _) hK ?_
      intro μ'' f'' h'' a'' w'' fr'' s'' x'' l'' sb' hK'
      exact he _ _ _ _ _ fr'' s'' x'' l'' (sb.append (Ew.cons sb')) hK'
theorem Yh(l0:List Oper):∀(n:Nat)(g:Option (Nat×Bool))(l:List Oper),(Gz l0 n g l).1.flat++(Gz l0 n g l).2=l:=by
 intro n
 induction n with
 |zero=>intro g l;rfl
 |succ n ih=>
  intro g l
  cases l with
  |nil=>rfl
  |cons o l'=>
   show(Tq l0 (Gz l0 n) g (o::l')).1.flat++(Tq l0 (Gz l0 n) g (o::l')).2=o::l'
   unfold Tq
   simp only
   cases hs:Fl o.guard g with
   |true=>
    simp only
    have:=ih g l'
    generalize Gz l0 n g l'=q at this ⊢
    obtain⟨q1,q2⟩:=q
    show o::(q1.flat++q2)=o::l'
    rw[this]
   |false=>
    simp only
    cases hg:o.guard with
    |none=>rfl
    |some p=>
     simp only
     cases Axp l0 g p.1 with
     |none=>rfl
     |some gd=>
      simp only
      have hb:=ih (some p) (o::l')
      generalize Gz l0 n (some p) (o::l')=q at hb ⊢
      obtain⟨q1,q2⟩:=q
      cases q2 with
      |nil=>rfl
      |cons pk l''=>
       simp only
       have hc:=ih g l''
       generalize Gz l0 n g l''=z at hc ⊢
       obtain⟨z1,z2⟩:=z
       show(q1.flat++pk::z1.flat)++z2=o::l'
       rw[←hb,←hc];simp
theorem Ajz{l:List Oper}{its:Its}(h:Zq l=some its):its.flat=l:=by
 unfold Zq at h
 have hf:=Yh l (Nat.add (Nat.mul 2 (len l)) 2) none l
 generalize Gz l (Nat.add (Nat.mul 2 (len l)) 2) none l=q at h hf
 obtain⟨q1,q2⟩:=q
 cases q2 with
 |nil=>cases h;simpa using hf
 |cons=>cases h
end
end Go.Den
