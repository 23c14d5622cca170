/-
 Part of the proof.
-/
import Derived.Test.YtcnmehbkpaoolaaGreatDoorDenA
import Derived.Test.YtcnmehbkpaoolaaGreatDoorDenC
noncomputable section
namespace Go.Den
abbrev FT := Nat → AV
abbrev CF := Abg Prop FT
abbrev H := Hp FT
abbrev KV := AV → H → Prop
def Af (f : FT) (d : Nat) (v : AV) : FT := fun u => Bool.rec (f u) v (Nat.beq u d)
def Ac (l : List AV) : FT := fun t => Option.rec .undef (fun v => v) (Ed l t)
def Beh : FI where
 T := FT
 init l := Ac l
 get f t := f t
 set f t v := Af f t v
 force f k := k f
abbrev CP (E : Env) : Cx Prop := ⟨E, Beh, False⟩
def fN (n : Nat) (K : Nat → Prop) : Prop := Nat.rec False (fun m _ => K m) (Nat.succ n)
def fI (n : Int) (K : Int → Prop) : Prop := Int.rec (fun m => fN m (fun m => K (.ofNat m))) (fun m => fN m (fun m => K (.negSucc m))) n
def Ci (n : Int) (K : Nat → Prop) : Prop := Int.rec (fun m => K m) (fun _ => False) n
def Am (M : (Bool → H → Prop) → Prop) (k : Bool → H → Prop) : Prop := M k
def oV {α : Type} (o : Option α) (K : α → Prop) : Prop := Option.rec False K o
def oK (o : Option (AV × H)) (k : KV) : Prop := Option.rec False (fun p => Prod.rec (fun v h => Cb v (fun v => Hp.rec (fun m n => Jf m (fun m => k v ⟨m, n⟩)) h)) p) o
def cnd (t : Bool) (A B : Prop) : Prop := Bool.rec B A t
def gate (w t : Bool) (A B : Prop) : Prop := Bool.rec (Bool.rec A B t) (Bool.rec B A t) w
def Dn (l c i : Nat) (K : Nat → Prop) : Prop := Bool.rec False (fN (Fq c i) K) (Nat.ble (Nat.add i 1) l)
def Gh (l c lo hi : Nat) (K : Nat → Nat → Prop) : Prop := Bool.rec False (fN (Nat.sub hi lo) (fun n => fN (Vy c lo hi) (fun d => K n d))) (Ai (Nat.ble lo hi) (Nat.ble hi l))
def Ws (l c m d : Nat) (K : Nat → Nat → Prop) : Prop := Bool.rec False (fN (Nat.add l m) (fun n => fN (Zb l c d) (fun e => K n e))) (Nat.ble (Nat.add l m) (intMax .i64))
def ltS (l c m d : Nat) : Bool := Qz (Gv l c) (Gv m d)
def Ay1 (k : IntKind) (a b : Int) (K : Int → Prop) : Prop := Bool.rec (fI (wrap k (a.tdiv b)) K) False (Az b (.ofNat 0))
def Ayy (a b : Int) (K : Int → Prop) : Prop := Bool.rec (fI (a.tmod b) K) False (Az b (.ofNat 0))
def Apu (k : IntKind) (a b : Int) (K : Int → Prop) : Prop := Ci b (fun b => fI (wrap k (a * 2 ^ (min b k.bits))) K)
def Bcd (k : IntKind) (a b : Int) (K : Int → Prop) : Prop := Ci b (fun b => fI (a.fdiv (2 ^ (min b k.bits))) K)
def Bdn (a b : Int) (K : Nat → Nat → Prop) : Prop := Ci a (fun a => Ci b (fun b => K a b))
def Ab2 (g : Nat → Nat → Nat) (k : IntKind) (a b : Int) (K : Int → Prop) : Prop := Bdn a b (fun a b => Bool.rec False (fN (g a b) (fun n => K (.ofNat n))) (Ai (Nat.ble a (intMax k)) (Nat.ble b (intMax k))))
def low (n : Nat) : Nat := (fun (_ : Nat → (Nat → Prop) → Prop) (_ : Int → (Int → Prop) → Prop) (_ : ((Bool → H → Prop) → Prop) → (Bool → H → Prop) → Prop) (_ : Nat → Nat → Nat → (Nat → Prop) → Prop) (_ : Nat → Nat → Nat → Nat → (Nat → Nat → Prop) → Prop) (_ : Nat → Nat → Nat → Nat → (Nat → Nat → Prop) → Prop)
 (_ : IntKind → Int → Int → (Int → Prop) → Prop) (_ : IntKind → Int → Int → (Int → Prop) → Prop) (_ : IntKind → Int → Int → (Int → Prop) → Prop) (_ : (Nat → Nat → Nat) → IntKind → Int → Int → (Int → Prop) → Prop) (_ : Option (AV × H) → KV → Prop) (_ : H → P → Nat → Prop → (AV → Prop) → Prop) (_ : H → P → Nat → List AV → Prop → (H → Prop) → Prop) (_ : H → Ob FT → (P → H → Prop) → Prop) => n)
 fN fI Am Dn Gh Ws Ay1 Apu Bcd Ab2 oK (fun h b o x k => h.Hi b o x k) (fun h b o l x k => h.Gn b o l x k) (fun h o k => h.Gg o k)
def Ak : Prop := (fun (_ : Nat) => False) (low 0)
def Ai1 (a b : IntKind) : Bool := match a with
 | .i8 => match b with | .i8 => true | _ => false
 | .i16 => match b with | .i16 => true | _ => false
 | .i32 => match b with | .i32 => true | _ => false
 | .i64 => match b with | .i64 => true | _ => false
 | .u8 => match b with | .u8 => true | _ => false
 | .u16 => match b with | .u16 => true | _ => false
 | .u32 => match b with | .u32 => true | _ => false
 | .u64 => match b with | .u64 => true | _ => false
def chk (b : Bool) (K : Prop) : Prop := Bool.rec Ak K b
section
def asI (k : IntKind) (v : AV) (K : Int → Prop) : Prop := AV.rec (motive_1 := fun _ => Prop) (motive_2 := fun _ => Unit)
 (fun _ => Ak) (fun j n => Bool.rec Ak (K n) (Ai1 k j)) (fun _ _ => Ak) Ak (fun _ _ => Ak) Ak (fun _ _ _ _ _ => Ak) Ak (fun _ => Ak) (fun _ _ _ _ _ => Ak) Ak (fun _ _ _ => Ak) Ak (fun _ _ => Ak) (fun _ _ => Ak) Ak () (fun _ _ _ _ => ()) v
def Aq6 (v : AV) (K : Int → Prop) : Prop := AV.rec (motive_1 := fun _ => Prop) (motive_2 := fun _ => Unit)
 (fun _ => Ak) (fun _ n => K n) (fun _ _ => Ak) Ak (fun _ _ => Ak) Ak (fun _ _ _ _ _ => Ak) Ak (fun _ => Ak) (fun _ _ _ _ _ => Ak) Ak (fun _ _ _ => Ak) Ak (fun _ _ => Ak) (fun _ _ => Ak) Ak () (fun _ _ _ _ => ()) v
def asB (v : AV) (K : Bool → Prop) : Prop := AV.rec (motive_1 := fun _ => Prop) (motive_2 := fun _ => Unit)
 (fun b => K b) (fun _ _ => Ak) (fun _ _ => Ak) Ak (fun _ _ => Ak) Ak (fun _ _ _ _ _ => Ak) Ak (fun _ => Ak) (fun _ _ _ _ _ => Ak) Ak (fun _ _ _ => Ak) Ak (fun _ _ => Ak) (fun _ _ => Ak) Ak () (fun _ _ _ _ => ()) v
def asS (v : AV) (K : Nat → Nat → Prop) : Prop := AV.rec (motive_1 := fun _ => Prop) (motive_2 := fun _ => Unit)
 (fun _ => Ak) (fun _ _ => Ak) (fun l c => K l c) Ak (fun _ _ => Ak) Ak (fun _ _ _ _ _ => Ak) Ak (fun _ => Ak) (fun _ _ _ _ _ => Ak) Ak (fun _ _ _ => Ak) Ak (fun _ _ => Ak) (fun _ _ => Ak) Ak () (fun _ _ _ _ => ()) v
def asP (v : AV) (K : P → Nat → Prop) : Prop := AV.rec (motive_1 := fun _ => Prop) (motive_2 := fun _ => Unit)
 (fun _ => Ak) (fun _ _ => Ak) (fun _ _ => Ak) Ak (fun b o => K b o) Ak (fun _ _ _ _ _ => Ak) Ak (fun _ => Ak) (fun _ _ _ _ _ => Ak) Ak (fun _ _ _ => Ak) Ak (fun _ _ => Ak) (fun _ _ => Ak) Ak () (fun _ _ _ _ => ()) v
def asG (v : AV) (K : List AV → Prop) : Prop := AV.rec (motive_1 := fun _ => Prop) (motive_2 := fun _ => Unit)
 (fun _ => Ak) (fun _ _ => Ak) (fun _ _ => Ak) Ak (fun _ _ => Ak) Ak (fun _ _ _ _ _ => Ak) Ak (fun _ => Ak) (fun _ _ _ _ _ => Ak) Ak (fun _ _ _ => Ak) Ak (fun cs _ => K cs) (fun _ _ => Ak) Ak () (fun _ _ _ _ => ()) v
def asT (v : AV) (K : List AV → Prop) : Prop := AV.rec (motive_1 := fun _ => Prop) (motive_2 := fun _ => Unit)
 (fun _ => Ak) (fun _ _ => Ak) (fun _ _ => Ak) Ak (fun _ _ => Ak) Ak (fun _ _ _ _ _ => Ak) Ak (fun _ => Ak) (fun _ _ _ _ _ => Ak) Ak (fun _ _ _ => Ak) Ak (fun _ _ => Ak) (fun cs _ => K cs) Ak () (fun _ _ _ _ => ()) v
def Bha (v : AV) (K : Fn → List AV → List AV → Prop) : Prop := AV.rec (motive_1 := fun _ => Prop) (motive_2 := fun _ => Unit)
 (fun _ => Ak) (fun _ _ => Ak) (fun _ _ => Ak) Ak (fun _ _ => Ak) Ak (fun _ _ _ _ _ => Ak) Ak (fun _ => Ak) (fun fn a c _ _ => K fn a c) Ak (fun _ _ _ => Ak) Ak (fun _ _ => Ak) (fun _ _ => Ak) Ak () (fun _ _ _ _ => ()) v
def Aww (o : Ob FT) (K : (Nat → AV) → LpS → LoopState → AX → Prop) : Prop := Ob.rec Ak (fun _ _ _ _ _ => Ak) (fun _ _ => Ak) (fun _ _ => Ak) (fun _ _ _ => Ak) (fun f s st pd => K f s st pd) (fun _ _ _ _ => Ak) o
def one (v : AV) (K : Prop) : Prop := AV.rec (motive_1 := fun _ => Prop) (motive_2 := fun _ => Unit)
 (fun _ => K) (fun _ _ => K) (fun _ _ => K) K (fun _ _ => K) K (fun _ _ _ _ _ => K) K (fun _ => K) (fun _ _ _ _ _ => K) K (fun _ _ _ => K) K (fun _ _ => Ak) (fun _ _ => Ak) Ak () (fun _ _ _ _ => ()) v
def Ef (v : AV) (K : Nat → Prop) : Prop := AV.rec (motive_1 := fun _ => Prop) (motive_2 := fun _ => Unit)
 (fun _ => Ak) (fun _ _ => Ak) (fun _ _ => Ak) Ak (fun _ _ => Ak) (K 0) (fun _ _ n _ _ => K n) Ak (fun _ => Ak) (fun _ _ _ _ _ => Ak) Ak (fun _ _ _ => Ak) Ak (fun _ _ => Ak) (fun _ _ => Ak) Ak () (fun _ _ _ _ => ()) v
def Ca (sz i : Nat) (v : AV) (K : AV → Prop) : Prop := AV.rec (motive_1 := fun _ => Prop) (motive_2 := fun _ => Unit)
 (fun _ => Ak) (fun _ _ => Ak) (fun _ _ => Ak) Ak (fun _ _ => Ak) Ak (fun b o n z _ => Bool.rec Ak (fN (Nat.add o (Nat.mul i sz)) (fun q => K (.ptr b q))) (Ai (Nat.ble (Nat.add i 1) n) (Nat.beq sz z))) Ak (fun _ => Ak) (fun _ _ _ _ _ => Ak) Ak (fun _ _ _ => Ak) Ak (fun _ _ => Ak) (fun _ _ => Ak) Ak () (fun _ _ _ _ => ()) v
end
def Aq (o : Nat) (v : AV) (K : AV → Prop) : Prop := asP v (fun b q => fN (Nat.add q o) (fun q => K (.ptr b q)))
def ld1 (a : AV) (h : H) (K : AV → Prop) : Prop := asP a (fun b o => h.Hi b o Ak K)
def ldn (n : Nat) (a : AV) (h : H) (K : AV → Prop) : Prop := asP a (fun b o => h.Ix b o n Ak (fun l => K (.agg l)))
def st1 (a v : AV) (h : H) (K : H → Prop) : Prop := asP a (fun b o => one v (h.Gn b o [v] Ak K))
def stn (n : Nat) (a v : AV) (h : H) (K : H → Prop) : Prop := asP a (fun b o => asG v (fun cs => Bool.rec Ak (h.Gn b o cs Ak K) (Ai (Nat.beq (len cs) n) (Nat.ble 1 n))))
def Blr (o : Nat) (v : AV) (K : AV → Prop) : Prop := asG v (fun cs => oV (Ed cs o) K)
def Blq (o n : Nat) (v : AV) (K : AV → Prop) : Prop := asG v (fun cs => K (.agg (Ij n (Qo o cs))))
def ext (i : Nat) (v : AV) (K : AV → Prop) : Prop := asT v (fun cs => oV (Ed cs i) K)
def Bg8 (o : Ob FT) (K : P → Nat → List Nat → Nat → Prop) : Prop := Ob.rec Ak (fun _ _ _ _ _ => Ak) (fun _ _ => Ak) (fun _ _ => Ak) (fun _ _ _ => Ak) (fun _ _ _ _ => Ak) (fun m since seen stepped => K m since seen stepped) o
abbrev Ent := AV × AV × Nat
def Aii (n : Nat) (l : List Nat) : Bool := List.rec false (fun x _ ih => Bool.rec ih true (Nat.beq x n)) l
def leftOf (seen : List Nat) (es : List Ent) : List Ent := List.rec [] (fun e _ ih => Bool.rec (e :: ih) ih (Aii e.2.2 seen)) es
def Ame (since : Nat) (l : List Ent) : Bool := List.rec true (fun e _ ih => Bool.rec false ih (Nat.ble (Nat.add e.2.2 1) since)) l
def Ag2 (stepped : Nat) (l : List Ent) : Bool := List.rec false (fun e _ ih => Bool.rec ih true (Nat.ble (Nat.add e.2.2 1) stepped)) l
def Aan {α : Type} (l : List α) : Bool := List.rec true (fun _ _ _ => false) l
def Ao8 (K : Ent → Prop) (l : List Ent) : Prop := List.rec True (fun e r ih => List.rec (K e) (fun _ _ _ => And (K e) ih) r) l
def Gw (b m : P) (since : Nat) (seen : List Nat) (es : List Ent) (clock : Nat) (h : H) (k : KV) : Prop :=
 List.rec (k (.tuple [.bool false]) h) (fun e r _ => Ao8 (fun e => h.Px b (.Ox m since (Jy seen [e.2.2]) clock) (fun h => k (.tuple [.bool true, e.1, e.2.1]) h)) (e :: r)) (leftOf seen es)
def Atr (it : AV) (h : H) (k : KV) : Prop := asP it (fun b o => Bool.rec Ak (Bg8 (h.at b) (fun m since seen stepped => oV (Pe (h.at m)) (fun p => Bool.rec Ak (Gw b m since seen p.1 p.2 h k)
 (Ai (Ame since (leftOf seen p.1)) (Bool.rec (Bool.rec (Ag2 stepped p.1) true (Aan p.1)) true (Aan seen)))))) (Nat.beq o 0))
section
variable (E : Env)
def eval' (o : Operand) (f : FT) : AV := eval (CP E) o f
def coD (d : TypeDesc) (v : AV) (K : AV → Prop) : Prop := match d with
 | .int k => asI k v (fun n => K (.int k n))
 | .bool => asB v (fun b => K (.bool b))
 | .string => asS v (fun l c => K (.str l c))
 | _ => K v
def coK (t : TypeId) (v : AV) (K : AV → Prop) : Prop := match E.ty t with
 | some ti => coD ti.desc v K
 | none => K v
def bI (op : BinOp) (k : IntKind) (a b : Int) (K : AV → Prop) : Prop := match op with
 | .add => fI (wrap k (Br a b)) (fun n => K (.int k n))
 | .sub => fI (wrap k (Jp a b)) (fun n => K (.int k n))
 | .mul => fI (wrap k (a * b)) (fun n => K (.int k n))
 | .eql => K (.bool (Az a b))
 | .neq => K (.bool (Cw (Az a b)))
 | .lss => K (.bool (Cs a b))
 | .leq => K (.bool (Fk a b))
 | .gtr => K (.bool (Cs b a))
 | .geq => K (.bool (Fk b a))
 | .quo => Ay1 k a b (fun n => K (.int k n))
 | .rem => Ayy a b (fun n => K (.int k n))
 | .shl => Apu k a b (fun n => K (.int k n))
 | .shr => Bcd k a b (fun n => K (.int k n))
 | .and => Ab2 Nat.land k a b (fun n => K (.int k n))
 | .or => Ab2 Nat.lor k a b (fun n => K (.int k n))
 | .xor => Ab2 Nat.xor k a b (fun n => K (.int k n))
 | .andNot => False
def bS (op : BinOp) (l c m d : Nat) (K : AV → Prop) : Prop := match op with
 | .add => Ws l c m d (fun n e => K (.str n e))
 | .eql => K (.bool (Bq l c m d))
 | .neq => K (.bool (Cw (Bq l c m d)))
 | .lss => K (.bool (ltS l c m d))
 | .geq => K (.bool (Cw (ltS l c m d)))
 | _ => False
def Aoo (op : BinOp) : Bool := match op with
 | .shl => true
 | .shr => true
 | _ => false
def A9l (op : BinOp) (k : IntKind) (y : AV) (K : Int → Prop) : Prop := match Aoo op with
 | true => Aq6 y K
 | false => asI k y K
def A9h (op : BinOp) (t : TypeId) (d : TypeDesc) (x y : AV) (K : AV → Prop) : Prop := match d with
 | .int k => asI k x (fun a => A9l op k y (fun b => bI op k a b K))
 | .string => asS x (fun l c => asS y (fun m d => bS op l c m d K))
 | _ => oV (Ok E op t x y) K
def Awp (op : BinOp) (t : TypeId) (x y : AV) (K : AV → Prop) : Prop := match E.ty t with
 | some ti => A9h E op t ti.desc x y K
 | none => False
def Aq2 (op : BinOp) (t : TypeId) (ox oy : Operand) (x y : AV) (K : AV → Prop) : Prop := Bool.rec (Awp E op t x y K) (oV (Al6 E op t x y) K) (Al9 E op t ox oy)
def un2 (op : UnOp) (x : AV) (K : AV → Prop) : Prop := match op with
 | .not => asB x (fun b => K (.bool (Cw b)))
 | op => oV (unA op x) K
def Acq (t : TypeId) (a : AV) (h : H) (K : AV → Prop) : Prop := match E.ty t with
 | some i => match i.agg with
  | true => ldn i.size a h K
  | false => ld1 a h K
 | none => False
def Aki (t : TypeId) (a v : AV) (h : H) (K : H → Prop) : Prop := match E.ty t with
 | some i => match i.agg with
  | true => stn i.size a v h K
  | false => match Nat.beq i.size 1 with
   | true => st1 a v h K
   | false => False
 | none => False
def Aoy (t : TypeId) (i : Nat) : Option (Nat × Nat × Bool) := match E.ty t with
 | some ti => match ti.desc with
  | .struct fs => match Mo fs.toList i with
   | some p => match E.ty p.2 with
    | some fi => some (p.1, fi.size, fi.agg)
    | none => none
   | none => none
  | _ => none
 | none => none
def Aax (t : TypeId) (x : AV) (i : Nat) (K : AV → Prop) : Prop := match Aoy E t i with
 | some p => match p.2.2 with
  | true => Blq p.1 p.2.1 x K
  | false => Blr p.1 x K
 | none => False
def Ux (t : TypeId) (x : AV) (i : Nat) (K : AV → Prop) : Prop := match Wm E t i with
 | some o => Aq o x K
 | none => False
def Ak1 (v : AV) (K : Nat → Prop) : Prop := Aq6 v (fun n => Ci n K)
def Lp (t : TypeId) (x i : AV) (h : H) (k : KV) : Prop := match Rl E t with
 | some e => match E.ty e with
  | some ei => Ak1 i (fun n => Ca ei.size n x (fun v => k v h))
  | none => False
 | none => oK (Cy E t x (Bg i) h) k
def Qh (t : TypeId) (x i : AV) (h : H) (k : KV) : Prop := match E.ty t with
 | some ti => match isStr ti.desc with
  | true => asS x (fun l c => Ak1 i (fun n => Dn l c n (fun b => k (.int .u8 (.ofNat b)) h)))
  | false => oK (Lr E t x (Bg i) h) k
 | none => False
def Ait (ats : List TypeId) (d : TypeDesc) (x : AV) (h : H) (k : KV) : Prop := match d with
 | .string => asS x (fun l _ => k (.int .i64 (.ofNat l)) h)
 | .slice _ => Ef x (fun n => k (.int .i64 (.ofNat n)) h)
 | _ => oK (Vq E ats x h) k
def Ap8 (ats : List TypeId) (x : AV) (h : H) (k : KV) : Prop := match Ed ats 0 with
 | some t => match E.ty t with
  | some ti => Ait E ats ti.desc x h k
  | none => False
 | none => False
def Jt (b : Builtin) (ats : List TypeId) (args : List AV) (h : H) (k : KV) : Prop := match b with
 | .len => match args with
  | [x] => Ap8 E ats x h k
  | _ => False
 | b => oK (Ao E b ats args h) k
def Em (t : TypeId) : Bool := match E.ty t with
 | some ti => Nt ti.desc
 | none => false
def Aa3 (s d : TypeId) (dd : TypeDesc) (x : AV) (h : H) (k : KV) : Prop := match dd with
 | .int kd => match Em E s with
  | true => Aq6 x (fun n => fI (wrap kd n) (fun n => k (.int kd n) h))
  | false => oK (Fz E h s d x) k
 | _ => oK (Fz E h s d x) k
def Vh (s d : TypeId) (x : AV) (h : H) (k : KV) : Prop := match E.ty d with
 | some ti => Aa3 E s d ti.desc x h k
 | none => False
def Aqz (o : Option AV) (d : Nat) (K : Nat → Prop) : Prop := match o with
 | some v => Ak1 v K
 | none => K d
def slice3 (h : H) (t : TypeId) (x : AV) (lo hi mx : Option (Option Nat)) : Option (AV × H) := Option.rec none (fun m => Fe h (Kb E h t x lo hi m)) (Qe mx)
def Ly (t : TypeId) (x : AV) (lo hi mx : Option AV) (h : H) (k : KV) : Prop := match E.ty t with
 | some ti => match isStr ti.desc with
  | true => match mx with
   | none => asS x (fun l c => Aqz hi l (fun hi => Aqz lo 0 (fun lo => Gh l c lo hi (fun n d => k (.str n d) h))))
   | some _ => False
  | false => oK (slice3 E h t x (lo.map Bg) (hi.map Bg) (mx.map Bg)) k
 | none => False
def Amd (e : TypeId) (h : H) (k : KV) : Prop := match E.ty e with
 | some i => h.Gg (rowOf e i.zero) (fun b h => k (.ptr b 0) h)
 | none => False
def Aag (t : TypeId) (x : AV) (h : H) (k : KV) : Prop := match E.ty t with
 | some ti => match isIface ti.desc with
  | true => False
  | false => k (.iface t x) h
 | none => False
def A9e (e : TypeId) (v : AV) (h : H) (k : KV) : Prop := match E.ty e with
 | some i => match i.agg with
  | true => asG v (fun cs => Bool.rec Ak (h.Gg (rowOf e cs) (fun b h => k (.ptr b 0) h)) (Nat.ble 1 (len cs)))
  | false => one v (h.Gg (rowOf e [v]) (fun b h => k (.ptr b 0) h))
 | none => False
def A0n (call : CF) (fv : AV) (args : List AV) (h : H) (k : KV) : Prop := Ac6 (CP E) call fv args h k
def inv2 (call : CF) (fv : AV) (name : String) (args : List AV) (h : H) (k : KV) : Prop := Xm (CP E) call fv name args h k
def Hh (E : Env) (f : FT) (l : List Operand) : List AV := List.rec [] (fun x _ ih => eval' E x f :: ih) l
def Dp (o : Op) (call : CF) (f : FT) (h : H) (k : KV) : Prop := match o with
 | .move x => k (eval' E x f) h
 | .assign x => k (eval' E x f) h
 | .alloc e => Amd E e h k
 | .box e x => A9e E e (eval' E x f) h k
 | .load t a => Acq E t (eval' E a f) h (fun v => k v h)
 | .store t a x => Aki E t (eval' E a f) (eval' E x f) h (fun h => k .undef h)
 | .binOp op t x y _ => Aq2 E op t x y (eval' E x f) (eval' E y f) (fun v => k v h)
 | .unOp op _ x => un2 op (eval' E x f) (fun v => k v h)
 | .convert s d x => Vh E s d (eval' E x f) h k
 | .makeInterface t x => Aag E t (eval' E x f) h k
 | .slice t x lo hi mx => Ly E t (eval' E x f) (lo.map (fun x => eval' E x f)) (hi.map (fun x => eval' E x f)) (mx.map (fun x => eval' E x f)) h k
 | .fieldAddr t x i => Ux E t (eval' E x f) i (fun v => k v h)
 | .field t x i => Aax E t (eval' E x f) i (fun v => k v h)
 | .indexAddr t x i => Lp E t (eval' E x f) (eval' E i f) h k
 | .index t x i => Qh E t (eval' E x f) (eval' E i f) h k
 | .extract x i => ext i (eval' E x f) (fun v => k v h)
 | .call c => match c.callee with
  | .builtin b => Jt E b c.argTypes.toList (Hh E f c.args.toList) h k
  | .invoke r name => inv2 E call (eval' E r f) name (Hh E f c.args.toList) h k
  | .value v => A0n E call (eval' E v f) (Hh E f c.args.toList) h k
 | .makeFunc fn a b => k (.func fn (Hh E f a.toList) (Hh E f b.toList)) h
 | o => exec o (CP E) call f h k
def Au6 (o : Op) (call : CF) (f : FT) (h : H) (k : KV) : Prop := match o with
 | .next x b => match b with
  | false => Atr (eval' E x f) h k
  | true => Dp E (.next x true) call f h k
 | o => Dp E o call f h k
end
inductive Its where
 | nil
 | op (o : Oper) (rest : Its)
 | grp (j : Nat) (gd : Tmp) (want : Bool) (body : Its) (pk : Oper) (rest : Its)
def Its.flat : Its → List Oper
 | .nil => []
 | .op o r => o :: r.flat
 | .grp _ _ _ b pk r => b.flat ++ pk :: r.flat
def Dk (f : FT) (d : Option Tmp) (v : AV) : FT := match d with
 | some d => Af f d v
 | none => f
def Abv (l : List Oper) (f : FT) : FT := match l with
 | [] => f
 | o :: l => Abv l (Dk f o.dst .top)
def Atd (o : Op) : Option (Operand × Operand × Operand) := match o with
 | .pick c a b => some (c, a, b)
 | _ => none
def Du (w : Bool) (x y : Operand) : Operand := Bool.rec y x w
def A5u (E : Env) (w : Bool) (bf : List Oper) (pk : Oper) (t : Bool) (body rest : FT → H → (FT → H → Prop) → Prop) (f : FT) (h : H) (K : FT → H → Prop) : Prop := match Atd pk.op with
  | none => False
  | some (_, x, y) => Am (fun kj => gate w t
        (body f h (fun f h => asB (eval' E (Du w x y) f) (fun v => kj v h)))
        (asB (eval' E (Du w y x) f) (fun v => kj v h)))
        (fun v h => rest (Dk (Abv bf f) pk.dst (.bool v)) h K)
def Gc (E : Env) (call : CF) (its : Its) : FT → H → (FT → H → Prop) → Prop := Its.rec (motive := fun _ => FT → H → (FT → H → Prop) → Prop)
 (fun f h K => K f h)
 (fun o _ ih f h K => Au6 E o.op call f h (fun v h => coK E o.type v (fun v => ih (Dk f o.dst v) h K)))
 (fun _ gd w b pk _ ihb ihr f h K => asB (f gd) (fun t => A5u E w b.flat pk t ihb ihr f h K)) its
def Fs (a b : Option (Nat × Bool)) : Bool := match a with
 | none => match b with
  | none => true
  | some _ => false
 | some (i, v) => match b with
  | none => false
  | some (j, w) => and (Nat.beq i j) (Apc v w)
where Apc (v w : Bool) : Bool := match v with
 | true => w
 | false => match w with
  | true => false
  | false => true
def Az1 (ops : List Oper) (g : Option (Nat × Bool)) (j : Nat) : Option Tmp := Option.rec none (fun o => Bool.rec none o.dst (Fs o.guard g)) (Ed ops j)
abbrev Apg := Option (Nat × Bool) → List Oper → Its × List Oper
def To (ops : List Oper) (ih : Apg) : Apg := fun g l => List.rec (.nil, [])
 (fun o l' _ => Bool.rec
  (Option.rec (.nil, o :: l') (fun p => Option.rec (.nil, o :: l') (fun gd =>
   Prod.rec (fun b r => List.rec (.nil, o :: l') (fun pk l'' _ => Prod.rec (fun q r => (.grp p.1 gd p.2 b pk q, r)) (ih g l'')) r) (ih (some p) (o :: l'))) (Az1 ops g p.1)) o.guard)
  (Prod.rec (fun q r => (.op o q, r)) (ih g l')) (Fs o.guard g)) l
def Gy (ops : List Oper) (n : Nat) : Apg := Nat.rec (motive := fun _ => Apg) (fun _ l => (.nil, l)) (fun _ ih => To ops ih) n
def Aal (ops : List Oper) : Option Its := Prod.rec (fun q r => List.rec (some q) (fun _ _ _ => none) r) (Gy ops (Nat.add (Nat.mul 2 (len ops)) 2) none ops)
def allEq (r : AV → AV → Bool) (xs : List AV) : List AV → Bool := List.rec (motive := fun _ => List AV → Bool) (fun ys => List.rec true (fun _ _ _ => false) ys) (fun x _ ih ys => List.rec false (fun y ys _ => Ai (r x y) (ih ys)) ys) xs
def A5w (x y : Fn) : Bool := match x with
 | .func i => match y with | .func j => Nat.beq i j | _ => false
 | _ => false
def Awt (r : AV → AV → Bool) (x y : AV) : Bool := match x with
 | .bool a => match y with | .bool b => Ajz a b | _ => false
 | .int k a => match y with | .int j b => Ai (Ai1 k j) (Az a b) | _ => false
 | .str l c => match y with | .str m d => Ai (Nat.beq l m) (Nat.beq c d) | _ => false
 | .Ft => match y with | .Ft => true | _ => false
 | .ptr a i => match y with | .ptr b j => Ai (P.beq a b) (Nat.beq i j) | _ => false
 | .Ad => match y with | .Ad => true | _ => false
 | .slice a i n z t => match y with | .slice b j m w u => Ai (Ai (P.beq a b) (Nat.beq i j)) (Ai (Ai (Nat.beq n m) (Nat.beq z w)) (Ajz t u)) | _ => false
 | .Qc => match y with | .Qc => true | _ => false
 | .map a => match y with | .map b => P.beq a b | _ => false
 | .func f a c => match y with | .func g b d => Ai (A5w f g) (Ai (allEq r a b) (allEq r c d)) | _ => false
 | .Uj => match y with | .Uj => true | _ => false
 | .iface t v => match y with | .iface u w => Ai (Nat.beq t u) (r v w) | _ => false
 | .Hl => match y with | .Hl => true | _ => false
 | .agg xs => match y with | .agg ys => allEq r xs ys | _ => false
 | .tuple xs => match y with | .tuple ys => allEq r xs ys | _ => false
 | _ => false
def Pg (n : Nat) : AV → AV → Bool := Nat.rec (fun _ _ => false) (fun _ ih => Awt ih) n
def eqC (x y : AV) (A : Prop) : Prop := Bool.rec Ak A (Pg 4 x y)
section
variable (E : Env)
def En (p : TypeDesc → Bool) (t : TypeId) : Bool := match E.ty t with
 | some ti => p ti.desc
 | none => false
def Qg (d : TypeDesc) : Bool := match d with
 | .slice _ => true
 | _ => false
def He (d : TypeDesc) : Bool := match d with
 | .slice _ => true
 | .string => true
 | _ => false
def kindOf (o : Op) : Nat := match o with
 | .move _ => 0
 | .assign _ => 0
 | .binOp .. => 0
 | .unOp .. => 0
 | .fieldAddr .. => 0
 | .field .. => 0
 | .extract .. => 0
 | .makeInterface .. => 0
 | .makeFunc .. => 0
 | .index .. => 0
 | .indexAddr .. => 0
 | .nilCheck _ => 0
 | .build .. => 0
 | .pick .. => 0
 | .slice t _ _ _ _ => Bool.rec 1 0 (En E He t)
 | .convert s d _ => Bool.rec (Bool.rec 1 2 (En E Qg d)) 0 (Ai (Em E s) (Em E d))
 | .load .. => 1
 | .lookup .. => 1
 | .call c => match c.callee with
  | .builtin b => match b with
   | .len => match c.argTypes.toList with
    | t :: _ => Bool.rec 1 0 (En E He t)
    | [] => 1
   | .cap => 1
   | .unsafeSliceData => 1
   | .min => 1
   | .max => 1
   | _ => 2
  | _ => 2
 | _ => 2
inductive Dr where
 | nil
 | op (i : Nat) (o : Oper) (rl : List (Nat × Oper)) (rest : Dr)
 | grp (j : Nat) (gd : Tmp) (want : Bool) (body : Dr) (ip : Nat) (pk : Oper) (rest : Dr)
abbrev Tri := Nat × Oper × List (Nat × Oper)
def Zc (l : List (Nat × Oper)) : List Oper := List.rec [] (fun p _ ih => p.2 :: ih) l
abbrev Ag4 := Option (Nat × Bool) → List Tri → Dr × List Tri
def Qy (ops : List Oper) (ih : Ag4) : Ag4 := fun g l => List.rec (.nil, [])
 (fun o l' _ => Bool.rec
  (Option.rec (.nil, o :: l') (fun p => Option.rec (.nil, o :: l') (fun gd =>
   Prod.rec (fun b r => List.rec (.nil, o :: l') (fun pk l'' _ => Prod.rec (fun q r => (.grp p.1 gd p.2 b pk.1 pk.2.1 q, r)) (ih g l'')) r) (ih (some p) (o :: l'))) (Az1 ops g p.1)) o.2.1.guard)
  (Prod.rec (fun q r => (.op o.1 o.2.1 o.2.2 q, r)) (ih g l')) (Fs o.2.1.guard g)) l
def Gb (ops : List Oper) (n : Nat) : Ag4 := Nat.rec (motive := fun _ => Ag4) (fun _ l => (.nil, l)) (fun _ ih => Qy ops ih) n
def Ni (call : CF) (rl : List Oper) (f : FT) (h : H) (A : Prop) : Prop := List.rec A (fun o _ ih => Dp E o.op call f h (fun v _ => coK E o.type v (fun v => eqC v (Option.rec .undef f o.dst) ih))) rl
def Dr.Ve (its : Dr) : List (Option Tmp) := Dr.rec [] (fun _ o _ _ ih => o.dst :: ih) (fun _ _ _ _ _ pk _ ihb ihr => Jy ihb (pk.dst :: ihr)) its
def Xt (l : List (Option Tmp)) (f : FT) : FT := List.rec (motive := fun _ => FT → FT) (fun f => f) (fun d _ ih f => ih (Dk f d .top)) l f
def A5t (w : Bool) (bd : List (Option Tmp)) (pk : Oper) (t : Bool) (body rest : FT → H → (FT → H → Prop) → Prop) (f : FT) (h : H) (K : FT → H → Prop) : Prop := match Atd pk.op with
  | none => False
  | some (_, x, y) => Am (fun kj => gate w t
        (body f h (fun f h => asB (eval' E (Du w x y) f) (fun v => kj v h)))
        (asB (eval' E (Du w y x) f) (fun v => kj v h)))
        (fun v h => rest (Dk (Xt bd f) pk.dst (.bool v)) h K)
def Iw (call : CF) (its : Dr) : FT → H → (FT → H → Prop) → Prop := Dr.rec (motive := fun _ => FT → H → (FT → H → Prop) → Prop)
 (fun f h K => K f h)
 (fun _ o rl _ ih f h K => Dp E o.op call f h (fun v h => coK E o.type v (fun v => Ni E call (Zc rl) (Dk f o.dst v) h (ih (Dk f o.dst v) h K))))
 (fun _ gd w b _ pk _ ihb ihr f h K => asB (f gd) (fun t => A5t E w b.Ve pk t ihb ihr f h K)) its
end
def St (acc : List Nat) (es : List Edge) : Nat := List.rec 0 (fun e _ ih => Bool.rec ih (Nat.lor ih (Nat.lor (Nat.shiftLeft 1 e.on) (Option.rec 0 (fun m => m) (Ed acc e.on)))) (Region.binds .any e)) es
def Hr (l : List Oper) : List Nat → List Nat := List.rec (motive := fun _ => List Nat → List Nat) (fun acc => acc) (fun o _ ih acc => ih (Jy acc [St acc o.after.toList])) l
def bit (m i : Nat) : Bool := Nat.beq (Nat.mod (Nat.shiftRight m i) 2) 1
def Apw (E : Env) (_ms : List Nat) (m : Nat) (g : Option (Nat × Bool)) (done : List (Nat × Oper)) : List (Nat × Oper) := List.rec [] (fun p _ ih => Bool.rec ih (p :: ih) (Ai (Nat.beq (kindOf E p.2.op) 1) (Ai (Bool.rec (Fs p.2.guard g) true (Fs p.2.guard none)) (Cw (bit m p.1))))) done
def Us (o : Op) : Bool := match o with
 | .alloc _ => true
 | .makeMap _ r => match r with
  | none => true
  | some _ => false
 | .makeSlice _ _ _ => true
 | .buildSlice _ _ _ => true
 | _ => false
def Atx (o : Op) (ms : List Nat) (i : Nat) (pl : List Nat) : Nat := Bool.rec (Option.rec 0 (fun m => m) (Ed ms i)) (Bool.rec 0 (Option.rec 0 (fun m => m) (Ed ms i)) (List.rec true (fun j _ ih => Bool.rec false ih (bit (Option.rec 0 (fun m => m) (Ed ms j)) i)) pl)) (Us o)
def triples (E : Env) (ops : List Oper) (ms pl : List Nat) : List (Nat × Oper) → List Tri := List.rec (motive := fun _ => List (Nat × Oper) → List Tri) (fun _ => [])
 (fun i pl ih done => Option.rec [] (fun o => (i, o, Bool.rec [] (Apw E ms (Atx o.op ms i pl) o.guard done) (Nat.beq (kindOf E o.op) 2)) :: ih (Jy done [(i, o)])) (Ed ops i)) pl
def Aqm (E : Env) (ops : List Oper) (pl : List Nat) : Option Dr := Prod.rec (fun q r => List.rec (some q) (fun _ _ _ => none) r) (Gb ops (Nat.add (Nat.mul 2 (len ops)) 2) none (triples E ops (Hr ops []) pl []))
abbrev Av := List (Nat × List Nat)
def Ke (ps : Av) (id : Nat) : Option (List Nat) := List.rec none (fun p _ ih => Bool.rec ih (some p.2) (Nat.beq p.1 id)) ps
inductive Pos where
 | root
 | l (p : Pos)
 | r (p : Pos)
 | lab (p : Pos) (n : Nat)
def Pos.beq (p : Pos) : Pos → Bool := Pos.rec (motive := fun _ => Pos → Bool)
 (fun q => Pos.rec true (fun _ _ => false) (fun _ _ => false) (fun _ _ _ => false) q)
 (fun _ ih q => Pos.rec false (fun q _ => ih q) (fun _ _ => false) (fun _ _ _ => false) q)
 (fun _ ih q => Pos.rec false (fun _ _ => false) (fun q _ => ih q) (fun _ _ _ => false) q)
 (fun _ n ih q => Pos.rec false (fun _ _ => false) (fun _ _ => false) (fun q m _ => Ai (Nat.beq n m) (ih q)) q) p
abbrev Bu := List (Pos × Nat)
def cutAt (cs : Bu) (p : Pos) : Option Nat := List.rec none (fun c _ ih => Bool.rec ih (some c.2) (Pos.beq c.1 p)) cs
abbrev Jump := Nat → FT → H → Prop
abbrev KX' := AX → FT → H → Prop
def Arw (ds : List Tmp) : List AV → FT → FT := List.rec (motive := fun _ => List AV → FT → FT) (fun _ f => f) (fun d _ ih vs f => List.rec f (fun v vs _ => ih vs (Af f d v)) vs) ds
def Aou (E : Env) (fn : Fn) : Bool := match fn with
 | .func f => match E.fn f with
  | some fn => match fn.body with
   | some _ => !(fn.name == "runtime.NumGoroutine")
   | none => false
  | none => false
 | _ => false
def isReady (s : LoopState) : Bool := match s with
 | .ready => true
 | _ => false
def Azh (s : LoopState) : Bool := match s with
 | .busy => false
 | _ => true
def nOf (pls : Av) : Nat := Option.rec 0 (fun l => List.rec 0 (fun n _ _ => n) l) (Ke pls 4294967295)
def Xy (pls : Av) : List Nat := Option.rec [] (fun l => l) (Ke pls 4294967294)
def Oa (l : List Nat) (f : FT) : FT := List.rec (fun _ => .top) (fun t _ ih => Af ih t (f t)) l
def pFs (n : Nat) : Nat → P := Nat.rec (motive := fun _ => Nat → P) (fun _ => .z) (fun _ ih m => Bool.rec (Bool.rec (.r (ih (Nat.div (Nat.sub m 2) 2))) (.l (ih (Nat.div (Nat.sub m 1) 2))) (Nat.beq (Nat.mod m 2) 1)) .z (Nat.beq m 0)) n
def Beu (l : P) (K : AX → H → Prop) (h : H) : Prop := Aww (h.at l) (fun f' s st pd => Bool.rec Ak (h.Px l (.loop f' s .exhausted pd) (fun h => K pd h)) (Azh st))
def Ar9 (E : Env) (call : CF) (lp : LpS) (g : AV) (f : FT) (h : H) (K : AX → H → Prop) : Prop :=
 Bha g (fun fn a c => Bool.rec Ak (h.Gg (.loop f lp .ready .normal) (fun l h => call fn (a ++ [.func (.yield l.nat) [] []] ++ c) h (fun _ h => Beu l K h))) (Aou E fn))
def Aq4 (x y : AX) : Bool := match x with
 | .normal => match y with | .normal => true | _ => false
 | .exit i => match y with | .exit j => Nat.beq i j | _ => false
 | .goto i => match y with | .goto j => Nat.beq i j | _ => false
 | .ret => match y with | .ret => true | _ => false
def Bj1 (x : AX) (l : List AX) : Bool := List.rec false (fun y _ ih => Bool.rec ih true (Aq4 x y)) l
def Bgf (l : List AX) : List AX := List.rec [] (fun x _ ih => Bool.rec (x :: ih) ih (Bj1 x ih)) l
def Bgc (id : Nat) (l : List AX) : List AX := List.rec [] (fun x _ ih => Bool.rec (x :: ih) ih (Aq4 x (.exit id))) l
def Ao0 (c : Code) : List AX := Code.rec (motive := fun _ => List AX) [] (fun _ _ _ => []) (fun _ _ x y => Jy x y) (fun _ _ _ x y => Jy x y) (fun id _ x => Bgc id x) (fun _ x => x)
 (fun _ _ _ _ x y => Jy x y) (fun id => [.exit id]) (fun _ x => x) (fun _ => []) (fun l => [.goto l]) [.ret] (fun _ => []) c
def An8 (x : AX) (l : List AX) (K : AX → Prop) : Prop := List.rec False (fun y _ ih => cnd (Aq4 x y) (K y) ih) l
def opsOf (c : Code) : Array Oper := match c with
 | .region _ ops _ => ops
 | _ => #[]
def Auq (c : Code) : Nat := match c with
 | .region id _ _ => id
 | _ => 0
def Afw (l : List Oper) (i : Nat) : Oper := Option.rec ⟨none, .move (.tmp 0), 0, default, #[], none⟩ (fun o => o) (Ed l i)
def A19 (o : Oper) : Array TypeId := match o.op with
 | .defer c => c.argTypes
 | _ => #[]
theorem A00 {x y : AX} (h : Aq4 x y = true) : x = y := by
 cases x <;> cases y <;> first | rfl | cases h | (rw [Nat.eq_of_beq_eq_true (show Nat.beq _ _ = true from h)])
theorem Ack {x : AX} {K : AX → Prop} : ∀ {l : List AX}, An8 x l K → K x
 | [], h => h.elim
 | y :: l, h => by
  have h : cnd (Aq4 x y) (K y) (An8 x l K) := h
  cases e : Aq4 x y with
  | true => rw [e] at h; rw [A00 e]; exact h
  | false => rw [e] at h; exact Ack h
def Wr (c : Code) (p : Pos) : Code := Pos.rec c
 (fun _ ih => match ih with | .seq a _ => a | .cond _ a _ => a | .block _ a => a | .loop a => a | .scope a => a | _ => .skip)
 (fun _ ih => match ih with | .seq _ b => b | .cond _ _ b => b | _ => .skip)
 (fun _ n ih => match ih with | .scope a => Option.rec .skip (fun c => c) (findLabel a n) | _ => .skip) p
section
variable (E : Env) (call : CF) (pls : Av) (cuts : Bu) (J : Jump)
def enter (p : Pos) (f : FT) (h : H) (A : Prop) : Prop := Option.rec A (fun L => J L f h) (cutAt cuts p)
def A3e (B : FT → H → KX' → Prop) (K : KX') : KX' := fun x f h => AX.rec (B f h K) (fun id => K (.exit id) f h) (fun l => K (.goto l) f h) (K .ret f h) x
def Al5 (id : Nat) (K : KX') : KX' := fun x f h => AX.rec (K .normal f h) (fun j => Bool.rec (K (.exit j) f h) (K .normal f h) (Nat.beq j id)) (fun l => K (.goto l) f h) (K .ret f h) x
def At0 (B : FT → H → Prop) (K : KX') : KX' := fun x f h => AX.rec (B f h) (fun id => K (.exit id) f h) (fun l => K (.goto l) f h) (K .ret f h) x
def Zf (c : Code) (B : Nat → FT → H → Prop) (K : KX') : KX' := fun x f h => AX.rec (K .normal f h) (fun id => K (.exit id) f h) (fun l => Option.rec (K (.goto l) f h) (fun _ => B l f h) (findLabel c l)) (K .ret f h) x
def Bgd (id : Nat) (ops : List Oper) (f : FT) (h : H) (K : FT → H → Prop) : Prop := oV (Ke pls id) (fun pl => List.rec False (fun _ _ _ => oV (Aqm E ops pl) (fun its => Iw E call its f h K)) pl)
def Bch (id : Nat) (ops : List Oper) (d : Bool) (f : FT) (h : H) (K : FT → H → Prop) : Prop := Bool.rec (Option.rec (oV (Aal ops) (fun its => Gc E call its f h K)) (fun _ => False) (Ke pls id)) (Bgd E call pls id ops f h K) d
abbrev Ph := Pos → FT → H → KX' → Prop
def Bcf (a b : Ph) : Ph := fun p f h K => a (.l p) f h (A3e (b (.r p)) K)
def A1b (c : Operand) (a b : Ph) : Ph := fun p f h K => asB (eval' E c f) (fun t => Bool.rec (b (.r p) f h K) (a (.l p) f h K) t)
def Arz (id : Nat) (a : Ph) : Ph := fun p f h K => a (.l p) f h (Al5 id K)
def A1a (a : Ph) : Ph := fun p f h K => a (.l p) f h (At0 (fun f h => enter cuts J p f h False) K)
def Arx (c : Code) (a : Ph) : Ph := fun p f h K => a (.l p) f h (Zf c (fun l f h => enter cuts J (.lab p l) f h False) K)
def Bcg (id : Nat) (ops : List Oper) (d : Bool) : Ph := fun _ f h K => Bch E call pls id ops d f h (fun f h => K .normal f h)
def Ary (g : Operand) (ps : Array Tmp) (as bd : Code) : Ph := fun _ f h K => Ar9 E call ⟨ps.toList, as, bd, pls, nOf pls⟩ (eval' E g f) (Oa (Xy pls) f) h (fun x h => An8 x (.normal :: Bgf (Ao0 bd)) (fun y => K y f h))
def Oo (a : Ph) : Ph := fun p f h K => enter cuts J p f h (a p f h K)
def Zn (c : Code) : Ph := Code.rec (motive := fun _ => Ph)
 (Oo cuts J (fun _ f h K => K .normal f h)) (fun id ops d => Oo cuts J (Bcg E call pls id ops.toList d)) (fun _ _ a b => Oo cuts J (Bcf a b)) (fun c _ _ a b => Oo cuts J (A1b E c a b)) (fun id _ a => Oo cuts J (Arz id a)) (fun _ a => Oo cuts J (A1a cuts J a))
 (fun g ps as bd _ _ => Oo cuts J (Ary E call pls g ps as bd)) (fun id => Oo cuts J (fun _ f h K => K (.exit id) f h)) (fun c a => Oo cuts J (Arx cuts J c a)) (fun _ => Oo cuts J (fun _ f h K => K .normal f h)) (fun l => Oo cuts J (fun _ f h K => K (.goto l) f h)) (Oo cuts J (fun _ f h K => K .ret f h)) (fun _ => fun _ _ _ _ => False) c
def A08 (c : Code) : Ph := Code.rec (motive := fun _ => Ph)
 (fun _ f h K => K .normal f h) (fun id ops d => Bcg E call pls id ops.toList d) (fun a b _ _ => Bcf (Zn E call pls cuts J a) (Zn E call pls cuts J b)) (fun c a b _ _ => A1b E c (Zn E call pls cuts J a) (Zn E call pls cuts J b)) (fun id a _ => Arz id (Zn E call pls cuts J a)) (fun a _ => A1a cuts J (Zn E call pls cuts J a))
 (fun g ps as bd _ _ => Ary E call pls g ps as bd) (fun id => fun _ f h K => K (.exit id) f h) (fun c _ => Arx cuts J c (Zn E call pls cuts J c)) (fun _ => fun _ f h K => K .normal f h) (fun l => fun _ f h K => K (.goto l) f h) (fun _ f h K => K .ret f h) (fun _ => fun _ _ _ _ => False) c
abbrev CK := Option (Code × KX')
def ckL (p : Pos) (c : Code) (K : KX') : CK := Code.rec (motive := fun _ => CK) none (fun _ _ _ => none) (fun a b _ _ => some (a, A3e (Zn E call pls cuts J b (.r p)) K)) (fun _ a _ _ _ => some (a, K)) (fun id a _ => some (a, Al5 id K))
 (fun a _ => some (a, At0 (fun f h => enter cuts J p f h False) K)) (fun _ _ _ _ _ _ => none) (fun _ => none) (fun a _ => some (a, Zf a (fun l f h => enter cuts J (.lab p l) f h False) K)) (fun _ => none) (fun _ => none) none (fun _ => none) c
def ckR (c : Code) (K : KX') : CK := Code.rec (motive := fun _ => CK) none (fun _ _ _ => none) (fun _ b _ _ => some (b, K)) (fun _ _ b _ _ => some (b, K)) (fun _ _ _ => none)
 (fun _ _ => none) (fun _ _ _ _ _ _ => none) (fun _ => none) (fun _ _ => none) (fun _ => none) (fun _ => none) none (fun _ => none) c
def A1x (p : Pos) (n : Nat) (c : Code) (K : KX') : CK := Code.rec (motive := fun _ => CK) none (fun _ _ _ => none) (fun _ _ _ _ => none) (fun _ _ _ _ _ => none) (fun _ _ _ => none)
 (fun _ _ => none) (fun _ _ _ _ _ _ => none) (fun _ => none) (fun a _ => Option.rec none (fun r => some (r, Zf a (fun l f h => enter cuts J (.lab p l) f h False) K)) (findLabel a n)) (fun _ => none) (fun _ => none) none (fun _ => none) c
def Vj (c0 : Code) (K0 : KX') (p : Pos) : CK := Pos.rec (some (c0, K0))
 (fun p ih => Option.rec none (fun q => ckL E call pls cuts J p q.1 q.2) ih) (fun _ ih => Option.rec none (fun q => ckR q.1 q.2) ih) (fun p n ih => Option.rec none (fun q => A1x cuts J p n q.1 q.2) ih) p
def Hx (c0 : Code) (K0 : KX') (p : Pos) (f : FT) (h : H) : Prop := Option.rec False (fun q => A08 E call pls cuts J q.1 p f h q.2) (Vj E call pls cuts J c0 K0 p)
def noJ : Jump := fun _ _ _ => False
def Blx (l : P) (k : KV) : KX' := fun x _ h => Aww (h.at l) (fun f s _ _ => AX.rec (h.Px l (.loop f s .ready .normal) (fun h => k (.bool true) h)) (fun id => h.Px l (.loop f s .done (.exit id)) (fun h => k (.bool false) h))
 (fun t => h.Px l (.loop f s .done (.goto t)) (fun h => k (.bool false) h)) (h.Px l (.loop f s .done .ret) (fun h => k (.bool false) h)) x)
def Bj0 (l : P) (s : LpS) (k : KV) : KX' := fun x f h => AX.rec (Aww (h.at l) (fun f' s' st pd => Bool.rec Ak (h.Px l (.loop f' s' .busy pd) (fun h => Zn E call s.pls [] noJ s.body .root f h (Blx l k))) (isReady st))) (fun _ => False) (fun _ => False) False x
def A2g (chk : LpS → Bool) (l : P) (args : List AV) (h : H) (k : KV) : Prop := Aww (h.at l) (fun f s _ _ => Bool.rec Ak (Zn E call s.pls [] noJ s.assign .root (Arw s.params args f) h (Bj0 E call l s k)) (Ai (chk s) (Nat.beq (len args) (len s.params))))
def Aj9 (chk : LpS → Bool) (n : Nat) (args : List AV) (h : H) (k : KV) : Prop := Bool.rec Ak (A2g E call chk (pFs 64 n) args h k) (Nat.beq (P.nat (pFs 64 n)) n)
def A3i (f : FT) (h : H) (r : ResultVar) (k : AV → Prop) : Prop := ResultVar.rec (fun t => k (f t)) (fun a t => Acq E t (f a) h k) r
def Ace (f : FT) (h : H) (rs : List ResultVar) : (List AV → Prop) → Prop := List.rec (motive := fun _ => (List AV → Prop) → Prop) (fun k => k []) (fun r _ ih k => A3i E f h r (fun v => ih (fun l => k (v :: l)))) rs
def Ahg (l : List AV) : AV := List.rec (.tuple []) (fun v r _ => List.rec v (fun _ _ _ => .tuple (v :: r)) r) l
def Gp (rs : List ResultVar) (k : KV) : KX' := fun x f h => AX.rec (Ace E f h rs (fun l => k (Ahg l) h)) (fun _ => False) (fun _ => False) (Ace E f h rs (fun l => k (Ahg l) h)) x
end
end Go.Den
namespace Go.Den
open Go.RowKit
theorem Bei (n : Nat) (K : Nat → Prop) : fN n K = K n := rfl
theorem As (n : Int) (K : Int → Prop) : fI n K = K n := by cases n <;> rfl
theorem Eh : ¬ Ak := fun h => h
theorem Aor {a b : IntKind} (h : Ai1 a b = true) : a = b := by cases a <;> cases b <;> first | rfl | cases h
theorem Ru {k : IntKind} {v : AV} {K : Int → Prop} (h : asI k v K) : ∃ n, v = .int k n ∧ K n := by
 cases v <;> try exact (Eh h).elim
 rename_i j n
 have h : (Bool.rec Ak (K n) (Ai1 k j) : Prop) := h
 cases hk : Ai1 k j with
 | false => rw [hk] at h; exact (Eh h).elim
 | true => rw [hk] at h; cases Aor hk; exact ⟨n, rfl, by assumption⟩
theorem Vs {v : AV} {K : Int → Prop} (h : Aq6 v K) : ∃ k n, v = .int k n ∧ K n := by
 cases v <;> first | exact (Eh h).elim | exact ⟨_, _, rfl, h⟩
theorem Gt {v : AV} {K : Bool → Prop} (h : asB v K) : ∃ b, v = .bool b ∧ K b := by
 cases v <;> first | exact (Eh h).elim | exact ⟨_, rfl, h⟩
theorem Ku {v : AV} {K : Nat → Nat → Prop} (h : asS v K) : ∃ l c, v = .str l c ∧ K l c := by
 cases v <;> first | exact (Eh h).elim | exact ⟨_, _, rfl, h⟩
theorem Lv {v : AV} {K : P → Nat → Prop} (h : asP v K) : ∃ b o, v = .ptr b o ∧ K b o := by
 cases v <;> first | exact (Eh h).elim | exact ⟨_, _, rfl, h⟩
theorem Vt {v : AV} {K : List AV → Prop} (h : asG v K) : ∃ cs, v = .agg cs ∧ K cs := by
 cases v <;> first | exact (Eh h).elim | exact ⟨_, rfl, h⟩
theorem Ape {v : AV} {K : List AV → Prop} (h : asT v K) : ∃ cs, v = .tuple cs ∧ K cs := by
 cases v <;> first | exact (Eh h).elim | exact ⟨_, rfl, h⟩
theorem Awx {v : AV} {K : Fn → List AV → List AV → Prop} (h : Bha v K) : ∃ fn a c, v = .func fn a c ∧ K fn a c := by
 cases v <;> first | exact (Eh h).elim | exact ⟨_, _, _, rfl, h⟩
theorem Vr {o : Ob FT} {K : (Nat → AV) → LpS → LoopState → AX → Prop} (h : Aww o K) : ∃ f s st pd, o = .loop f s st pd ∧ K f s st pd := by
 cases o <;> first | exact (Eh h).elim | exact ⟨_, _, _, _, rfl, h⟩
theorem Aoc {v : AV} {K : Prop} (h : one v K) : v.one = true ∧ v.cells = [v] ∧ K := by
 cases v <;> first | exact (Eh h).elim | exact ⟨rfl, rfl, h⟩
theorem No {α : Type} {o : Option α} {K : α → Prop} (h : oV o K) : ∃ v, o = some v ∧ K v := by
 cases o with
 | none => exact h.elim
 | some v => exact ⟨v, rfl, h⟩
theorem Ml {n : Int} {K : Nat → Prop} (h : Ci n K) : ∃ m, n = Int.ofNat m ∧ K m := by
 cases n with
 | ofNat m => exact ⟨m, rfl, h⟩
 | negSucc m => exact h.elim
theorem Aae {v : AV} {K : Nat → Prop} (h : Ak1 v K) : ∃ m, Bg v = some m ∧ K m := by
 obtain ⟨k, n, rfl, h⟩ := Vs h
 obtain ⟨m, rfl, h⟩ := Ml h
 exact ⟨m, rfl, h⟩
theorem Yh {c : Bool} {K : Prop} (h : (Bool.rec False K c : Prop)) : c = true ∧ K := by
 cases c with
 | false => exact h.elim
 | true => exact ⟨rfl, h⟩
theorem Fg {c : Bool} {K : Prop} (h : (Bool.rec Ak K c : Prop)) : c = true ∧ K := by
 cases c with
 | false => exact (Eh h).elim
 | true => exact ⟨rfl, h⟩
theorem Aid {c : Bool} {K : Prop} (h : (Bool.rec K False c : Prop)) : c = false ∧ K := by
 cases c with
 | true => exact h.elim
 | false => exact ⟨rfl, h⟩
theorem At1 {v : AV} {K : Nat → Prop} (h : Ef v K) : (v = .Ad ∧ K 0) ∨ ∃ b o n z t, v = .slice b o n z t ∧ K n := by
 cases v <;> first | exact (Eh h).elim | exact .inl ⟨rfl, h⟩ | exact .inr ⟨_, _, _, _, _, rfl, h⟩
theorem Aqk {sz i : Nat} {v : AV} {K : AV → Prop} (h : Ca sz i v K) : ∃ b o n t, v = .slice b o n sz t ∧ Nat.ble (Nat.add i 1) n = true ∧ K (.ptr b (Nat.add o (Nat.mul i sz))) := by
 cases v <;> try exact (Eh h).elim
 rename_i b o n z t
 obtain ⟨hc, h⟩ := Fg (show (Bool.rec Ak (fN (Nat.add o (Nat.mul i sz)) (fun q => K (.ptr b q))) (Ai (Nat.ble (Nat.add i 1) n) (Nat.beq sz z)) : Prop) from h)
 obtain ⟨h1, h2⟩ := Ag hc
 have e := Bh h2
 subst e
 exact ⟨b, o, n, t, rfl, h1, by assumption⟩
theorem Bdk (E : Env) (k : KV) (o : Option (AV × H)) : oK o k = Dm (CP E) k o := rfl
theorem Ae (k : KV) (v : AV) (h : H) : oK (some (v, h)) k = k v h := by
 obtain ⟨m, n⟩ := h
 show Cb v (fun v => Jf m (fun m => k v ⟨m, n⟩)) = _
 rw [Cd, Ic]
theorem Ato {k : KV} {o : Option (AV × H)} (h : oK o k) : ∃ v h', o = some (v, h') ∧ k v h' := by
 cases o with
 | none => exact h.elim
 | some p => obtain ⟨v, h'⟩ := p; rw [Ae] at h; exact ⟨v, h', rfl, h⟩
section
variable {E : Env}
theorem A0h {d : TypeDesc} {v : AV} {K : AV → Prop} (h : coD d v K) : K v := by
 unfold coD at h
 split at h
 · obtain ⟨n, rfl, h2⟩ := Ru h; exact h2
 · obtain ⟨b, rfl, h2⟩ := Gt h; exact h2
 · obtain ⟨l, c, rfl, h2⟩ := Ku h; exact h2
 · exact h
theorem Vk {t : TypeId} {v : AV} {K : AV → Prop} (h : coK E t v K) : K v := by
 unfold coK at h
 split at h
 · exact A0h h
 · exact h
theorem Aba {op : BinOp} {k : IntKind} {a b : Int} {g : Nat → Nat → Nat} (hg : ∀ x y, Ajv op k x y = some (.int k (.ofNat (g x y)))) {K : AV → Prop} (h : Ab2 g k a b (fun n => K (.int k n))) : ∃ v, Aju op k a b = some v ∧ K v := by
 obtain ⟨x, rfl, h⟩ := Ml h
 obtain ⟨y, rfl, h⟩ := Ml h
 obtain ⟨hc, h⟩ := Yh h
 refine ⟨_, ?_, h⟩
 show (Bool.rec none (Ajv op k x y) (Ai (Nat.ble x (intMax k)) (Nat.ble y (intMax k))) : Option AV) = _
 rw [hc, hg]
theorem Aws {op : BinOp} {k : IntKind} {a b : Int} {K : AV → Prop} (h : bI op k a b K) : ∃ v, Abb op k a b = some v ∧ K v := by
 cases op <;> simp only [bI] at h
 case add => rw [As] at h; exact ⟨_, rfl, h⟩
 case sub => rw [As] at h; exact ⟨_, rfl, h⟩
 case mul => rw [As] at h; exact ⟨_, rfl, h⟩
 case quo =>
  obtain ⟨hc, h⟩ := Aid h
  rw [As] at h
  refine ⟨_, ?_, h⟩
  show A5n k a b = _
  unfold A5n; rw [hc]; rfl
 case rem =>
  obtain ⟨hc, h⟩ := Aid h
  rw [As] at h
  refine ⟨_, ?_, h⟩
  show A5l k a b = _
  unfold A5l; rw [hc]
 case and => exact Aba (fun _ _ => rfl) h
 case or => exact Aba (fun _ _ => rfl) h
 case xor => exact Aba (fun _ _ => rfl) h
 case shl =>
  obtain ⟨m, rfl, h2⟩ := Ml h
  rw [As] at h2
  exact ⟨_, rfl, h2⟩
 case shr =>
  obtain ⟨m, rfl, h2⟩ := Ml h
  rw [As] at h2
  exact ⟨_, rfl, h2⟩
 case eql => exact ⟨_, rfl, h⟩
 case neq => exact ⟨_, rfl, h⟩
 case lss => exact ⟨_, rfl, h⟩
 case leq => exact ⟨_, rfl, h⟩
 case gtr => exact ⟨_, rfl, h⟩
 case geq => exact ⟨_, rfl, h⟩
theorem A9k {op : BinOp} {l c m d : Nat} {K : AV → Prop} (h : bS op l c m d K) : ∃ v, Agy op l c m d = some v ∧ K v := by
 cases op <;> simp only [bS] at h
 case add =>
  obtain ⟨hc, h⟩ := Yh h
  refine ⟨_, ?_, h⟩
  show (Bool.rec none _ (Nat.ble (Nat.add l m) (intMax .i64)) : Option AV) = _
  rw [hc]
 all_goals exact ⟨_, rfl, h⟩
theorem Awo {op : BinOp} {t : TypeId} {x y : AV} {K : AV → Prop} (h : Awp E op t x y K) : ∃ v, Ok E op t x y = some v ∧ K v := by
 unfold Awp at h
 split at h
 · unfold A9h at h
   split at h
   · obtain ⟨a, rfl, h2⟩ := Ru h
     clear h
     unfold A9l at h2
     rename_i k _
     cases hs : Aoo op with
     | true =>
      rw [hs] at h2
      obtain ⟨j, b, rfl, h3⟩ := Vs h2
      obtain ⟨v, hv, h4⟩ := Aws h3
      refine ⟨v, ?_, h4⟩
      show (Bool.rec none (Abb op k a b) (sameKind op k j) : Option AV) = _
      have : sameKind op k j = true := by cases op <;> first | rfl | cases hs
      rw [this]; exact hv
     | false =>
      rw [hs] at h2
      obtain ⟨b, rfl, h3⟩ := Ru h2
      obtain ⟨v, hv, h4⟩ := Aws h3
      refine ⟨v, ?_, h4⟩
      show (Bool.rec none (Abb op k a b) (sameKind op k k) : Option AV) = _
      have : sameKind op k k = true := by cases op <;> first | rfl | exact decide_eq_true rfl
      rw [this]; exact hv
   · obtain ⟨l, c, rfl, h2⟩ := Ku h
     obtain ⟨m, d, rfl, h3⟩ := Ku h2
     obtain ⟨v, hv, h4⟩ := A9k h3
     exact ⟨v, hv, h4⟩
   · exact No h
 · exact h.elim
theorem Awn {op : BinOp} {t : TypeId} {ox oy : Operand} {x y : AV} {K : AV → Prop} (h : Aq2 E op t ox oy x y K) : ∃ v, Ajw E op t ox oy x y = some v ∧ K v := by
 unfold Aq2 at h
 unfold Ajw
 cases ha : Al9 E op t ox oy with
 | false => rw [ha] at h; exact Awo h
 | true =>
  rw [ha] at h
  have h : oV (Al6 E op t x y) K := h
  show ∃ v, Al6 E op t x y = some v ∧ K v
  cases hb : Al6 E op t x y with
  | none => rw [hb] at h; exact h.elim
  | some v => rw [hb] at h; exact ⟨v, rfl, h⟩
theorem Ax9 {op : UnOp} {x : AV} {K : AV → Prop} (h : un2 op x K) : ∃ v, unA op x = some v ∧ K v := by
 unfold un2 at h
 split at h
 · obtain ⟨b, rfl, h2⟩ := Gt h
   refine ⟨_, rfl, ?_⟩
   cases b <;> exact h2
 · exact No h
end
end Go.Den
namespace Go.Den
open Go.RowKit
section
variable {E : Env} {call : CF} {f : FT} {h : H} {k : KV}
theorem Hs {o : Option (AV × H)} {v : AV} {h' : H} (e : o = some (v, h')) (hk : k v h') : Dm (CP E) k o := by
 rw [e, ← Bdk, Ae]; exact hk
theorem Qm {l : List Operand} : Hh E f l = l.map fun x => eval (CP E) x f := by
 induction l with
 | nil => rfl
 | cons x l ih => show eval' E x f :: Hh E f l = _; rw [ih]; rfl
theorem Aq9 {e : TypeId} (hg : Amd E e h k) : Dm (CP E) k (Ym e (E.ty e) h) := by
 unfold Amd at hg
 split at hg
 · rename_i i hi
   rw [Rf] at hg
   refine Hs ?_ hg
   rw [hi]; rfl
 · exact hg.elim
theorem Aip {t : TypeId} {a : AV} (hg : Acq E t a h (fun v => k v h)) : (Xv.rec False (fun b off => Option.rec False (fun i => Su (CP E) h k b off i) (E.ty t)) (Sn a) : Prop) := by
 unfold Acq at hg
 split at hg
 · rename_i i hi
   split at hg
   · rename_i ha
     obtain ⟨b, o, rfl, hg⟩ := Lv hg
     show (Option.rec False (fun i => Su (CP E) h k b o i) (E.ty t) : Prop)
     rw [hi]
     show (Bool.rec _ (h.Ix b o i.size False (fun l => k (.agg l) h)) i.agg : Prop)
     rw [ha]; exact hg
   · rename_i ha
     obtain ⟨b, o, rfl, hg⟩ := Lv hg
     show (Option.rec False (fun i => Su (CP E) h k b o i) (E.ty t) : Prop)
     rw [hi]
     show (Bool.rec (h.Hi b o False (fun v => k v h)) _ i.agg : Prop)
     rw [ha]; exact hg
 · exact hg.elim
theorem Apn {t : TypeId} {a v : AV} (hg : Aki E t a v h (fun h => k .undef h)) : (Xv.rec False (fun b off => Option.rec False (fun i => Cb v (fun v => Nh (CP E) h k b off v i)) (E.ty t)) (Sn a) : Prop) := by
 unfold Aki at hg
 split at hg
 · rename_i i hi
   split at hg
   · obtain ⟨b, o, rfl, hg⟩ := Lv hg
     obtain ⟨cs, rfl, hg⟩ := Vt hg
     obtain ⟨hc, hg⟩ := Fg hg
     show (Option.rec False (fun i => Cb (.agg cs) (fun v => Nh (CP E) h k b o v i)) (E.ty t) : Prop)
     rw [hi]
     show Cb (.agg cs) (fun v => Nh (CP E) h k b o v i)
     rw [Cd]
     show (Bool.rec False (h.Gn b o cs False (fun h => k .undef h)) (Ai (Nat.beq (len cs) i.size) (Nat.ble 1 i.size)) : Prop)
     rw [hc]; exact hg
   · split at hg
     · rename_i hs
       obtain ⟨b, o, rfl, hg⟩ := Lv hg
       obtain ⟨h1, h2, hg⟩ := Aoc hg
       show (Option.rec False (fun i => Cb v (fun v => Nh (CP E) h k b o v i)) (E.ty t) : Prop)
       rw [hi]
       show Cb v (fun v => Nh (CP E) h k b o v i)
       rw [Cd]
       show (Bool.rec False (h.Gn b o v.cells False (fun h => k .undef h)) (Ai (Nat.beq (len v.cells) i.size) (Nat.ble 1 i.size)) : Prop)
       rw [h2, Bh hs]; exact hg
     · exact hg.elim
 · exact hg.elim
theorem A0u {e : TypeId} {v : AV} (hg : A9e E e v h k) : Cb v (fun v => (Bool.rec False (h.Gg (rowOf e v.cells) (fun b h => k (.ptr b 0) h)) (Nat.ble 1 (len v.cells)) : Prop)) := by
 rw [Cd]
 unfold A9e at hg
 split at hg
 · split at hg
   · obtain ⟨cs, rfl, hg⟩ := Vt hg
     exact hg
   · obtain ⟨h1, h2, hg⟩ := Aoc hg
     rw [h2]; exact hg
 · exact hg.elim
theorem Ali {t : TypeId} {x : AV} {i : Nat} (hg : Ux E t x i (fun v => k v h)) : (Xv.rec False (fun b off => Option.rec False (fun o => k (.ptr b (Nat.add off o)) h) (Wm E t i)) (Sn x) : Prop) := by
 unfold Ux at hg
 split at hg
 · rename_i o ho
   obtain ⟨b, q, rfl, hg⟩ := Lv hg
   show (Option.rec False (fun o => k (.ptr b (Nat.add q o)) h) (Wm E t i) : Prop)
   rw [ho]; exact hg
 · exact hg.elim
theorem Aqh {t : TypeId} {x : AV} {i : Nat} (hg : Aax E t x i (fun v => k v h)) : Dm (CP E) k (Rj E t x i h) := by
 unfold Aax at hg
 split at hg
 · rename_i p hp
   unfold Aoy at hp
   split at hp <;> try cases hp
   rename_i ti hti
   split at hp <;> try cases hp
   rename_i fs hfs
   split at hp <;> try cases hp
   rename_i q hq
   split at hp <;> cases hp
   rename_i fi hfi
   have key : ∀ cs r, part E q.2 cs q.1 = some r → Rj E t (.agg cs) i h = some (r, h) := fun cs r hr => by
    show (Option.rec none (fun ti => match ti.desc with
     | .struct fs => Option.rec none (fun p => Fe h (part E p.2 cs p.1)) (Mo fs.toList i)
     | _ => none) (E.ty t) : Option (AV × H)) = _
    rw [hti]
    simp only [hfs, hq]
    show Fe h (part E q.2 cs q.1) = _
    rw [hr]; rfl
   split at hg
   · rename_i ha
     have ha : fi.agg = true := ha
     obtain ⟨cs, rfl, hg2⟩ := Vt hg
     refine Hs (key cs (.agg (Ij fi.size (Qo q.1 cs))) ?_) hg2
     show (Option.rec none (fun i => Bool.rec (Ed cs q.1) (some (.agg (Ij i.size (Qo q.1 cs)))) i.agg) (E.ty q.2) : Option AV) = _
     rw [hfi]
     show (Bool.rec (Ed cs q.1) (some (.agg (Ij fi.size (Qo q.1 cs)))) fi.agg : Option AV) = _
     rw [ha]
   · rename_i ha
     have ha : fi.agg = false := ha
     obtain ⟨cs, rfl, hg2⟩ := Vt hg
     obtain ⟨v, hv, hg3⟩ := No hg2
     refine Hs (key cs v ?_) hg3
     show (Option.rec none (fun i => Bool.rec (Ed cs q.1) (some (.agg (Ij i.size (Qo q.1 cs)))) i.agg) (E.ty q.2) : Option AV) = _
     rw [hfi]
     show (Bool.rec (Ed cs q.1) (some (.agg (Ij fi.size (Qo q.1 cs)))) fi.agg : Option AV) = _
     rw [ha]; exact hv
 · exact hg.elim
theorem Alc {t : TypeId} {x i : AV} (hg : Lp E t x i h k) : Dm (CP E) k (Cy E t x (Bg i) h) := by
 unfold Lp at hg
 split at hg
 · rename_i e he
   split at hg
   · rename_i ei hei
     obtain ⟨m, hm, hg⟩ := Aae hg
     obtain ⟨b, o, n, q, rfl, h1, hg⟩ := Aqk hg
     refine Hs ?_ hg
     rw [hm]
     show Ri E t b o n ei.size m h = _
     unfold Ri An
     rw [he]
     show (Option.rec none (fun ti => Bool.rec none _ _) (E.ty e) : Option (AV × H)) = _
     rw [hei]
     show (Bool.rec none (some (.ptr b (Nat.add o (Nat.mul m ei.size)), h)) (Ai (Nat.ble (Nat.add m 1) n) (Nat.beq ei.size ei.size)) : Option (AV × H)) = _
     rw [h1, Nat.beq_refl]; rfl
   · exact hg.elim
 · exact hg
theorem Aqc {t : TypeId} {x i : AV} (hg : Qh E t x i h k) : Dm (CP E) k (Lr E t x (Bg i) h) := by
 unfold Qh at hg
 split at hg
 · rename_i ti hti
   split at hg
   · rename_i hs
     obtain ⟨l, c, rfl, hg⟩ := Ku hg
     obtain ⟨m, hm, hg⟩ := Aae hg
     obtain ⟨hc, hg⟩ := Yh hg
     refine Hs ?_ hg
     rw [hm]
     show (Option.rec none (fun ti => Bool.rec none (Bool.rec none (some (.int .u8 (.ofNat (Fq c m)), h)) (Nat.ble (Nat.add m 1) l)) (isStr ti.desc)) (E.ty t) : Option (AV × H)) = _
     rw [hti]
     show (Bool.rec none (Bool.rec none (some (.int .u8 (.ofNat (Fq c m)), h)) (Nat.ble (Nat.add m 1) l)) (isStr ti.desc) : Option (AV × H)) = _
     rw [hs, hc]
   · exact hg
 · exact hg.elim
theorem A55 {i : Nat} {x : AV} (hg : ext i x (fun v => k v h)) : Dm (CP E) k (Mr x i h) := by
 obtain ⟨cs, rfl, hg⟩ := Ape hg
 obtain ⟨v, hv, hg⟩ := No hg
 refine Hs ?_ hg
 show Fe h (Ed cs i) = _
 rw [hv]; rfl
theorem Azq {ats : List TypeId} {x : AV} (hg : Ap8 E ats x h k) : Dm (CP E) k (Vq E ats x h) := by
 unfold Ap8 at hg
 split at hg
 · rename_i t ht
   split at hg
   · rename_i ti hti
     have e : Vq E ats x h = At2 E ti.desc x h := by
      unfold Vq; rw [ht]
      show (Option.rec none (fun ti => At2 E ti.desc x h) (E.ty t) : Option (AV × H)) = _
      rw [hti]
     unfold Ait at hg
     split at hg
     · rename_i hd
       obtain ⟨l, c, rfl, hg2⟩ := Ku hg
       exact Hs (e.trans (by rw [hd]; rfl)) hg2
     · rename_i hd
       rcases At1 hg with ⟨rfl, hg2⟩ | ⟨b, o, n, z, q, rfl, hg2⟩
       · exact Hs (e.trans (by rw [hd]; rfl)) hg2
       · exact Hs (e.trans (by rw [hd]; rfl)) hg2
     · exact hg
   · exact hg.elim
 · exact hg.elim
theorem Ajr {b : Builtin} {ats : List TypeId} {args : List AV} (hg : Jt E b ats args h k) : Dm (CP E) k (Ao E b ats args h) := by
 unfold Jt at hg
 split at hg
 · split at hg
   · exact Azq hg
   · exact hg.elim
 · exact hg
theorem Avs {s d : TypeId} {x : AV} (hg : Vh E s d x h k) : Dm (CP E) k (Fz E h s d x) := by
 unfold Vh at hg
 split at hg
 · rename_i ti hti
   unfold Aa3 at hg
   split at hg
   · rename_i kd hd
     split at hg
     · obtain ⟨j, n, rfl, hg2⟩ := Vs hg
       rw [As] at hg2
       refine Hs ?_ hg2
       unfold Fz; rw [hti]
       show Ao7 E h s ti.desc (.int j n) = _
       rw [hd]; rfl
     · exact hg
   · exact hg
 · exact hg.elim
theorem Ajs {o : Option AV} {d : Nat} {K : Nat → Prop} (hg : Aqz o d K) : ∃ n, bound d (o.map Bg) = some n ∧ K n := by
 cases o with
 | none => exact ⟨d, rfl, hg⟩
 | some v => obtain ⟨m, hm, hg⟩ := Aae hg; exact ⟨m, hm, hg⟩
theorem Wp {o : Option Operand} : Ql (CP E) f o = (o.map fun x => eval' E x f).map Bg := by cases o <;> rfl
theorem Apt {t : TypeId} {x : AV} {lo hi mx : Option AV} (hg : Ly E t x lo hi mx h k) :
 Dm (CP E) k (Option.rec none (fun m => Fe h (Kb E h t x (lo.map Bg) (hi.map Bg) m)) (Qe (mx.map Bg))) := by
 unfold Ly at hg
 split at hg
 · rename_i ti hti
   split at hg
   · rename_i hs
     split at hg
     · obtain ⟨l, c, rfl, hg⟩ := Ku hg
       obtain ⟨n, hn, hg⟩ := Ajs hg
       obtain ⟨m, hm, hg⟩ := Ajs hg
       obtain ⟨hc, hg⟩ := Yh hg
       refine Hs ?_ hg
       show Fe h (Kb E h t (.str l c) (lo.map Bg) (hi.map Bg) none) = _
       have hd : ti.desc = .string := by
        cases hdd : ti.desc <;> rw [hdd] at hs <;> first | rfl | cases hs
       unfold Kb
       rw [hti]
       show Fe h (Zd E h ti.desc (.str l c) (lo.map Bg) (hi.map Bg) none) = _
       rw [hd]
       show Fe h (Hv l (lo.map Bg) (hi.map Bg) (fun lo h => Alq c l lo h)) = _
       unfold Hv
       rw [hn]
       show Fe h (Option.rec none (fun lo => Alq c l lo n) (bound 0 (lo.map Bg))) = _
       rw [hm]
       show Fe h (Bool.rec none (some (.str (Nat.sub n m) (Vy c m n))) (Ai (Nat.ble m n) (Nat.ble n l))) = _
       rw [hc]; rfl
     · exact hg.elim
   · exact hg
 · exact hg.elim
theorem Aih {t : TypeId} {x : AV} (hg : Aag E t x h k) : Dm (CP E) k (Mp E t x h) := by
 unfold Aag at hg
 split at hg
 · rename_i ti hti
   split at hg
   · exact hg.elim
   · rename_i hi
     refine Hs ?_ hg
     unfold Mp; rw [hti]
     show (Bool.rec (some (.iface t x, h)) none (isIface ti.desc) : Option (AV × H)) = _
     rw [hi]
 · exact hg.elim
theorem Aay {o : Op} (hg : Dp E o call f h k) : exec o (CP E) call f h k := by
 cases o
 case move x => show Cb (eval (CP E) x f) (fun v => k v h); rw [Cd]; exact hg
 case assign x => show Cb (eval (CP E) x f) (fun v => k v h); rw [Cd]; exact hg
 case alloc e => exact Aq9 hg
 case box e x => exact A0u hg
 case load t a => exact Aip hg
 case store t a x => exact Apn hg
 case binOp op t x y q =>
  obtain ⟨v, hv, hg⟩ := Awn (show Aq2 E op t x y (eval' E x f) (eval' E y f) (fun v => k v h) from hg)
  show (Option.rec False (fun v => k v h) (Ajw E op t x y (eval (CP E) x f) (eval (CP E) y f)) : Prop)
  have hv : Ajw E op t x y (eval (CP E) x f) (eval (CP E) y f) = some v := hv
  rw [hv]; exact hg
 case unOp op t x =>
  obtain ⟨v, hv, hg⟩ := Ax9 (show un2 op (eval' E x f) (fun v => k v h) from hg)
  show (Option.rec False (fun v => k v h) (unA op (eval (CP E) x f)) : Prop)
  have hv : unA op (eval (CP E) x f) = some v := hv
  rw [hv]; exact hg
 case convert s d x => exact Avs hg
 case makeInterface t x => exact Aih hg
 case slice t x lo hi mx =>
  have := Apt (show Ly E t (eval' E x f) (lo.map (fun x => eval' E x f)) (hi.map (fun x => eval' E x f)) (mx.map (fun x => eval' E x f)) h k from hg)
  show Dm (CP E) k (Option.rec none (fun m => Fe h (Kb E h t (eval (CP E) x f) (Ql (CP E) f lo) (Ql (CP E) f hi) m)) (Qe (Ql (CP E) f mx)))
  rw [Wp, Wp, Wp]; exact this
 case fieldAddr t x i => exact Ali hg
 case field t x i => exact Aqh hg
 case indexAddr t x i => exact Alc hg
 case index t x i => exact Aqc hg
 case extract x i => exact A55 hg
 case makeFunc fn a b =>
  have hg : k (.func fn (Hh E f a.toList) (Hh E f b.toList)) h := hg
  refine Eq.mpr (Gm (C := CP E) (f := f) a.toList _) ?_
  refine Eq.mpr (Gm (C := CP E) (f := f) b.toList _) ?_
  show k (.func fn (a.toList.map fun x => eval (CP E) x f) (b.toList.map fun x => eval (CP E) x f)) h
  rw [show (a.toList.map fun x => eval (CP E) x f) = Hh E f a.toList from Qm.symm, show (b.toList.map fun x => eval (CP E) x f) = Hh E f b.toList from Qm.symm]; exact hg
 case call c =>
  obtain ⟨callee, args, ats⟩ := c
  cases callee with
  | invoke v name =>
   have hg : Xm (CP E) call (eval (CP E) v f) name (Hh E f args.toList) h k := hg
   show Hw (CP E) f args.toList (fun l => Xm (CP E) call (eval (CP E) v f) name l h k)
   refine Eq.mpr (Gm (C := CP E) (f := f) args.toList _) ?_
   show Xm (CP E) call (eval (CP E) v f) name (args.toList.map fun x => eval (CP E) x f) h k
   rw [show (args.toList.map fun x => eval (CP E) x f) = Hh E f args.toList from Qm.symm]; exact hg
  | builtin b =>
   have hg : Jt E b ats.toList (Hh E f args.toList) h k := hg
   have := Ajr hg
   show Hw (CP E) f args.toList (fun l => Dm (CP E) k (Ao E b ats.toList l h))
   refine Eq.mpr (Gm (C := CP E) (f := f) args.toList _) ?_
   show oK (Ao E b ats.toList (args.toList.map fun x => eval (CP E) x f) h) k
   rw [show (args.toList.map fun x => eval (CP E) x f) = Hh E f args.toList from Qm.symm]; exact this
  | value v =>
   have hg : Ac6 (CP E) call (eval (CP E) v f) (Hh E f args.toList) h k := hg
   show Hw (CP E) f args.toList (fun l => Ac6 (CP E) call (eval (CP E) v f) l h k)
   refine Eq.mpr (Gm (C := CP E) (f := f) args.toList _) ?_
   show Ac6 (CP E) call (eval (CP E) v f) (args.toList.map fun x => eval (CP E) x f) h k
   rw [show (args.toList.map fun x => eval (CP E) x f) = Hh E f args.toList from Qm.symm]; exact hg
 all_goals exact hg
end
end Go.Den
namespace Go.Den
open Go.RowKit
theorem Awv {o : Ob FT} {K : P → Nat → List Nat → Nat → Prop} (h : Bg8 o K) : ∃ m a b c, o = .Ox m a b c ∧ K m a b c := by
 cases o <;> first | exact (Eh h).elim | exact ⟨_, _, _, _, rfl, h⟩
theorem Ac4 {K : Ent → Prop} : ∀ {l : List Ent}, Ao8 K l → ∀ e ∈ l, K e
 | [], _, e, he => by cases he
 | [a], h, e, he => by rw [List.mem_singleton.1 he]; exact h
 | a :: b :: l, h, e, he => by
  obtain ⟨h1, h2⟩ := (show And (K a) (Ao8 K (b :: l)) from h)
  rcases List.mem_cons.1 he with rfl | he
  · exact h1
  · exact Ac4 h2 e he
theorem Azm (n : Nat) : ∀ l : List Nat, Aii n l = l.toArray.contains n := by
 intro l
 have key : Aii n l = true ↔ n ∈ l := by
  induction l with
  | nil => simp [Aii]
  | cons x l ih =>
   have h : Aii n (x :: l) = (Bool.rec (Aii n l) true (Nat.beq x n) : Bool) := rfl
   rw [h, Ex]
   by_cases e : x = n
   · rw [decide_eq_true e]; simp [e]
   · rw [decide_eq_false e]
     show Aii n l = true ↔ _
     rw [ih]; simp [Ne.symm e]
 rw [Bool.eq_iff_iff, key]
 simp
theorem Af2 {μ : Mu} (seen : List Nat) : ∀ {es : List Ent} {xs : List MapEntry}, EsR μ es xs → EsR μ (leftOf seen es) (xs.filter fun e => !seen.toArray.contains e.born)
 | [], _, h => by cases (show _ = [] from h); exact (rfl : ([] : List MapEntry) = [])
 | a :: es, _, ⟨x, xs, e, h1, h2, h3, h4⟩ => by
  subst e
  have h : leftOf seen (a :: es) = (Bool.rec (a :: leftOf seen es) (leftOf seen es) (Aii a.2.2 seen) : List Ent) := rfl
  rw [h, Azm, h3, List.filter_cons]
  cases seen.toArray.contains x.born with
  | true => exact Af2 seen h4
  | false => exact ⟨x, _, rfl, h1, h2, h3, Af2 seen h4⟩
theorem Ac9 {μ : Mu} {since : Nat} : ∀ {es : List Ent} {xs : List MapEntry}, EsR μ es xs → Ame since es = true → ∀ x ∈ xs, x.born < since
 | [], _, h, _, x, hx => by cases (show _ = [] from h); cases hx
 | a :: es, _, ⟨y, xs, e, h1, h2, h3, h4⟩, ha, x, hx => by
  subst e
  have ha : (Bool.rec false (Ame since es) (Nat.ble (Nat.add a.2.2 1) since) : Bool) = true := ha
  cases hb : Nat.ble (Nat.add a.2.2 1) since with
  | false => rw [hb] at ha; cases ha
  | true =>
   rw [hb] at ha
   rcases List.mem_cons.1 hx with rfl | hx
   · have : a.2.2 + 1 ≤ since := Bk hb
     rw [h3] at this; exact this
   · exact Ac9 h4 ha x hx
theorem Ac8 {μ : Mu} {n : Nat} : ∀ {es : List Ent} {xs : List MapEntry}, EsR μ es xs → Ag2 n es = true → ∃ x ∈ xs, x.born < n
 | [], _, _, h => by cases h
 | a :: es, _, ⟨y, xs, e, h1, h2, h3, h4⟩, ha => by
  subst e
  have ha : (Bool.rec (Ag2 n es) true (Nat.ble (Nat.add a.2.2 1) n) : Bool) = true := ha
  cases hb : Nat.ble (Nat.add a.2.2 1) n with
  | true =>
   have : a.2.2 + 1 ≤ n := Bk hb
   rw [h3] at this
   exact ⟨y, by simp, this⟩
  | false =>
   rw [hb] at ha
   obtain ⟨x, hx, hl⟩ := Ac8 h4 ha
   exact ⟨x, by simp [hx], hl⟩
theorem EsR.mem {μ : Mu} : ∀ {es : List Ent} {xs : List MapEntry}, EsR μ es xs → ∀ x ∈ xs, ∃ e ∈ es, VR μ e.1 x.key ∧ VR μ e.2.1 x.val ∧ e.2.2 = x.born
 | [], _, h, x, hx => by cases (show _ = [] from h); cases hx
 | a :: es, _, ⟨y, xs, e, h1, h2, h3, h4⟩, x, hx => by
  subst e
  rcases List.mem_cons.1 hx with rfl | hx
  · exact ⟨a, by simp, h1, h2, h3⟩
  · obtain ⟨e, he, hh⟩ := EsR.mem h4 x hx
    exact ⟨e, by simp [he], hh⟩
theorem Aca {P : Program} {w : World} (n : Nat) (hn : 0 < n) : ∃ i w', (choose (.mapNext n)).run P w = .ok i w' ∧ i < n ∧ w'.heap = w.heap ∧ w'.os = w.os ∧ w'.tape = w.tape ∧ w'.output = w.output := by
 rw [run_choose]
 by_cases h : n ≤ 1
 · exact ⟨0, w, by rw [if_pos (by simpa [Question.forced] using h)], hn, rfl, rfl, rfl, rfl⟩
 · exact ⟨(Question.mapNext n).cut (w.tape w.drawn (.mapNext n)), { w with drawn := w.drawn + 1 }, by rw [if_neg (by simpa [Question.forced] using h)], Nat.mod_lt _ hn, rfl, rfl, rfl, rfl⟩
theorem Atq {P : Program} {μ : Mu} {h : H} {w : World} (s : Sim μ h w) {it : AV} {k : KV} (hg : Atr it h k) {vx : Value} {ty : TypeId} (hx : VR μ it vx) :
 ∃ v w' μ' av h', (Instr.next vx false ty).run P w = .ok v w' ∧ Sim μ' h' w' ∧ Cu μ h w μ' h' w' ∧ VR μ' av v ∧ k av h' := by
 obtain ⟨b, o, rfl, hg⟩ := Lv hg
 obtain ⟨ho, hg⟩ := Fg hg
 obtain rfl := Bh ho
 obtain ⟨m, since, seen, stepped, hat, hg⟩ := Awv hg
 obtain ⟨p, hp, hg⟩ := No hg
 obtain ⟨hc, hg⟩ := Fg hg
 obtain ⟨hold, hstep⟩ := Ag hc
 obtain ⟨l, hl, rfl⟩ := hx
 have hob := s.ob b l (by rw [hat]; simp) hl
 rw [hat] at hob
 obtain ⟨lm, hlm, hblk, hoff⟩ := hob
 have hatm : h.at m = .map p.1 p.2 := Ld hp
 have hobm := s.ob m lm (by rw [hatm]; simp) hlm
 rw [hatm] at hobm
 obtain ⟨xs, hblkm, hes⟩ := hobm
 have hleft := Af2 seen hes
 have hall := Ac9 hleft hold
 have hg : (List.rec (k (.tuple [.bool false]) h) (fun e r _ => Ao8 (fun e => h.Px b (.Ox m since (Jy seen [e.2.2]) p.2) (fun h => k (.tuple [.bool true, e.1, e.2.1]) h)) (e :: r)) (leftOf seen p.1) : Prop) := hg
 have hL : (xs.filter fun e => !seen.toArray.contains e.born).toList = xs.toList.filter fun e => !seen.toArray.contains e.born := by simp
 generalize hLd : (xs.filter fun e => !seen.toArray.contains e.born) = L at hL
 have hLold : L.filter (fun e => decide (e.born < since)) = L := by
  rw [Array.filter_eq_self]
  intro x hx
  exact decide_eq_true (hall x (by rw [← hL]; exact hx.val))
 have hLnew : L.filter (fun e => decide (e.born ≥ since)) = #[] := by
  rw [Array.filter_eq_empty_iff]
  intro x hx hd
  have := hall x (by rw [← hL]; exact hx.val)
  have := of_decide_eq_true hd
  omega
 have hcond : ((!seen.toArray.isEmpty && !xs.isEmpty && xs.all (fun e => decide (e.born ≥ stepped))) = true) → False := by
  intro hb
  simp only [Bool.and_eq_true] at hb
  obtain ⟨⟨h1, h2⟩, h3⟩ := hb
  cases hs : Aan seen with
  | true =>
   cases seen with
   | nil => simp at h1
   | cons => cases hs
  | false =>
   rw [hs] at hstep
   have hstep : (Bool.rec (Ag2 stepped p.1) true (Aan p.1) : Bool) = true := hstep
   cases he : Aan p.1 with
   | true =>
    cases hpe : p.1 with
    | nil =>
     rw [hpe] at hes
     have hes : xs.toList = [] := hes
     rw [Array.toList_eq_nil_iff.1 hes] at h2
     simp at h2
    | cons => rw [hpe] at he; cases he
   | false =>
    rw [he] at hstep
    obtain ⟨x, hx, hlt⟩ := Ac8 hes hstep
    have h3 := (Array.all_eq_true_iff_forall_mem.1 h3) x (Array.mem_def.2 hx)
    have := of_decide_eq_true h3
    omega
 have hrun0 : (Instr.next (.pointer (some ⟨l.blk, l.off + 0, none⟩)) false ty).run P w = (do
  match (((if L.isEmpty then #[none] else #[]) ++ (L ++ #[]).map some : Array (Option MapEntry)))[← choose (.mapNext ((if L.isEmpty then #[none] else #[]) ++ (L ++ #[]).map some : Array (Option MapEntry)).size)]? with
  | some (some e) =>
   setObj l.blk (.mapIter (some lm.blk) since (seen.toArray.push e.born) p.2)
   pure (.tuple #[.bool true, e.key, e.val])
  | some none => pure (.tuple #[.bool false])
  | none => stuck "Next: no such candidate" : Sem Value).run P w := by
  unfold Instr.next
  simp only [hoff, Nat.zero_add]
  rw [Aa (Ei hblk (by intros; simp))]
  simp only
  rw [Aa (Ei hblkm (by intros; simp))]
  simp only
  rw [if_neg (fun hh => hcond hh), hLd, hLold, hLnew]
  rfl
 rw [hrun0]
 rw [← hL] at hleft
 cases hle : leftOf seen p.1 with
 | nil =>
  rw [hle] at hg hleft
  have hnil : L = #[] := Array.toList_eq_nil_iff.1 hleft
  obtain ⟨i, w', hr, hi, h1, h2, h3, h4⟩ := Aca (P := P) (w := w) 1 (by omega)
  have hi0 : i = 0 := by omega
  subst hi0
  refine ⟨.tuple #[.bool false], w', μ, .tuple [.bool false], h, ?_, s.heap h1, Cu.heap μ h h1 h2 h3 h4, ⟨_, rfl, _, _, rfl, rfl, rfl⟩, hg⟩
  have hcand : ((if L.isEmpty then #[none] else #[]) ++ (L ++ #[]).map some : Array (Option MapEntry)) = #[none] := by rw [hnil]; simp
  rw [hcand, show (#[none] : Array (Option MapEntry)).size = 1 from rfl]
  rw [Aa hr]
  rfl
 | cons e0 r =>
  rw [hle] at hg hleft
  have hpos : 0 < L.size := by
   obtain ⟨x, xs', e, _⟩ := hleft
   have : L.toList.length = (x :: xs').length := by rw [e]
   simp at this; omega
  have hne : L.isEmpty = false := by simp; intro e; rw [e] at hpos; simp at hpos
  have hcand : ((if L.isEmpty then #[none] else #[]) ++ (L ++ #[]).map some : Array (Option MapEntry)) = L.map some := by
   rw [hne]; simp
  rw [hcand]
  obtain ⟨i, w', hr, hi, h1, h2, h3, h4⟩ := Aca (P := P) (w := w) (L.map some).size (by simpa using hpos)
  have hi' : i < L.size := by simpa using hi
  obtain ⟨e, he, hk1, hk2, hk3⟩ := hleft.mem L[i] (by simp)
  have hke := Ac4 hg e he
  have s1 := s.heap h1
  have hblk' : w'.heap[l.blk]? = some (.mapIter (some lm.blk) since seen.toArray stepped) := by rw [h1]; exact hblk
  obtain ⟨w2, hw2, s2, x2⟩ := s1.putObj (Pr := P) (b := b) (by rw [hat]; rfl) hl hblk' (by intros; simp) (.mapIter (some lm.blk) since (seen.toArray.push L[i].born) p.2) (.Ox m since (Jy seen [e.2.2]) p.2) fun w' hw' => ⟨lm, hlm, by rw [hw', Ol, hk3]; simp, hoff⟩
  rw [Lo] at hke
  refine ⟨.tuple #[.bool true, L[i].key, L[i].val], w2, μ, .tuple [.bool true, e.1, e.2.1], _, ?_, s2, (Cu.heap μ h h1 h2 h3 h4).trans x2, ⟨_, rfl, _, _, rfl, rfl, _, _, rfl, hk1, _, _, rfl, hk2, rfl⟩, hke⟩
  rw [Aa hr]
  have hget : (L.map some)[i]? = some (some L[i]) := by simp [hi']
  rw [hget]
  simp only
  rw [Aa hw2]
  rfl
theorem Aga : Bm9 Beh where
 init l t := by
  show (Option.rec AV.undef (fun v => v) (Ed l t) : AV) = _
  rw [Eg, List.getD_eq_getElem?_getD]
  cases l[t]? <;> rfl
 set f t v u := by
  show (Bool.rec (f u) v (Nat.beq u t) : AV) = _
  rw [Ex]
  by_cases e : u = t
  · rw [if_pos e, decide_eq_true e]
  · rw [if_neg e, decide_eq_false e]; rfl
 force f k := rfl
theorem Hg (f : FT) (d : Nat) (v : AV) (u : Nat) : Af f d v u = if u = d then v else f u := Aga.set f d v u
theorem Xi (f : FT) : ∀ (l : List Nat) (t : Nat), Oa l f t = .top ∨ Oa l f t = f t
 | [], _ => .inl rfl
 | u :: l, t => by
  show Af (Oa l f) u (f u) t = .top ∨ Af (Oa l f) u (f u) t = f t
  rw [Hg]
  by_cases e : t = u
  · rw [if_pos e, e]; exact .inr rfl
  · rw [if_neg e]; exact Xi f l t
section
variable {P : Program} {D : List Deferred}
structure FR (μ : Mu) (N : Nat) (D : List Deferred) (f : FT) (a : Act) : Prop where
 size : N ≤ a.tmps.size
 get : ∀ t, VR μ (f t) (a.tmps.getD t undef)
 defs : a.defers = D
theorem FR.mono {μ μ' : Mu} (h : Mu.le μ μ') {N : Nat} {f : FT} {a : Act} (r : FR μ N D f a) : FR μ' N D f a := ⟨r.size, fun t => VR.mono h _ _ (r.get t), r.defs⟩
theorem Ai5 (ts : Array Value) (d t : Nat) (v : Value) (h : d < ts.size) : (ts.setIfInBounds d v).getD t undef = if t = d then v else ts.getD t undef := by
 simp only [Array.getD_eq_getD_getElem?, Array.getElem?_setIfInBounds]
 by_cases e : d = t
 · subst e; simp [h]
 · rw [if_neg e, if_neg (fun h => e h.symm)]
def Ou (N : Nat) (d : Option Tmp) : Bool := match d with
 | none => true
 | some d => Nat.blt d N
theorem FR.put {μ : Mu} {N : Nat} {f : FT} {a : Act} (r : FR μ N D f a) {d : Option Tmp} (hd : Ou N d = true) {av : AV} {v : Value} (hv : VR μ av v) : FR μ N D (Dk f d av) (a.put d v) := by
 cases d with
 | none => exact r
 | some d =>
  have hd : d < N := by simpa [Ou] using hd
  refine ⟨by simpa [Act.put] using r.size, fun t => ?_, r.defs⟩
  show VR μ (Af f d av t) ((a.tmps.setIfInBounds d v).getD t undef)
  rw [Hg, Ai5 _ _ _ _ (Nat.lt_of_lt_of_le hd r.size)]
  by_cases e : t = d
  · rw [if_pos e, if_pos e]; exact hv
  · rw [if_neg e, if_neg e]; exact r.get t
theorem FR.eval {E : Env} {μ : Mu} {N G : Nat} {f : FT} {a : Act} (r : FR μ N D f a) (gl : Fy μ G) {o : Operand} (ho : Ej G o = true) : VR μ (eval' E o f) (a.eval o) :=
 Yn (C := CP E) gl ho fun t _ => r.get t
def Hj (P : Program) (E : Env) (N G : Nat) (o : Oper) : Bool := Ou N o.dst && Zz P E G o.op
def yb (o : Option Value) : Option Bool := match o with
 | some (.bool b) => some b
 | _ => none
theorem Jb (ops : Array Oper) (ts : Array Value) (j : Nat) : yielded ops ts j = yb (((ops[j]?).bind (·.dst)).bind (ts[·]?)) := rfl
def Live (ops : Array Oper) (gs : List (Nat × Bool × Tmp)) (a : Act) : Prop := ∀ g ∈ gs, ((ops[g.1]?).bind (·.dst)) = some g.2.2 ∧ yb (a.tmps[g.2.2]?) = some g.2.1
def Sh (d : Option Tmp) (gs : List (Nat × Bool × Tmp)) : Bool := match d with
 | none => true
 | some d => gs.all fun g => !Nat.beq g.2.2 d
theorem Act.Ua (a : Act) (d : Option Tmp) (v : Value) : (a.put d v).tmps.size = a.tmps.size := by cases d <;> simp [Act.put]
theorem Jc {a : Act} {d : Option Tmp} {v : Value} {t : Nat} (h : d ≠ some t) : (a.put d v).tmps[t]? = a.tmps[t]? := by
 cases d with
 | none => rfl
 | some d =>
  have : d ≠ t := fun e => h (by rw [e])
  simp [Act.put, Array.getElem?_setIfInBounds_ne this]
theorem Qb {d : Option Tmp} {gs : List (Nat × Bool × Tmp)} (h : Sh d gs = true) : ∀ g ∈ gs, d ≠ some g.2.2 := by
 intro g hg e
 subst e
 have := List.all_eq_true.1 (show gs.all (fun g' => !Nat.beq g'.2.2 g.2.2) = true from h) g hg
 simp at this
theorem Live.put {ops : Array Oper} {gs : List (Nat × Bool × Tmp)} {a : Act} (l : Live ops gs a) {d : Option Tmp} (h : Sh d gs = true) (v : Value) : Live ops gs (a.put d v) := fun g hg =>
 ⟨(l g hg).1, by rw [Jc (Qb h g hg)]; exact (l g hg).2⟩
theorem Kz {a b : Option (Nat × Bool)} (h : Fs a b = true) : a = b := by
 have key : ∀ v w, Fs.Apc v w = true → v = w := by intro v w; cases v <;> cases w <;> simp [Fs.Apc]
 cases a with
 | none => cases b with
  | none => rfl
  | some => cases h
 | some p => cases b with
  | none => cases h
  | some q =>
   obtain ⟨i, v⟩ := p; obtain ⟨j, w⟩ := q
   have h : (Nat.beq i j && Fs.Apc v w) = true := h
   rw [Bool.and_eq_true] at h
   rw [Nat.eq_of_beq_eq_true h.1, key _ _ h.2]
def Ai0 (o : Operand) : Bool := match o with
 | .const _ => true
 | _ => false
def A07 (c : Operand) (gd : Tmp) : Bool := match c with
 | .tmp t => Nat.beq t gd
 | _ => false
def Pz (G : Nat) (gd : Tmp) (w : Bool) (o : Op) : Bool := match o with
 | .pick c x y => A07 c gd && Ej G x && Ej G y && Ai0 (Du w y x)
 | _ => false
def Auu (t : Tmp) (l : List (Option Tmp)) : Bool := l.any fun d => match d with
 | some d => Nat.beq d t
 | none => false
def Ia (P : Program) (E : Env) (N G : Nat) (ops : List Oper) (its : Its) : Option (Nat × Bool) → List (Nat × Bool × Tmp) → List (Option Tmp) → Bool := Its.rec (motive := fun _ => Option (Nat × Bool) → List (Nat × Bool × Tmp) → List (Option Tmp) → Bool)
 (fun _ _ _ => true)
 (fun o _ ih g gs prev => and (and (Hj P E N G o) (and (Fs o.guard g) (Sh o.dst gs))) (ih g gs (o.dst :: prev)))
 (fun j gd w _ pk _ ihb ihr g gs prev => and (and (and (Ou N pk.dst) (and (Fs pk.guard g) (Sh pk.dst gs))) (and (Pz G gd w pk.op) (and (Auu gd prev) (Option.rec false (fun o => Option.rec false (fun d => Nat.beq d gd) o.dst) (Ed ops j)))))
  (and (ihb (some (j, w)) ((j, w, gd) :: gs) []) (ihr g gs (pk.dst :: prev)))) its
def Ee (l : List Oper) (a : Act) : Act := l.foldl (fun a o => a.put o.dst undef) a
theorem Jo (o : Oper) (l : List Oper) (a : Act) : Ee (o :: l) a = Ee l (a.put o.dst undef) := rfl
theorem Abp (l m : List Oper) (a : Act) : Ee (l ++ m) a = Ee m (Ee l a) := List.foldl_append ..
theorem Py (l : List Oper) : ∀ a : Act, (Ee l a).tmps.size = a.tmps.size := by
 induction l with
 | nil => intro a; rfl
 | cons o l ih => intro a; rw [Jo, ih, Act.Ua]
theorem Abo (l : List Oper) : ∀ a : Act, (Ee l a).defers = a.defers := by
 induction l with
 | nil => intro a; rfl
 | cons o l ih => intro a; rw [Jo, ih]; cases o.dst <;> rfl
theorem Ach {l : List Oper} {t : Nat} : ∀ {a : Act}, (∀ o ∈ l, o.dst ≠ some t) → (Ee l a).tmps[t]? = a.tmps[t]? := by
 induction l with
 | nil => intro a _; rfl
 | cons o l ih => intro a h; rw [Jo, ih (fun x hx => h x (by simp [hx])), Jc (h o (by simp))]
theorem Wb {a : Act} {d : Option Tmp} {t : Nat} (h : a.tmps[t]? = some undef) : (a.put d undef).tmps[t]? = some undef := by
 cases d with
 | none => exact h
 | some d =>
  by_cases e : d = t
  · subst e
    have : d < a.tmps.size := (Array.getElem?_eq_some_iff.1 h).1
    simp [Act.put, this]
  · rw [Jc (by simpa using e)]; exact h
theorem Afq {l : List Oper} {t : Nat} : ∀ {a : Act}, a.tmps[t]? = some undef → (Ee l a).tmps[t]? = some undef := by
 induction l with
 | nil => intro a h; exact h
 | cons o l ih => intro a h; rw [Jo]; exact ih (Wb h)
theorem Ah8 {a : Act} {d : Tmp} {v : Value} (h : d < a.tmps.size) : (a.put (some d) v).tmps[d]? = some v := by simp [Act.put, h]
variable {E : Env} {N G : Nat} {ops : Array Oper} {Q : Exit → Act → World → Prop}
theorem La : ∀ {its : Its} {g : Option (Nat × Bool)} {gs : List (Nat × Bool × Tmp)} {prev : List (Option Tmp)}, Ia P E N G ops.toList its g gs prev = true → ∀ o ∈ its.flat, Ou N o.dst = true ∧ ∀ x ∈ gs, o.dst ≠ some x.2.2
 | .nil, _, _, _, _, o, ho => by simp [Its.flat] at ho
 | .op o r, g, gs, prev, h, x, hx => by
  have h : (((Hj P E N G o) && (Fs o.guard g && Sh o.dst gs)) && Ia P E N G ops.toList r g gs (o.dst :: prev)) = true := h
  simp only [Bool.and_eq_true] at h
  rcases List.mem_cons.1 (show x ∈ o :: r.flat from hx) with rfl | hx
  · refine ⟨?_, Qb h.1.2.2⟩
    have := h.1.1
    simp only [Hj, Bool.and_eq_true] at this
    exact this.1
  · exact La h.2 x hx
 | .grp j gd w b pk r, g, gs, prev, h, x, hx => by
  have h : (((Ou N pk.dst) && (Fs pk.guard g && Sh pk.dst gs)) && (Pz G gd w pk.op && (Auu gd prev && _)) && (Ia P E N G ops.toList b (some (j, w)) ((j, w, gd) :: gs) [] && Ia P E N G ops.toList r g gs (pk.dst :: prev))) = true := h
  simp only [Bool.and_eq_true] at h
  rcases List.mem_append.1 (show x ∈ b.flat ++ pk :: r.flat from hx) with hx | hx
  · have := La h.2.1 x hx
    exact ⟨this.1, fun y hy => this.2 y (by simp [hy])⟩
  · rcases List.mem_cons.1 hx with rfl | hx
    · exact ⟨h.1.1.1, Qb h.1.1.2.2⟩
    · exact La h.2.2 x hx
theorem Aut {t : Tmp} {l : List (Option Tmp)} (h : Auu t l = true) : some t ∈ l := by
 obtain ⟨d, hd, h⟩ := List.any_eq_true.1 h
 cases d with
 | none => cases h
 | some d => rw [Nat.eq_of_beq_eq_true h] at hd; exact hd
theorem Yp {ro : Option Nat} : ∀ {its : Its} {j : Nat} {w : Bool} {gd : Tmp} {gs : List (Nat × Bool × Tmp)} {prev : List (Option Tmp)} {rest : List Oper} {a : Act} {wd : World}, Ia P E N G ops.toList its (some (j, w)) ((j, w, gd) :: gs) prev = true → N ≤ a.tmps.size →
    ((ops[j]?).bind (·.dst)) = some gd → yb (a.tmps[gd]?) ≠ some w → (∀ t, some t ∈ prev → a.tmps[t]? = some undef) → wpListIn (Fo ro) 0 P ops Q rest (Ee its.flat a) wd → wpListIn (Fo ro) 0 P ops Q (its.flat ++ rest) a wd
  | .nil, _, _, _, _, _, _, _, _, _, _, _, _, _, hr => hr
  | .op o r, j, w, gd, gs, prev, rest, a, wd, h, hN, hj, hy, hp, hr => by
    have h : (((Hj P E N G o) && (Fs o.guard (some (j, w)) && Sh o.dst ((j, w, gd) :: gs))) && Ia P E N G ops.toList r (some (j, w)) ((j, w, gd) :: gs) (o.dst :: prev)) = true := h
    simp only [Bool.and_eq_true] at h
    have hwant : Region.wanted o (yielded ops a.tmps) = false := by
      unfold Region.wanted
      rw [Kz h.1.2.1]
      show (yielded ops a.tmps j == some w) = false
      rw [Jb, hj]
      simpa using hy
    show wpListIn (Fo ro) 0 P ops Q (o :: (r.flat ++ rest)) a wd
    unfold wpListIn
    rw [hwant, if_neg (by simp)]
    refine ⟨fun _ _ => trivial, ?_⟩
    have hne := Qb h.1.2.2 (j, w, gd) (by simp)
    refine Yp h.2 (by rw [Act.Ua]; exact hN) hj (by rw [Jc hne]; exact hy) ?_ hr
    intro t ht
    rcases List.mem_cons.1 ht with e | ht
    · rw [← e]
      refine Ah8 (Nat.lt_of_lt_of_le ?_ hN)
      have := h.1.1
      simp only [Hj, Bool.and_eq_true] at this
      rw [← e] at this
      simpa [Ou] using this.1
    · exact Wb (hp t ht)
  | .grp j' gd' w' b pk r, j, w, gd, gs, prev, rest, a, wd, h, hN, hj, hy, hp, hr => by
    have h : (((Ou N pk.dst) && (Fs pk.guard (some (j, w)) && Sh pk.dst ((j, w, gd) :: gs))) && (Pz G gd' w' pk.op && (Auu gd' prev && (Option.rec false (fun o => Option.rec false (fun d => Nat.beq d gd') o.dst) (Ed ops.toList j'))))
      && (Ia P E N G ops.toList b (some (j', w')) ((j', w', gd') :: (j, w, gd) :: gs) [] && Ia P E N G ops.toList r (some (j, w)) ((j, w, gd) :: gs) (pk.dst :: prev))) = true := h
    simp only [Bool.and_eq_true] at h
    obtain ⟨⟨⟨hd, hg, hn⟩, hpk, ht, hjd⟩, hb, hrr⟩ := h
    have hj' : ((ops[j']?).bind (·.dst)) = some gd' := by
      rw [Eg, Array.getElem?_toList] at hjd
      cases ho : ops[j']? with
      | none => rw [ho] at hjd; cases hjd
      | some o =>
        rw [ho] at hjd
        have hjd : (Option.rec false (fun d => Nat.beq d gd') o.dst : Bool) = true := hjd
        show o.dst = some gd'
        cases hod : o.dst with
        | none => rw [hod] at hjd; cases hjd
        | some d => rw [hod] at hjd; rw [Nat.eq_of_beq_eq_true hjd]
    have hu := hp gd' (Aut ht)
    show wpListIn (Fo ro) 0 P ops Q ((b.flat ++ pk :: r.flat) ++ rest) a wd
    rw [List.append_assoc]
    refine Yp hb hN hj' (by rw [hu]; simp [yb, undef]) (by simp) ?_
    have hbd := La hb
    have hgd : (Ee b.flat a).tmps[gd]? = a.tmps[gd]? := Ach fun o ho => (hbd o ho).2 (j, w, gd) (by simp)
    have hwant : Region.wanted pk (yielded ops (Ee b.flat a).tmps) = false := by
      unfold Region.wanted
      rw [Kz hg]
      show (yielded ops (Ee b.flat a).tmps j == some w) = false
      rw [Jb, hj]
      show (yb ((Ee b.flat a).tmps[gd]?) == some w) = false
      rw [hgd]
      simpa using hy
    show wpListIn (Fo ro) 0 P ops Q (pk :: (r.flat ++ rest)) _ wd
    unfold wpListIn
    rw [hwant, if_neg (by simp)]
    refine ⟨fun _ _ => trivial, ?_⟩
    have hne := Qb hn (j, w, gd) (by simp)
    refine Yp hrr (by rw [Act.Ua, Py]; exact hN) hj (by rw [Jc hne, hgd]; exact hy) ?_ ?_
    · intro t ht
      rcases List.mem_cons.1 ht with e | ht
      · rw [← e]
        refine Ah8 (Nat.lt_of_lt_of_le ?_ (by rw [Py]; exact hN))
        rw [← e] at hd
        simpa [Ou] using hd
      · exact Wb (Afq (hp t ht))
    · have : Ee (Its.grp j' gd' w' b pk r).flat a = Ee r.flat ((Ee b.flat a).put pk.dst undef) := by
        show Ee (b.flat ++ pk :: r.flat) a = _
        rw [Abp, Jo]
      rw [← this]; exact hr
end
end Go.Den
namespace Go.Den
open Go.RowKit
section
variable {P : Program} {E : Env} {N G : Nat} {D : List Deferred} {ops : Array Oper} {Q : Exit → Act → World → Prop}
def Ev (l : List Oper) (a a' : Act) : Prop := a'.tmps.size = a.tmps.size ∧ ∀ t, (∀ o ∈ l, o.dst ≠ some t) → a'.tmps[t]? = a.tmps[t]?
theorem Ev.refl (l : List Oper) (a : Act) : Ev l a a := ⟨rfl, fun _ _ => rfl⟩
theorem Ev.cons {o : Oper} {l : List Oper} {a a' : Act} {v : Value} (h : Ev l (a.put o.dst v) a') : Ev (o :: l) a a' :=
 ⟨h.1.trans (Act.Ua _ _ _), fun t ht => (h.2 t fun x hx => ht x (by simp [hx])).trans (Jc (ht o (by simp)))⟩
theorem Ev.append {l m : List Oper} {a a' b : Act} (h : Ev l a a') (k : Ev m a' b) : Ev (l ++ m) a b :=
 ⟨k.1.trans h.1, fun t ht => (k.2 t fun x hx => ht x (by simp [hx])).trans (h.2 t fun x hx => ht x (by simp [hx]))⟩
theorem Ev.Ee (l : List Oper) (a : Act) : Ev l a (Ee l a) := ⟨Py l a, fun _ ht => Ach ht⟩
theorem Auy (l : List Oper) : ∀ (f : FT) (t : Nat), Abv l f t = .top ∨ (Abv l f t = f t ∧ ∀ o ∈ l, o.dst ≠ some t) := by
  induction l with
  | nil => intro f t; exact .inr ⟨rfl, by simp⟩
  | cons o l ih =>
    intro f t
    show Abv l (Dk f o.dst .top) t = .top ∨ (Abv l (Dk f o.dst .top) t = f t ∧ _)
    rcases ih (Dk f o.dst .top) t with h | ⟨h, hl⟩
    · exact .inl h
    · rw [h]
      cases hd : o.dst with
      | none => exact .inr ⟨rfl, by intro x hx; rcases List.mem_cons.1 hx with rfl | hx; · rw [hd]; simp
                                    · exact hl x hx⟩
      | some d =>
        show Af f d .top t = .top ∨ _
        rw [Hg]
        by_cases e : t = d
        · left; rw [if_pos e]
        · right
          refine ⟨by rw [show Dk f (some d) AV.top t = Af f d .top t from rfl, Hg, if_neg e], ?_⟩
          intro x hx
          rcases List.mem_cons.1 hx with rfl | hx
          · rw [hd]; simpa using fun h => e h.symm
          · exact hl x hx
theorem FR.top {μ : Mu} {f : FT} {a a' : Act} {l : List Oper} (r : FR μ N D f a) (s : Ev l a a') (hd : a'.defers = D) : FR μ N D (Abv l f) a' := by
 refine ⟨by rw [s.1]; exact r.size, fun t => ?_, hd⟩
 rcases Auy l f t with h | ⟨h, hl⟩
 · rw [h]; trivial
 · rw [h]
   have := r.get t
   rw [Array.getD_eq_getD_getElem?] at this ⊢
   rw [s.2 t hl]; exact this
def Acx (gs : List (Nat × Bool × Tmp)) : Option (Nat × Bool) := match gs with
 | [] => none
 | g :: _ => some (g.1, g.2.1)
theorem Pm {o : Oper} {gs : List (Nat × Bool × Tmp)} {a : Act} (hg : o.guard = Acx gs) (l : Live ops gs a) : Region.wanted o (yielded ops a.tmps) = true := by
 unfold Region.wanted
 rw [hg]
 cases gs with
 | nil => rfl
 | cons g gs =>
  obtain ⟨h1, h2⟩ := l g (by simp)
  show (yielded ops a.tmps g.1 == some g.2.1) = true
  rw [Jb, h1]
  show (yb (a.tmps[g.2.2]?) == some g.2.1) = true
  rw [h2]; simp
theorem An7 {ro : Option Nat} {pk : Oper} {c x y : Operand} (hpk : pk.op = .pick c x y) {a : Act} {w : World} {t : Bool} (hc : a.eval c = .bool t) {next : Act → World → Prop} (h : next (a.put pk.dst (a.eval (Du t x y))) w) : pk.wpIn (Fo ro) 0 P a w next Q := by
 have : (execOp a.eval pk).run P w = .ok (.value (a.eval (Du t x y))) w := by
  unfold execOp
  rw [hpk]
  simp only [hc]
  cases t <;> rfl
 refine Ih (fun c e => by rw [hpk] at e; cases e) ?_
 rw [this]
 exact h
theorem Zy {gd : Tmp} {w : Bool} {o : Op} (h : Pz G gd w o = true) : ∃ x y v, o = .pick (.tmp gd) x y ∧ Ej G x = true ∧ Ej G y = true ∧ Du w y x = .const v := by
 cases o <;> try cases h
 rename_i c x y
 have h : (A07 c gd && Ej G x && Ej G y && Ai0 (Du w y x)) = true := h
 simp only [Bool.and_eq_true] at h
 obtain ⟨⟨⟨h1, h2⟩, h3⟩, h4⟩ := h
 cases c <;> try cases h1
 rename_i t
 have e := Nat.eq_of_beq_eq_true h1
 subst e
 cases hq : Du w y x <;> rw [hq] at h4 <;> first | exact ⟨x, y, _, rfl, by assumption, by assumption, hq⟩ | cases h4
theorem Sf {w : Bool} {x y : Operand} (hx : Ej G x = true) (hy : Ej G y = true) : Ej G (Du w x y) = true := by cases w <;> assumption
theorem Live.same {gs : List (Nat × Bool × Tmp)} {a a' : Act} {l : List Oper} (h : Live ops gs a) (s : Ev l a a') (hl : ∀ o ∈ l, ∀ g ∈ gs, o.dst ≠ some g.2.2) : Live ops gs a' := fun g hg =>
 ⟨(h g hg).1, by rw [s.2 g.2.2 fun o ho => hl o ho g hg]; exact (h g hg).2⟩
def Bna (_P : Program) (N : Nat) (D : List Deferred) (ops : Array Oper) (gs : List (Nat × Bool × Tmp)) (its : Its) (μ : Mu) (h : H) (a : Act) (w : World) (K : FT → H → Prop) (q : Act → World → Prop) : Prop :=
 ∀ (μ' : Mu) (f' : FT) (h' : H) (a' : Act) (w' : World), FR μ' N D f' a' → Sim μ' h' w' → Cu μ h w μ' h' w' → Live ops gs a' → Ev its.flat a a' → K f' h' → q a' w'
theorem Au5 {ro : Option Nat} (ok : Bt P E) {call : CF} (hcall : Fb P (CP E) G (fun p => p) call) {o : Oper} (hop : Zz P E G o.op = true) {μ : Mu} {f : FT} {h : H} {a : Act} {w : World} {k : KV} {next : Act → World → Prop} {Q : Exit → Act → World → Prop}
 (hv : ∀ x ∈ o.op.operands.toList, VR μ (eval (CP E) x f) (a.eval x)) (s : Sim μ h w) (gl : Fy μ G) (hg : Au6 E o.op call f h k) (g : Aj7 (CP E) μ h w (fun p => p) k a o.dst next) : o.wpIn (Fo ro) 0 P a w next Q := by
 by_cases hnx : ∃ x, o.op = .next x false
 · obtain ⟨x, e⟩ := hnx
   rw [e] at hg
   obtain ⟨v, w', μ', av, h', hr, s', x', hv', hk⟩ := Atq (P := P) (ty := o.type) s (show Atr (eval' E x f) h k from hg) (hv x (by rw [e]; simp [Op.operands]))
   refine Ih (fun c hc => by rw [e] at hc; cases hc) ?_
   have he : execOp a.eval o = (do pure (.value (← Instr.next (a.eval x) false o.type))) := by
    obtain ⟨dst, op, type, pos, after, guard⟩ := o
    cases e; rfl
   rw [he, Aa hr]
   exact g _ _ _ _ _ s' x' hv' hk
 · have hg2 : Dp E o.op call f h k := by
    cases ho : o.op <;> rw [ho] at hg <;> try exact hg
    rename_i x b
    cases b with
    | true => exact hg
    | false => exact absurd ⟨x, ho⟩ hnx
   exact Agd (C := CP E) (good := fun p => p) (fun h => h) ok hcall hop hv s gl (Aay hg2) g
theorem Wh {ro : Option Nat} (ok : Bt P E) {call : CF} (hcall : Fb P (CP E) G (fun p => p) call) : ∀ (its : Its) {gs : List (Nat × Bool × Tmp)} {prev : List (Option Tmp)}, Ia P E N G ops.toList its (Acx gs) gs prev = true →
    ∀ {μ : Mu} {f : FT} {h : H} {a : Act} {w : World} {K : FT → H → Prop} {rest : List Oper}, FR μ N D f a → Sim μ h w → Fy μ G → Live ops gs a → Gc E call its f h K → Bna P N D ops gs its μ h a w K (wpListIn (Fo ro) 0 P ops Q rest) → wpListIn (Fo ro) 0 P ops Q (its.flat ++ rest) a w
  | .nil, gs, prev, _, μ, f, h, a, w, K, rest, fr, s, _, l, hr, he => he μ f h a w fr s (.refl _ _ _) l (.refl _ _) hr
  | .op o r, gs, prev, hk, μ, f, h, a, w, K, rest, fr, s, gl, l, hr, he => by
    have hk : (((Hj P E N G o) && (Fs o.guard (Acx gs) && Sh o.dst gs)) && Ia P E N G ops.toList r (Acx gs) gs (o.dst :: prev)) = true := hk
    simp only [Bool.and_eq_true, Hj] at hk
    obtain ⟨⟨⟨hd, hop⟩, hg, hn⟩, hrr⟩ := hk
    have hr : Au6 E o.op call f h (fun v h => coK E o.type v (fun v => Gc E call r (Dk f o.dst v) h K)) := hr
    have hopn : ∀ x ∈ o.op.operands.toList, Ej G x = true := by
      have hop := hop
      simp only [Zz, Bool.and_eq_true] at hop
      exact fun x hx => (List.all_eq_true.1 hop.1) x hx
    show wpListIn (Fo ro) 0 P ops Q (o :: (r.flat ++ rest)) a w
    unfold wpListIn
    rw [Pm (Kz hg) l, if_pos rfl]
    refine Au5 ok hcall hop (fun x hx => fr.eval gl (hopn x hx)) s gl hr ?_
    intro μ' av h' v w' s' x' hv hg'
    refine Wh ok hcall r hrr ((fr.mono x'.le).put hd hv) s' (gl.mono x'.le) (l.put hn v) (Vk hg') ?_
    intro μ'' f'' h'' a'' w'' fr'' s'' x'' l'' sb hK
    exact he _ _ _ _ _ fr'' s'' (x'.trans x'') l'' (Ev.cons sb) hK
  | .grp j gd wt b pk r, gs, prev, hk, μ, f, h, a, w, K, rest, fr, s, gl, l, hr, he => by
    have hk : (((Ou N pk.dst) && (Fs pk.guard (Acx gs) && Sh pk.dst gs)) && (Pz G gd wt pk.op && (Auu gd prev && (Option.rec false (fun o => Option.rec false (fun d => Nat.beq d gd) o.dst) (Ed ops.toList j))))
      && (Ia P E N G ops.toList b (some (j, wt)) ((j, wt, gd) :: gs) [] && Ia P E N G ops.toList r (Acx gs) gs (pk.dst :: prev))) = true := hk
    simp only [Bool.and_eq_true] at hk
    obtain ⟨⟨⟨hd, hg, hn⟩, hpk, _, hjd⟩, hb, hrr⟩ := hk
    have hj : ((ops[j]?).bind (·.dst)) = some gd := by
      rw [Eg, Array.getElem?_toList] at hjd
      cases ho : ops[j]? with
      | none => rw [ho] at hjd; cases hjd
      | some o =>
        rw [ho] at hjd
        have hjd : (Option.rec false (fun d => Nat.beq d gd) o.dst : Bool) = true := hjd
        show o.dst = some gd
        cases hod : o.dst with
        | none => rw [hod] at hjd; cases hjd
        | some d => rw [hod] at hjd; rw [Nat.eq_of_beq_eq_true hjd]
    obtain ⟨x, y, cv, epk, hx, hy, hcv⟩ := Zy hpk
    obtain ⟨t, hft, hr⟩ := Gt (show asB (f gd) (fun t => A5u E wt b.flat pk t (Gc E call b) (Gc E call r) f h K) from hr)
    have hvt : a.tmps.getD gd undef = .bool t := by have := fr.get gd; rw [hft] at this; exact this
    have hgt : a.tmps[gd]? = some (.bool t) := by
      rw [Array.getD_eq_getD_getElem?] at hvt
      cases hq : a.tmps[gd]? with
      | none => rw [hq] at hvt; cases hvt
      | some v => rw [hq] at hvt; exact congrArg some hvt
    have hr : Am (fun kj => gate wt t (Gc E call b f h (fun f h => asB (eval' E (Du wt x y) f) (fun v => kj v h))) (asB (eval' E (Du wt y x) f) (fun v => kj v h)))
        (fun v h => Gc E call r (Dk (Abv b.flat f) pk.dst (.bool v)) h K) := by
      unfold A5u at hr
      rw [epk] at hr
      exact hr
    have hbd := La hb
    show wpListIn (Fo ro) 0 P ops Q ((b.flat ++ pk :: r.flat) ++ rest) a w
    rw [List.append_assoc]
    by_cases hw : t = wt
    · subst hw
      have hr : Gc E call b f h (fun f' h' => asB (eval' E (Du t x y) f') (fun v => Gc E call r (Dk (Abv b.flat f) pk.dst (.bool v)) h' K)) := by cases t <;> exact hr
      refine Wh ok hcall b (gs := (j, t, gd) :: gs) hb fr s gl ?_ hr ?_
      · intro g hg'
        rcases List.mem_cons.1 hg' with rfl | hg'
        · exact ⟨hj, by show yb (a.tmps[gd]?) = some t; rw [hgt]; rfl⟩
        · exact l g hg'
      · intro μ' f' h' a' w' fr' s' x' l' sb hK
        obtain ⟨v, hv, hK⟩ := Gt hK
        have lo : Live ops gs a' := fun g hg' => l' g (by simp [hg'])
        show wpListIn (Fo ro) 0 P ops Q (pk :: (r.flat ++ rest)) a' w'
        unfold wpListIn
        rw [Pm (Kz hg) lo, if_pos rfl]
        have hc : a'.eval (.tmp gd) = .bool t := by
          have := (l' (j, t, gd) (by simp)).2
          have h2 : yb (a'.tmps[gd]?) = some t := this
          show a'.tmps.getD gd undef = .bool t
          rw [Array.getD_eq_getD_getElem?]
          cases hq : a'.tmps[gd]? with
          | none => rw [hq] at h2; cases h2
          | some u => rw [hq] at h2; cases u <;> simp [yb] at h2; subst h2; rfl
        have hev : a'.eval (Du t x y) = .bool v := by
          have := fr'.eval (E := E) (gl.mono x'.le) (Sf (w := t) hx hy)
          rw [hv] at this; exact this
        refine An7 epk hc ?_
        rw [hev]
        refine Wh ok hcall r hrr (((fr.mono x'.le).top sb fr'.defs).put hd (av := .bool v) (rfl : VR μ' (.bool v) (.bool v))) s' (gl.mono x'.le) (lo.put hn _) hK ?_
        intro μ'' f'' h'' a'' w'' fr'' s'' x'' l'' sb' hK'
        exact he _ _ _ _ _ fr'' s'' (x'.trans x'') l'' (sb.append (Ev.cons sb')) hK'
    · have hr : asB (eval' E (Du wt y x) f) (fun v => Gc E call r (Dk (Abv b.flat f) pk.dst (.bool v)) h K) := by
        cases t <;> cases wt <;> first | exact hr | exact absurd rfl hw
      obtain ⟨v, hv, hK⟩ := Gt hr
      refine Yp hb fr.size hj (by rw [hgt]; simpa [yb] using hw) (by simp) ?_
      have sb : Ev b.flat a (Ee b.flat a) := .Ee _ _
      have lo : Live ops gs (Ee b.flat a) := l.same sb fun o ho g hg' => (hbd o ho).2 g (by simp [hg'])
      show wpListIn (Fo ro) 0 P ops Q (pk :: (r.flat ++ rest)) _ w
      unfold wpListIn
      rw [Pm (Kz hg) lo, if_pos rfl]
      have hc : (Ee b.flat a).eval (.tmp gd) = .bool t := by
        show (Ee b.flat a).tmps.getD gd undef = .bool t
        rw [Array.getD_eq_getD_getElem?, sb.2 gd fun o ho => (hbd o ho).2 (j, wt, gd) (by simp), hgt]; rfl
      have hch : Du t x y = Du wt y x := by cases t <;> cases wt <;> first | rfl | exact absurd rfl hw
      have hev : (Ee b.flat a).eval (Du t x y) = .bool v := by
        have := fr.eval (E := E) gl (Sf (w := wt) hy hx)
        rw [hv] at this
        have this : a.eval (Du wt y x) = .bool v := this
        rw [hch, hcv] at *
        exact this
      refine An7 epk hc ?_
      rw [hev]
      refine Wh ok hcall r hrr ((fr.top sb (by rw [Abo]; exact fr.defs)).put hd (av := .bool v) (rfl : VR μ (.bool v) (.bool v))) s gl (lo.put hn _) hK ?_
      intro μ'' f'' h'' a'' w'' fr'' s'' x'' l'' sb' hK'
      exact he _ _ _ _ _ fr'' s'' x'' l'' (sb.append (Ev.cons sb')) hK'
theorem Yx (l0 : List Oper) : ∀ (n : Nat) (g : Option (Nat × Bool)) (l : List Oper), (Gy l0 n g l).1.flat ++ (Gy l0 n g l).2 = l := by
 intro n
 induction n with
 | zero => intro g l; rfl
 | succ n ih =>
  intro g l
  cases l with
  | nil => rfl
  | cons o l' =>
   show (To l0 (Gy l0 n) g (o :: l')).1.flat ++ (To l0 (Gy l0 n) g (o :: l')).2 = o :: l'
   unfold To
   simp only
   cases hs : Fs o.guard g with
   | true =>
    simp only
    have := ih g l'
    generalize Gy l0 n g l' = q at this ⊢
    obtain ⟨q1, q2⟩ := q
    show o :: (q1.flat ++ q2) = o :: l'
    rw [this]
   | false =>
    simp only
    cases hg : o.guard with
    | none => rfl
    | some p =>
     simp only
     cases Az1 l0 g p.1 with
     | none => rfl
     | some gd =>
      simp only
      have hb := ih (some p) (o :: l')
      generalize Gy l0 n (some p) (o :: l') = q at hb ⊢
      obtain ⟨q1, q2⟩ := q
      cases q2 with
      | nil => rfl
      | cons pk l'' =>
       simp only
       have hc := ih g l''
       generalize Gy l0 n g l'' = z at hc ⊢
       obtain ⟨z1, z2⟩ := z
       show (q1.flat ++ pk :: z1.flat) ++ z2 = o :: l'
       rw [← hb, ← hc]; simp
theorem Ak6 {l : List Oper} {its : Its} (h : Aal l = some its) : its.flat = l := by
 unfold Aal at h
 have hf := Yx l (Nat.add (Nat.mul 2 (len l)) 2) none l
 generalize Gy l (Nat.add (Nat.mul 2 (len l)) 2) none l = q at h hf
 obtain ⟨q1, q2⟩ := q
 cases q2 with
 | nil => cases h; simpa using hf
 | cons => cases h
end
end Go.Den
