/-
  A part of the proof.
-/
import Derived.Test.YtcnmehbkpaoolaaGreatDoorDenA
import Derived.Test.YtcnmehbkpaoolaaGreatDoorDenC
noncomputable section
namespace Go.Den
abbrev FT := Nat → AV
abbrev CF := Zz Prop FT
abbrev H := Hp FT
abbrev KV := AV → H → Prop
def Af (f : FT) (d : Nat) (v : AV) : FT := fun u => Bool.rec (f u) v (Nat.beq u d)
def Ab (l : List AV) : FT := fun t => Option.rec .undef (fun v => v) (Dt l t)
def Baw : FI where
  T := FT
  init l := Ab l
  get f t := f t
  set f t v := Af f t v
  force f k := k f
abbrev CP (E : Env) : Cx Prop := ⟨E, Baw, False⟩
def fN (n : Nat) (K : Nat → Prop) : Prop := Nat.rec False (fun m _ => K m) (Nat.succ n)
def fI (n : Int) (K : Int → Prop) : Prop := Int.rec (fun m => fN m (fun m => K (.ofNat m))) (fun m => fN m (fun m => K (.negSucc m))) n
def De (n : Int) (K : Nat → Prop) : Prop := Int.rec (fun m => K m) (fun _ => False) n
def Al (M : (Bool → H → Prop) → Prop) (k : Bool → H → Prop) : Prop := M k
def oV {α : Type} (o : Option α) (K : α → Prop) : Prop := Option.rec False K o
def oK (o : Option (AV × H)) (k : KV) : Prop := Option.rec False (fun p => Prod.rec (fun v h => Bu v (fun v => Hp.rec (fun m n => Jv m (fun m => k v ⟨m, n⟩)) h)) p) o
def cnd (t : Bool) (A B : Prop) : Prop := Bool.rec B A t
def gate (w t : Bool) (A B : Prop) : Prop := Bool.rec (Bool.rec A B t) (Bool.rec B A t) w
def Jf (l c i : Nat) (K : Nat → Prop) : Prop := Bool.rec False (fN (Fa c i) K) (Nat.ble (Nat.add i 1) l)
def Oo (l c lo hi : Nat) (K : Nat → Nat → Prop) : Prop := Bool.rec False (fN (Nat.sub hi lo) (fun n => fN (Uy c lo hi) (fun d => K n d))) (Ah (Nat.ble lo hi) (Nat.ble hi l))
def Dn (l c m d : Nat) (K : Nat → Nat → Prop) : Prop := Bool.rec False (fN (Nat.add l m) (fun n => fN (Xq l c d) (fun e => K n e))) (Nat.ble (Nat.add l m) (intMax .i64))
def ltS (l c m d : Nat) : Bool := Qi (Gh l c) (Gh m d)
def Sf (k : IntKind) (a b : Int) (K : Int → Prop) : Prop := Bool.rec (fI (wrap k (a.tdiv b)) K) False (Av b (.ofNat 0))
def Vb (a b : Int) (K : Int → Prop) : Prop := Bool.rec (fI (a.tmod b) K) False (Av b (.ofNat 0))
def Ain (k : IntKind) (a b : Int) (K : Int → Prop) : Prop := De b (fun b => fI (wrap k (a * 2 ^ (min b k.bits))) K)
def Ab6 (k : IntKind) (a b : Int) (K : Int → Prop) : Prop := De b (fun b => fI (a.fdiv (2 ^ (min b k.bits))) K)
def A96 (a b : Int) (K : Nat → Nat → Prop) : Prop := De a (fun a => De b (fun b => K a b))
def Ml (g : Nat → Nat → Nat) (k : IntKind) (a b : Int) (K : Int → Prop) : Prop := A96 a b (fun a b => Bool.rec False (fN (g a b) (fun n => K (.ofNat n))) (Ah (Nat.ble a (intMax k)) (Nat.ble b (intMax k))))
def low (n : Nat) : Nat := (fun (_ : Nat → (Nat → Prop) → Prop) (_ : Int → (Int → Prop) → Prop) (_ : ((Bool → H → Prop) → Prop) → (Bool → H → Prop) → Prop) (_ : Nat → Nat → Nat → (Nat → Prop) → Prop) (_ : Nat → Nat → Nat → Nat → (Nat → Nat → Prop) → Prop) (_ : Nat → Nat → Nat → Nat → (Nat → Nat → Prop) → Prop)
  (_ : IntKind → Int → Int → (Int → Prop) → Prop) (_ : IntKind → Int → Int → (Int → Prop) → Prop) (_ : IntKind → Int → Int → (Int → Prop) → Prop) (_ : (Nat → Nat → Nat) → IntKind → Int → Int → (Int → Prop) → Prop) (_ : Option (AV × H) → KV → Prop) (_ : H → P → Nat → Prop → (AV → Prop) → Prop) (_ : H → P → Nat → List AV → Prop → (H → Prop) → Prop) (_ : H → Ob FT → (P → H → Prop) → Prop) => n)
  fN fI Al Jf Oo Dn Sf Ain Ab6 Ml oK (fun h b o x k => h.Hy b o x k) (fun h b o l x k => h.Gs b o l x k) (fun h o k => h.Dm o k)
def Ai : Prop := (fun (_ : Nat) => False) (low 0)
def Ag7 (a b : IntKind) : Bool := match a with
  | .i8 => match b with | .i8 => true | _ => false
  | .i16 => match b with | .i16 => true | _ => false
  | .i32 => match b with | .i32 => true | _ => false
  | .i64 => match b with | .i64 => true | _ => false
  | .u8 => match b with | .u8 => true | _ => false
  | .u16 => match b with | .u16 => true | _ => false
  | .u32 => match b with | .u32 => true | _ => false
  | .u64 => match b with | .u64 => true | _ => false
def chk (b : Bool) (K : Prop) : Prop := Bool.rec Ai K b
section
def asI (k : IntKind) (v : AV) (K : Int → Prop) : Prop := AV.rec (motive_1 := fun _ => Prop) (motive_2 := fun _ => Unit)
  (fun _ => Ai) (fun j n => Bool.rec Ai (K n) (Ag7 k j)) (fun _ _ => Ai) Ai (fun _ _ => Ai) Ai (fun _ _ _ _ _ => Ai) Ai (fun _ => Ai) (fun _ _ _ _ _ => Ai) Ai (fun _ _ _ => Ai) Ai (fun _ _ => Ai) (fun _ _ => Ai) Ai () (fun _ _ _ _ => ()) v
def Aoh (v : AV) (K : Int → Prop) : Prop := AV.rec (motive_1 := fun _ => Prop) (motive_2 := fun _ => Unit)
  (fun _ => Ai) (fun _ n => K n) (fun _ _ => Ai) Ai (fun _ _ => Ai) Ai (fun _ _ _ _ _ => Ai) Ai (fun _ => Ai) (fun _ _ _ _ _ => Ai) Ai (fun _ _ _ => Ai) Ai (fun _ _ => Ai) (fun _ _ => Ai) Ai () (fun _ _ _ _ => ()) v
def asB (v : AV) (K : Bool → Prop) : Prop := AV.rec (motive_1 := fun _ => Prop) (motive_2 := fun _ => Unit)
  (fun b => K b) (fun _ _ => Ai) (fun _ _ => Ai) Ai (fun _ _ => Ai) Ai (fun _ _ _ _ _ => Ai) Ai (fun _ => Ai) (fun _ _ _ _ _ => Ai) Ai (fun _ _ _ => Ai) Ai (fun _ _ => Ai) (fun _ _ => Ai) Ai () (fun _ _ _ _ => ()) v
def asS (v : AV) (K : Nat → Nat → Prop) : Prop := AV.rec (motive_1 := fun _ => Prop) (motive_2 := fun _ => Unit)
  (fun _ => Ai) (fun _ _ => Ai) (fun l c => K l c) Ai (fun _ _ => Ai) Ai (fun _ _ _ _ _ => Ai) Ai (fun _ => Ai) (fun _ _ _ _ _ => Ai) Ai (fun _ _ _ => Ai) Ai (fun _ _ => Ai) (fun _ _ => Ai) Ai () (fun _ _ _ _ => ()) v
def asP (v : AV) (K : P → Nat → Prop) : Prop := AV.rec (motive_1 := fun _ => Prop) (motive_2 := fun _ => Unit)
  (fun _ => Ai) (fun _ _ => Ai) (fun _ _ => Ai) Ai (fun b o => K b o) Ai (fun _ _ _ _ _ => Ai) Ai (fun _ => Ai) (fun _ _ _ _ _ => Ai) Ai (fun _ _ _ => Ai) Ai (fun _ _ => Ai) (fun _ _ => Ai) Ai () (fun _ _ _ _ => ()) v
def asG (v : AV) (K : List AV → Prop) : Prop := AV.rec (motive_1 := fun _ => Prop) (motive_2 := fun _ => Unit)
  (fun _ => Ai) (fun _ _ => Ai) (fun _ _ => Ai) Ai (fun _ _ => Ai) Ai (fun _ _ _ _ _ => Ai) Ai (fun _ => Ai) (fun _ _ _ _ _ => Ai) Ai (fun _ _ _ => Ai) Ai (fun cs _ => K cs) (fun _ _ => Ai) Ai () (fun _ _ _ _ => ()) v
def asT (v : AV) (K : List AV → Prop) : Prop := AV.rec (motive_1 := fun _ => Prop) (motive_2 := fun _ => Unit)
  (fun _ => Ai) (fun _ _ => Ai) (fun _ _ => Ai) Ai (fun _ _ => Ai) Ai (fun _ _ _ _ _ => Ai) Ai (fun _ => Ai) (fun _ _ _ _ _ => Ai) Ai (fun _ _ _ => Ai) Ai (fun _ _ => Ai) (fun cs _ => K cs) Ai () (fun _ _ _ _ => ()) v
def Bc0 (v : AV) (K : Fn → List AV → List AV → Prop) : Prop := AV.rec (motive_1 := fun _ => Prop) (motive_2 := fun _ => Unit)
  (fun _ => Ai) (fun _ _ => Ai) (fun _ _ => Ai) Ai (fun _ _ => Ai) Ai (fun _ _ _ _ _ => Ai) Ai (fun _ => Ai) (fun fn a c _ _ => K fn a c) Ai (fun _ _ _ => Ai) Ai (fun _ _ => Ai) (fun _ _ => Ai) Ai () (fun _ _ _ _ => ()) v
def Atv (o : Ob FT) (K : (Nat → AV) → LpS → LoopState → AX → Prop) : Prop := Ob.rec Ai (fun _ _ _ _ _ => Ai) (fun _ _ => Ai) (fun _ _ => Ai) (fun _ _ _ => Ai) (fun f s st pd => K f s st pd) (fun _ _ _ _ => Ai) o
def one (v : AV) (K : Prop) : Prop := AV.rec (motive_1 := fun _ => Prop) (motive_2 := fun _ => Unit)
  (fun _ => K) (fun _ _ => K) (fun _ _ => K) K (fun _ _ => K) K (fun _ _ _ _ _ => K) K (fun _ => K) (fun _ _ _ _ _ => K) K (fun _ _ _ => K) K (fun _ _ => Ai) (fun _ _ => Ai) Ai () (fun _ _ _ _ => ()) v
def Gg (v : AV) (K : Nat → Prop) : Prop := AV.rec (motive_1 := fun _ => Prop) (motive_2 := fun _ => Unit)
  (fun _ => Ai) (fun _ _ => Ai) (fun _ _ => Ai) Ai (fun _ _ => Ai) (K 0) (fun _ _ n _ _ => K n) Ai (fun _ => Ai) (fun _ _ _ _ _ => Ai) Ai (fun _ _ _ => Ai) Ai (fun _ _ => Ai) (fun _ _ => Ai) Ai () (fun _ _ _ _ => ()) v
def Cc (sz i : Nat) (v : AV) (K : AV → Prop) : Prop := AV.rec (motive_1 := fun _ => Prop) (motive_2 := fun _ => Unit)
  (fun _ => Ai) (fun _ _ => Ai) (fun _ _ => Ai) Ai (fun _ _ => Ai) Ai (fun b o n z _ => Bool.rec Ai (fN (Nat.add o (Nat.mul i sz)) (fun q => K (.ptr b q))) (Ah (Nat.ble (Nat.add i 1) n) (Nat.beq sz z))) Ai (fun _ => Ai) (fun _ _ _ _ _ => Ai) Ai (fun _ _ _ => Ai) Ai (fun _ _ => Ai) (fun _ _ => Ai) Ai () (fun _ _ _ _ => ()) v
end
def Ao (o : Nat) (v : AV) (K : AV → Prop) : Prop := asP v (fun b q => fN (Nat.add q o) (fun q => K (.ptr b q)))
def ld1 (a : AV) (h : H) (K : AV → Prop) : Prop := asP a (fun b o => h.Hy b o Ai K)
def ldn (n : Nat) (a : AV) (h : H) (K : AV → Prop) : Prop := asP a (fun b o => h.Ka b o n Ai (fun l => K (.agg l)))
def st1 (a v : AV) (h : H) (K : H → Prop) : Prop := asP a (fun b o => one v (h.Gs b o [v] Ai K))
def stn (n : Nat) (a v : AV) (h : H) (K : H → Prop) : Prop := asP a (fun b o => asG v (fun cs => Bool.rec Ai (h.Gs b o cs Ai K) (Ah (Nat.beq (len cs) n) (Nat.ble 1 n))))
def Awo (o : Nat) (v : AV) (K : AV → Prop) : Prop := asG v (fun cs => oV (Dt cs o) K)
def Bh0 (o n : Nat) (v : AV) (K : AV → Prop) : Prop := asG v (fun cs => K (.agg (Lu n (Pv o cs))))
def ext (i : Nat) (v : AV) (K : AV → Prop) : Prop := asT v (fun cs => oV (Dt cs i) K)
def Bcy (o : Ob FT) (K : P → Nat → List Nat → Nat → Prop) : Prop := Ob.rec Ai (fun _ _ _ _ _ => Ai) (fun _ _ => Ai) (fun _ _ => Ai) (fun _ _ _ => Ai) (fun _ _ _ _ => Ai) (fun m since seen stepped => K m since seen stepped) o
abbrev Ent := AV × AV × Nat
def Agq (n : Nat) (l : List Nat) : Bool := List.rec false (fun x _ ih => Bool.rec ih true (Nat.beq x n)) l
def leftOf (seen : List Nat) (es : List Ent) : List Ent := List.rec [] (fun e _ ih => Bool.rec (e :: ih) ih (Agq e.2.2 seen)) es
def Aj2 (since : Nat) (l : List Ent) : Bool := List.rec true (fun e _ ih => Bool.rec false ih (Nat.ble (Nat.add e.2.2 1) since)) l
def Afj (stepped : Nat) (l : List Ent) : Bool := List.rec false (fun e _ ih => Bool.rec ih true (Nat.ble (Nat.add e.2.2 1) stepped)) l
def Zb {α : Type} (l : List α) : Bool := List.rec true (fun _ _ _ => false) l
def Amr (K : Ent → Prop) (l : List Ent) : Prop := List.rec True (fun e r ih => List.rec (K e) (fun _ _ _ => And (K e) ih) r) l
def Gc (b m : P) (since : Nat) (seen : List Nat) (es : List Ent) (clock : Nat) (h : H) (k : KV) : Prop :=
  List.rec (k (.tuple [.bool false]) h) (fun e r _ => Amr (fun e => h.Sg b (.Oh m since (Jy seen [e.2.2]) clock) (fun h => k (.tuple [.bool true, e.1, e.2.1]) h)) (e :: r)) (leftOf seen es)
def Aqs (it : AV) (h : H) (k : KV) : Prop := asP it (fun b o => Bool.rec Ai (Bcy (h.at b) (fun m since seen stepped => oV (Pu (h.at m)) (fun p => Bool.rec Ai (Gc b m since seen p.1 p.2 h k)
  (Ah (Aj2 since (leftOf seen p.1)) (Bool.rec (Bool.rec (Afj stepped p.1) true (Zb p.1)) true (Zb seen)))))) (Nat.beq o 0))
section
variable (E : Env)
def eval' (o : Operand) (f : FT) : AV := eval (CP E) o f
def coD (d : TypeDesc) (v : AV) (K : AV → Prop) : Prop := match d with
  | .int k => asI k v (fun n => K (.int k n))
  | .bool => asB v (fun b => K (.bool b))
  | .string => asS v (fun l c => K (.str l c))
  | _ => K v
def coK (t : TypeId) (v : AV) (K : AV → Prop) : Prop := match E.ty t with
  | some ti => coD ti.desc v K
  | none => K v
def bI (op : BinOp) (k : IntKind) (a b : Int) (K : AV → Prop) : Prop := match op with
  | .add => fI (wrap k (Cf a b)) (fun n => K (.int k n))
  | .sub => fI (wrap k (Kv a b)) (fun n => K (.int k n))
  | .mul => fI (wrap k (a * b)) (fun n => K (.int k n))
  | .eql => K (.bool (Av a b))
  | .neq => K (.bool (Ck (Av a b)))
  | .lss => K (.bool (Cs a b))
  | .leq => K (.bool (Gu a b))
  | .gtr => K (.bool (Cs b a))
  | .geq => K (.bool (Gu b a))
  | .quo => Sf k a b (fun n => K (.int k n))
  | .rem => Vb a b (fun n => K (.int k n))
  | .shl => Ain k a b (fun n => K (.int k n))
  | .shr => Ab6 k a b (fun n => K (.int k n))
  | .and => Ml Nat.land k a b (fun n => K (.int k n))
  | .or => Ml Nat.lor k a b (fun n => K (.int k n))
  | .xor => Ml Nat.xor k a b (fun n => K (.int k n))
  | .andNot => False
def bS (op : BinOp) (l c m d : Nat) (K : AV → Prop) : Prop := match op with
  | .add => Dn l c m d (fun n e => K (.str n e))
  | .eql => K (.bool (Bm l c m d))
  | .neq => K (.bool (Ck (Bm l c m d)))
  | .lss => K (.bool (ltS l c m d))
  | .geq => K (.bool (Ck (ltS l c m d)))
  | _ => False
def Al3 (op : BinOp) : Bool := match op with
  | .shl => true
  | .shr => true
  | _ => false
def A6v (op : BinOp) (k : IntKind) (y : AV) (K : Int → Prop) : Prop := match Al3 op with
  | true => Aoh y K
  | false => asI k y K
def A6t (op : BinOp) (t : TypeId) (d : TypeDesc) (x y : AV) (K : AV → Prop) : Prop := match d with
  | .int k => asI k x (fun a => A6v op k y (fun b => bI op k a b K))
  | .string => asS x (fun l c => asS y (fun m d => bS op l c m d K))
  | _ => oV (Hi E op t x y) K
def Ato (op : BinOp) (t : TypeId) (x y : AV) (K : AV → Prop) : Prop := match E.ty t with
  | some ti => A6t E op t ti.desc x y K
  | none => False
def Aoe (op : BinOp) (t : TypeId) (ox oy : Operand) (x y : AV) (K : AV → Prop) : Prop := Bool.rec (Ato E op t x y K) (oV (Ajw E op t x y) K) (Ajy E op t ox oy)
def un2 (op : UnOp) (x : AV) (K : AV → Prop) : Prop := match op with
  | .not => asB x (fun b => K (.bool (Ck b)))
  | op => oV (unA op x) K
def Abd (t : TypeId) (a : AV) (h : H) (K : AV → Prop) : Prop := match E.ty t with
  | some i => match i.agg with
    | true => ldn i.size a h K
    | false => ld1 a h K
  | none => False
def Ail (t : TypeId) (a v : AV) (h : H) (K : H → Prop) : Prop := match E.ty t with
  | some i => match i.agg with
    | true => stn i.size a v h K
    | false => match Nat.beq i.size 1 with
      | true => st1 a v h K
      | false => False
  | none => False
def Amc (t : TypeId) (i : Nat) : Option (Nat × Nat × Bool) := match E.ty t with
  | some ti => match ti.desc with
    | .struct fs => match Md fs.toList i with
      | some p => match E.ty p.2 with
        | some fi => some (p.1, fi.size, fi.agg)
        | none => none
      | none => none
    | _ => none
  | none => none
def Zk (t : TypeId) (x : AV) (i : Nat) (K : AV → Prop) : Prop := match Amc E t i with
  | some p => match p.2.2 with
    | true => Bh0 p.1 p.2.1 x K
    | false => Awo p.1 x K
  | none => False
def Ty (t : TypeId) (x : AV) (i : Nat) (K : AV → Prop) : Prop := match Vg E t i with
  | some o => Ao o x K
  | none => False
def Aiz (v : AV) (K : Nat → Prop) : Prop := Aoh v (fun n => De n K)
def Lf (t : TypeId) (x i : AV) (h : H) (k : KV) : Prop := match Qu E t with
  | some e => match E.ty e with
    | some ei => Aiz i (fun n => Cc ei.size n x (fun v => k v h))
    | none => False
  | none => oK (Eg E t x (Bn i) h) k
def Pm (t : TypeId) (x i : AV) (h : H) (k : KV) : Prop := match E.ty t with
  | some ti => match isStr ti.desc with
    | true => asS x (fun l c => Aiz i (fun n => Jf l c n (fun b => k (.int .u8 (.ofNat b)) h)))
    | false => oK (Lh E t x (Bn i) h) k
  | none => False
def Ag0 (ats : List TypeId) (d : TypeDesc) (x : AV) (h : H) (k : KV) : Prop := match d with
  | .string => asS x (fun l _ => k (.int .i64 (.ofNat l)) h)
  | .slice _ => Gg x (fun n => k (.int .i64 (.ofNat n)) h)
  | _ => oK (Uq E ats x h) k
def Anq (ats : List TypeId) (x : AV) (h : H) (k : KV) : Prop := match Dt ats 0 with
  | some t => match E.ty t with
    | some ti => Ag0 E ats ti.desc x h k
    | none => False
  | none => False
def Jh (b : Builtin) (ats : List TypeId) (args : List AV) (h : H) (k : KV) : Prop := match b with
  | .len => match args with
    | [x] => Anq E ats x h k
    | _ => False
  | b => oK (Bw E b ats args h) k
def Ed (t : TypeId) : Bool := match E.ty t with
  | some ti => Nj ti.desc
  | none => false
def Zp (s d : TypeId) (dd : TypeDesc) (x : AV) (h : H) (k : KV) : Prop := match dd with
  | .int kd => match Ed E s with
    | true => Aoh x (fun n => fI (wrap kd n) (fun n => k (.int kd n) h))
    | false => oK (Ie E h s d x) k
  | _ => oK (Ie E h s d x) k
def Uh (s d : TypeId) (x : AV) (h : H) (k : KV) : Prop := match E.ty d with
  | some ti => Zp E s d ti.desc x h k
  | none => False
def Aob (o : Option AV) (d : Nat) (K : Nat → Prop) : Prop := match o with
  | some v => Aiz v K
  | none => K d
def slice3 (h : H) (t : TypeId) (x : AV) (lo hi mx : Option (Option Nat)) : Option (AV × H) := Option.rec none (fun m => Fm h (Jp E h t x lo hi m)) (Pj mx)
def Lr (t : TypeId) (x : AV) (lo hi mx : Option AV) (h : H) (k : KV) : Prop := match E.ty t with
  | some ti => match isStr ti.desc with
    | true => match mx with
      | none => asS x (fun l c => Aob hi l (fun hi => Aob lo 0 (fun lo => Oo l c lo hi (fun n d => k (.str n d) h))))
      | some _ => False
    | false => oK (slice3 E h t x (lo.map Bn) (hi.map Bn) (mx.map Bn)) k
  | none => False
def Aj1 (e : TypeId) (h : H) (k : KV) : Prop := match E.ty e with
  | some i => h.Dm (rowOf e i.zero) (fun b h => k (.ptr b 0) h)
  | none => False
def Yt (t : TypeId) (x : AV) (h : H) (k : KV) : Prop := match E.ty t with
  | some ti => match isIface ti.desc with
    | true => False
    | false => k (.iface t x) h
  | none => False
def A6p (e : TypeId) (v : AV) (h : H) (k : KV) : Prop := match E.ty e with
  | some i => match i.agg with
    | true => asG v (fun cs => Bool.rec Ai (h.Dm (rowOf e cs) (fun b h => k (.ptr b 0) h)) (Nat.ble 1 (len cs)))
    | false => one v (h.Dm (rowOf e [v]) (fun b h => k (.ptr b 0) h))
  | none => False
def Aw6 (call : CF) (fv : AV) (args : List AV) (h : H) (k : KV) : Prop := Abn (CP E) call fv args h k
def inv2 (call : CF) (fv : AV) (name : String) (args : List AV) (h : H) (k : KV) : Prop := Abo (CP E) call fv name args h k
def Gr (E : Env) (f : FT) (l : List Operand) : List AV := List.rec [] (fun x _ ih => eval' E x f :: ih) l
def Dh (o : Op) (call : CF) (f : FT) (h : H) (k : KV) : Prop := match o with
  | .move x => k (eval' E x f) h
  | .assign x => k (eval' E x f) h
  | .alloc e => Aj1 E e h k
  | .box e x => A6p E e (eval' E x f) h k
  | .load t a => Abd E t (eval' E a f) h (fun v => k v h)
  | .store t a x => Ail E t (eval' E a f) (eval' E x f) h (fun h => k .undef h)
  | .binOp op t x y _ => Aoe E op t x y (eval' E x f) (eval' E y f) (fun v => k v h)
  | .unOp op _ x => un2 op (eval' E x f) (fun v => k v h)
  | .convert s d x => Uh E s d (eval' E x f) h k
  | .makeInterface t x => Yt E t (eval' E x f) h k
  | .slice t x lo hi mx => Lr E t (eval' E x f) (lo.map (fun x => eval' E x f)) (hi.map (fun x => eval' E x f)) (mx.map (fun x => eval' E x f)) h k
  | .fieldAddr t x i => Ty E t (eval' E x f) i (fun v => k v h)
  | .field t x i => Zk E t (eval' E x f) i (fun v => k v h)
  | .indexAddr t x i => Lf E t (eval' E x f) (eval' E i f) h k
  | .index t x i => Pm E t (eval' E x f) (eval' E i f) h k
  | .extract x i => ext i (eval' E x f) (fun v => k v h)
  | .call c => match c.callee with
    | .builtin b => Jh E b c.argTypes.toList (Gr E f c.args.toList) h k
    | .invoke r name => inv2 E call (eval' E r f) name (Gr E f c.args.toList) h k
    | .value v => Aw6 E call (eval' E v f) (Gr E f c.args.toList) h k
  | .makeFunc fn a b => k (.func fn (Gr E f a.toList) (Gr E f b.toList)) h
  | o => exec o (CP E) call f h k
def Ar5 (o : Op) (call : CF) (f : FT) (h : H) (k : KV) : Prop := match o with
  | .next x b => match b with
    | false => Aqs (eval' E x f) h k
    | true => Dh E (.next x true) call f h k
  | o => Dh E o call f h k
end
inductive Its where
  | nil
  | op (o : Oper) (rest : Its)
  | grp (j : Nat) (gd : Tmp) (want : Bool) (body : Its) (pk : Oper) (rest : Its)
def Its.flat : Its → List Oper
  | .nil => []
  | .op o r => o :: r.flat
  | .grp _ _ _ b pk r => b.flat ++ pk :: r.flat
def Dc (f : FT) (d : Option Tmp) (v : AV) : FT := match d with
  | some d => Af f d v
  | none => f
def Aam (l : List Oper) (f : FT) : FT := match l with
  | [] => f
  | o :: l => Aam l (Dc f o.dst .top)
def Aqf (o : Op) : Option (Operand × Operand × Operand) := match o with
  | .pick c a b => some (c, a, b)
  | _ => none
def Dl (w : Bool) (x y : Operand) : Operand := Bool.rec y x w
def A3u (E : Env) (w : Bool) (bf : List Oper) (pk : Oper) (t : Bool) (body rest : FT → H → (FT → H → Prop) → Prop) (f : FT) (h : H) (K : FT → H → Prop) : Prop := match Aqf pk.op with
  | none => False
  | some (_, x, y) => Al (fun kj => gate w t
        (body f h (fun f h => asB (eval' E (Dl w x y) f) (fun v => kj v h)))
        (asB (eval' E (Dl w y x) f) (fun v => kj v h)))
        (fun v h => rest (Dc (Aam bf f) pk.dst (.bool v)) h K)
def Fz (E : Env) (call : CF) (its : Its) : FT → H → (FT → H → Prop) → Prop := Its.rec (motive := fun _ => FT → H → (FT → H → Prop) → Prop)
  (fun f h K => K f h)
  (fun o _ ih f h K => Ar5 E o.op call f h (fun v h => coK E o.type v (fun v => ih (Dc f o.dst v) h K)))
  (fun _ gd w b pk _ ihb ihr f h K => asB (f gd) (fun t => A3u E w b.flat pk t ihb ihr f h K)) its
def Fb (a b : Option (Nat × Bool)) : Bool := match a with
  | none => match b with
    | none => true
    | some _ => false
  | some (i, v) => match b with
    | none => false
    | some (j, w) => and (Nat.beq i j) (Amv v w)
where Amv (v w : Bool) : Bool := match v with
  | true => w
  | false => match w with
    | true => false
    | false => true
def Awm (ops : List Oper) (g : Option (Nat × Bool)) (j : Nat) : Option Tmp := Option.rec none (fun o => Bool.rec none o.dst (Fb o.guard g)) (Dt ops j)
abbrev Amz := Option (Nat × Bool) → List Oper → Its × List Oper
def Sv (ops : List Oper) (ih : Amz) : Amz := fun g l => List.rec (.nil, [])
  (fun o l' _ => Bool.rec
    (Option.rec (.nil, o :: l') (fun p => Option.rec (.nil, o :: l') (fun gd =>
      Prod.rec (fun b r => List.rec (.nil, o :: l') (fun pk l'' _ => Prod.rec (fun q r => (.grp p.1 gd p.2 b pk q, r)) (ih g l'')) r) (ih (some p) (o :: l'))) (Awm ops g p.1)) o.guard)
    (Prod.rec (fun q r => (.op o q, r)) (ih g l')) (Fb o.guard g)) l
def Gm (ops : List Oper) (n : Nat) : Amz := Nat.rec (motive := fun _ => Amz) (fun _ l => (.nil, l)) (fun _ ih => Sv ops ih) n
def Yz (ops : List Oper) : Option Its := Prod.rec (fun q r => List.rec (some q) (fun _ _ _ => none) r) (Gm ops (Nat.add (Nat.mul 2 (len ops)) 2) none ops)
def allEq (r : AV → AV → Bool) (xs : List AV) : List AV → Bool := List.rec (motive := fun _ => List AV → Bool) (fun ys => List.rec true (fun _ _ _ => false) ys) (fun x _ ih ys => List.rec false (fun y ys _ => Ah (r x y) (ih ys)) ys) xs
def A3x (x y : Fn) : Bool := match x with
  | .func i => match y with | .func j => Nat.beq i j | _ => false
  | _ => false
def Ats (r : AV → AV → Bool) (x y : AV) : Bool := match x with
  | .bool a => match y with | .bool b => Afe a b | _ => false
  | .int k a => match y with | .int j b => Ah (Ag7 k j) (Av a b) | _ => false
  | .str l c => match y with | .str m d => Ah (Nat.beq l m) (Nat.beq c d) | _ => false
  | .Jt => match y with | .Jt => true | _ => false
  | .ptr a i => match y with | .ptr b j => Ah (P.beq a b) (Nat.beq i j) | _ => false
  | .Cd => match y with | .Cd => true | _ => false
  | .slice a i n z t => match y with | .slice b j m w u => Ah (Ah (P.beq a b) (Nat.beq i j)) (Ah (Ah (Nat.beq n m) (Nat.beq z w)) (Afe t u)) | _ => false
  | .Rg => match y with | .Rg => true | _ => false
  | .map a => match y with | .map b => P.beq a b | _ => false
  | .func f a c => match y with | .func g b d => Ah (A3x f g) (Ah (allEq r a b) (allEq r c d)) | _ => false
  | .Ti => match y with | .Ti => true | _ => false
  | .iface t v => match y with | .iface u w => Ah (Nat.beq t u) (r v w) | _ => false
  | .Il => match y with | .Il => true | _ => false
  | .agg xs => match y with | .agg ys => allEq r xs ys | _ => false
  | .tuple xs => match y with | .tuple ys => allEq r xs ys | _ => false
  | _ => false
def Iy (n : Nat) : AV → AV → Bool := Nat.rec (fun _ _ => false) (fun _ ih => Ats ih) n
def eqC (x y : AV) (A : Prop) : Prop := Bool.rec Ai A (Iy 4 x y)
section
variable (E : Env)
def Ee (p : TypeDesc → Bool) (t : TypeId) : Bool := match E.ty t with
  | some ti => p ti.desc
  | none => false
def Pk (d : TypeDesc) : Bool := match d with
  | .slice _ => true
  | _ => false
def Gn (d : TypeDesc) : Bool := match d with
  | .slice _ => true
  | .string => true
  | _ => false
def kindOf (o : Op) : Nat := match o with
  | .move _ => 0
  | .assign _ => 0
  | .binOp .. => 0
  | .unOp .. => 0
  | .fieldAddr .. => 0
  | .field .. => 0
  | .extract .. => 0
  | .makeInterface .. => 0
  | .makeFunc .. => 0
  | .index .. => 0
  | .indexAddr .. => 0
  | .nilCheck _ => 0
  | .build .. => 0
  | .pick .. => 0
  | .slice t _ _ _ _ => Bool.rec 1 0 (Ee E Gn t)
  | .convert s d _ => Bool.rec (Bool.rec 1 2 (Ee E Pk d)) 0 (Ah (Ed E s) (Ed E d))
  | .load .. => 1
  | .lookup .. => 1
  | .call c => match c.callee with
    | .builtin b => match b with
      | .len => match c.argTypes.toList with
        | t :: _ => Bool.rec 1 0 (Ee E Gn t)
        | [] => 1
      | .cap => 1
      | .unsafeSliceData => 1
      | .min => 1
      | .max => 1
      | _ => 2
    | _ => 2
  | _ => 2
inductive Dr where
  | nil
  | op (i : Nat) (o : Oper) (rl : List (Nat × Oper)) (rest : Dr)
  | grp (j : Nat) (gd : Tmp) (want : Bool) (body : Dr) (ip : Nat) (pk : Oper) (rest : Dr)
abbrev Tri := Nat × Oper × List (Nat × Oper)
def Xs (l : List (Nat × Oper)) : List Oper := List.rec [] (fun p _ ih => p.2 :: ih) l
abbrev Afk := Option (Nat × Bool) → List Tri → Dr × List Tri
def Qh (ops : List Oper) (ih : Afk) : Afk := fun g l => List.rec (.nil, [])
  (fun o l' _ => Bool.rec
    (Option.rec (.nil, o :: l') (fun p => Option.rec (.nil, o :: l') (fun gd =>
      Prod.rec (fun b r => List.rec (.nil, o :: l') (fun pk l'' _ => Prod.rec (fun q r => (.grp p.1 gd p.2 b pk.1 pk.2.1 q, r)) (ih g l'')) r) (ih (some p) (o :: l'))) (Awm ops g p.1)) o.2.1.guard)
    (Prod.rec (fun q r => (.op o.1 o.2.1 o.2.2 q, r)) (ih g l')) (Fb o.2.1.guard g)) l
def Fq (ops : List Oper) (n : Nat) : Afk := Nat.rec (motive := fun _ => Afk) (fun _ l => (.nil, l)) (fun _ ih => Qh ops ih) n
def My (call : CF) (rl : List Oper) (f : FT) (h : H) (A : Prop) : Prop := List.rec A (fun o _ ih => Dh E o.op call f h (fun v _ => coK E o.type v (fun v => eqC v (Option.rec .undef f o.dst) ih))) rl
def Dr.Uf (its : Dr) : List (Option Tmp) := Dr.rec [] (fun _ o _ _ ih => o.dst :: ih) (fun _ _ _ _ _ pk _ ihb ihr => Jy ihb (pk.dst :: ihr)) its
def We (l : List (Option Tmp)) (f : FT) : FT := List.rec (motive := fun _ => FT → FT) (fun f => f) (fun d _ ih f => ih (Dc f d .top)) l f
def A3t (w : Bool) (bd : List (Option Tmp)) (pk : Oper) (t : Bool) (body rest : FT → H → (FT → H → Prop) → Prop) (f : FT) (h : H) (K : FT → H → Prop) : Prop := match Aqf pk.op with
  | none => False
  | some (_, x, y) => Al (fun kj => gate w t
        (body f h (fun f h => asB (eval' E (Dl w x y) f) (fun v => kj v h)))
        (asB (eval' E (Dl w y x) f) (fun v => kj v h)))
        (fun v h => rest (Dc (We bd f) pk.dst (.bool v)) h K)
def Io (call : CF) (its : Dr) : FT → H → (FT → H → Prop) → Prop := Dr.rec (motive := fun _ => FT → H → (FT → H → Prop) → Prop)
  (fun f h K => K f h)
  (fun _ o rl _ ih f h K => Dh E o.op call f h (fun v h => coK E o.type v (fun v => My E call (Xs rl) (Dc f o.dst v) h (ih (Dc f o.dst v) h K))))
  (fun _ gd w b _ pk _ ihb ihr f h K => asB (f gd) (fun t => A3t E w b.Uf pk t ihb ihr f h K)) its
end
def Sh (acc : List Nat) (es : List Edge) : Nat := List.rec 0 (fun e _ ih => Bool.rec ih (Nat.lor ih (Nat.lor (Nat.shiftLeft 1 e.on) (Option.rec 0 (fun m => m) (Dt acc e.on)))) (Region.binds .any e)) es
def Gx (l : List Oper) : List Nat → List Nat := List.rec (motive := fun _ => List Nat → List Nat) (fun acc => acc) (fun o _ ih acc => ih (Jy acc [Sh acc o.after.toList])) l
def bit (m i : Nat) : Bool := Nat.beq (Nat.mod (Nat.shiftRight m i) 2) 1
def Ani (E : Env) (_ms : List Nat) (m : Nat) (g : Option (Nat × Bool)) (done : List (Nat × Oper)) : List (Nat × Oper) := List.rec [] (fun p _ ih => Bool.rec ih (p :: ih) (Ah (Nat.beq (kindOf E p.2.op) 1) (Ah (Bool.rec (Fb p.2.guard g) true (Fb p.2.guard none)) (Ck (bit m p.1))))) done
def Tq (o : Op) : Bool := match o with
  | .alloc _ => true
  | .makeMap _ r => match r with
    | none => true
    | some _ => false
  | .makeSlice _ _ _ => true
  | .buildSlice _ _ _ => true
  | _ => false
def Aqx (o : Op) (ms : List Nat) (i : Nat) (pl : List Nat) : Nat := Bool.rec (Option.rec 0 (fun m => m) (Dt ms i)) (Bool.rec 0 (Option.rec 0 (fun m => m) (Dt ms i)) (List.rec true (fun j _ ih => Bool.rec false ih (bit (Option.rec 0 (fun m => m) (Dt ms j)) i)) pl)) (Tq o)
def triples (E : Env) (ops : List Oper) (ms pl : List Nat) : List (Nat × Oper) → List Tri := List.rec (motive := fun _ => List (Nat × Oper) → List Tri) (fun _ => [])
  (fun i pl ih done => Option.rec [] (fun o => (i, o, Bool.rec [] (Ani E ms (Aqx o.op ms i pl) o.guard done) (Nat.beq (kindOf E o.op) 2)) :: ih (Jy done [(i, o)])) (Dt ops i)) pl
def An2 (E : Env) (ops : List Oper) (pl : List Nat) : Option Dr := Prod.rec (fun q r => List.rec (some q) (fun _ _ _ => none) r) (Fq ops (Nat.add (Nat.mul 2 (len ops)) 2) none (triples E ops (Gx ops []) pl []))
abbrev An := List (Nat × List Nat)
def Jr (ps : An) (id : Nat) : Option (List Nat) := List.rec none (fun p _ ih => Bool.rec ih (some p.2) (Nat.beq p.1 id)) ps
inductive Pos where
  | root
  | l (p : Pos)
  | r (p : Pos)
  | lab (p : Pos) (n : Nat)
def Pos.beq (p : Pos) : Pos → Bool := Pos.rec (motive := fun _ => Pos → Bool)
  (fun q => Pos.rec true (fun _ _ => false) (fun _ _ => false) (fun _ _ _ => false) q)
  (fun _ ih q => Pos.rec false (fun q _ => ih q) (fun _ _ => false) (fun _ _ _ => false) q)
  (fun _ ih q => Pos.rec false (fun _ _ => false) (fun q _ => ih q) (fun _ _ _ => false) q)
  (fun _ n ih q => Pos.rec false (fun _ _ => false) (fun _ _ => false) (fun q m _ => Ah (Nat.beq n m) (ih q)) q) p
abbrev Ax := List (Pos × Nat)
def cutAt (cs : Ax) (p : Pos) : Option Nat := List.rec none (fun c _ ih => Bool.rec ih (some c.2) (Pos.beq c.1 p)) cs
abbrev Jump := Nat → FT → H → Prop
abbrev KX' := AX → FT → H → Prop
def Ao9 (ds : List Tmp) : List AV → FT → FT := List.rec (motive := fun _ => List AV → FT → FT) (fun _ f => f) (fun d _ ih vs f => List.rec f (fun v vs _ => ih vs (Af f d v)) vs) ds
def Al8 (E : Env) (fn : Fn) : Bool := match fn with
  | .func f => match E.fn f with
    | some fn => match fn.body with
      | some _ => !(fn.name == "runtime.NumGoroutine")
      | none => false
    | none => false
  | _ => false
def isReady (s : LoopState) : Bool := match s with
  | .ready => true
  | _ => false
def Av3 (s : LoopState) : Bool := match s with
  | .busy => false
  | _ => true
def nOf (pls : An) : Nat := Option.rec 0 (fun l => List.rec 0 (fun n _ _ => n) l) (Jr pls 4294967295)
def Wm (pls : An) : List Nat := Option.rec [] (fun l => l) (Jr pls 4294967294)
def Nq (l : List Nat) (f : FT) : FT := List.rec (fun _ => .top) (fun t _ ih => Af ih t (f t)) l
def pFs (n : Nat) : Nat → P := Nat.rec (motive := fun _ => Nat → P) (fun _ => .z) (fun _ ih m => Bool.rec (Bool.rec (.r (ih (Nat.div (Nat.sub m 2) 2))) (.l (ih (Nat.div (Nat.sub m 1) 2))) (Nat.beq (Nat.mod m 2) 1)) .z (Nat.beq m 0)) n
def Ba5 (l : P) (K : AX → H → Prop) (h : H) : Prop := Atv (h.at l) (fun f' s st pd => Bool.rec Ai (h.Sg l (.loop f' s .exhausted pd) (fun h => K pd h)) (Av3 st))
def Apm (E : Env) (call : CF) (lp : LpS) (g : AV) (f : FT) (h : H) (K : AX → H → Prop) : Prop :=
  Bc0 g (fun fn a c => Bool.rec Ai (h.Dm (.loop f lp .ready .normal) (fun l h => call fn (a ++ [.func (.yield l.nat) [] []] ++ c) h (fun _ h => Ba5 l K h))) (Al8 E fn))
def Aof (x y : AX) : Bool := match x with
  | .normal => match y with | .normal => true | _ => false
  | .exit i => match y with | .exit j => Nat.beq i j | _ => false
  | .goto i => match y with | .goto j => Nat.beq i j | _ => false
  | .ret => match y with | .ret => true | _ => false
def Bga (x : AX) (l : List AX) : Bool := List.rec false (fun y _ ih => Bool.rec ih true (Aof x y)) l
def Bcd (l : List AX) : List AX := List.rec [] (fun x _ ih => Bool.rec (x :: ih) ih (Bga x ih)) l
def Bca (id : Nat) (l : List AX) : List AX := List.rec [] (fun x _ ih => Bool.rec (x :: ih) ih (Aof x (.exit id))) l
def Amg (c : Code) : List AX := Code.rec (motive := fun _ => List AX) [] (fun _ _ _ => []) (fun _ _ x y => Jy x y) (fun _ _ _ x y => Jy x y) (fun id _ x => Bca id x) (fun _ x => x)
  (fun _ _ _ _ x y => Jy x y) (fun id => [.exit id]) (fun _ x => x) (fun _ => []) (fun l => [.goto l]) [.ret] (fun _ => []) c
def All (x : AX) (l : List AX) (K : AX → Prop) : Prop := List.rec False (fun y _ ih => cnd (Aof x y) (K y) ih) l
def opsOf (c : Code) : Array Oper := match c with
  | .region _ ops _ => ops
  | _ => #[]
theorem Axj {x y : AX} (h : Aof x y = true) : x = y := by
  cases x <;> cases y <;> first | rfl | cases h | (rw [Nat.eq_of_beq_eq_true (show Nat.beq _ _ = true from h)])
theorem Aa7 {x : AX} {K : AX → Prop} : ∀ {l : List AX}, All x l K → K x
  | [], h => h.elim
  | y :: l, h => by
    have h : cnd (Aof x y) (K y) (All x l K) := h
    cases e : Aof x y with
    | true => rw [e] at h; rw [Axj e]; exact h
    | false => rw [e] at h; exact Aa7 h
def Bik (c : Code) (p : Pos) : Code := Pos.rec c
  (fun _ ih => match ih with | .seq a _ => a | .cond _ a _ => a | .block _ a => a | .loop a => a | .scope a => a | _ => .skip)
  (fun _ ih => match ih with | .seq _ b => b | .cond _ _ b => b | _ => .skip)
  (fun _ n ih => match ih with | .scope a => Option.rec .skip (fun c => c) (findLabel a n) | _ => .skip) p
section
variable (E : Env) (call : CF) (pls : An) (cuts : Ax) (J : Jump)
def enter (p : Pos) (f : FT) (h : H) (A : Prop) : Prop := Option.rec A (fun L => J L f h) (cutAt cuts p)
def A0r (B : FT → H → KX' → Prop) (K : KX') : KX' := fun x f h => AX.rec (B f h K) (fun id => K (.exit id) f h) (fun l => K (.goto l) f h) (K .ret f h) x
def Ajv (id : Nat) (K : KX') : KX' := fun x f h => AX.rec (K .normal f h) (fun j => Bool.rec (K (.exit j) f h) (K .normal f h) (Nat.beq j id)) (fun l => K (.goto l) f h) (K .ret f h) x
def Aq1 (B : FT → H → Prop) (K : KX') : KX' := fun x f h => AX.rec (B f h) (fun id => K (.exit id) f h) (fun l => K (.goto l) f h) (K .ret f h) x
def Xu (c : Code) (B : Nat → FT → H → Prop) (K : KX') : KX' := fun x f h => AX.rec (K .normal f h) (fun id => K (.exit id) f h) (fun l => Option.rec (K (.goto l) f h) (fun _ => B l f h) (findLabel c l)) (K .ret f h) x
def Bcb (id : Nat) (ops : List Oper) (f : FT) (h : H) (K : FT → H → Prop) : Prop := oV (Jr pls id) (fun pl => List.rec False (fun _ _ _ => oV (An2 E ops pl) (fun its => Io E call its f h K)) pl)
def A84 (id : Nat) (ops : List Oper) (d : Bool) (f : FT) (h : H) (K : FT → H → Prop) : Prop := Bool.rec (Option.rec (oV (Yz ops) (fun its => Fz E call its f h K)) (fun _ => False) (Jr pls id)) (Bcb E call pls id ops f h K) d
abbrev Oq := Pos → FT → H → KX' → Prop
def A80 (a b : Oq) : Oq := fun p f h K => a (.l p) f h (A0r (b (.r p)) K)
def Axx (c : Operand) (a b : Oq) : Oq := fun p f h K => asB (eval' E c f) (fun t => Bool.rec (b (.r p) f h K) (a (.l p) f h K) t)
def Apc (id : Nat) (a : Oq) : Oq := fun p f h K => a (.l p) f h (Ajv id K)
def Axw (a : Oq) : Oq := fun p f h K => a (.l p) f h (Aq1 (fun f h => enter cuts J p f h False) K)
def Apa (c : Code) (a : Oq) : Oq := fun p f h K => a (.l p) f h (Xu c (fun l f h => enter cuts J (.lab p l) f h False) K)
def A81 (id : Nat) (ops : List Oper) (d : Bool) : Oq := fun _ f h K => A84 E call pls id ops d f h (fun f h => K .normal f h)
def Apb (g : Operand) (ps : Array Tmp) (as bd : Code) : Oq := fun _ f h K => Apm E call ⟨ps.toList, as, bd, pls, nOf pls⟩ (eval' E g f) (Nq (Wm pls) f) h (fun x h => All x (.normal :: Bcd (Amg bd)) (fun y => K y f h))
def Oa (a : Oq) : Oq := fun p f h K => enter cuts J p f h (a p f h K)
def Xz (c : Code) : Oq := Code.rec (motive := fun _ => Oq)
  (Oa cuts J (fun _ f h K => K .normal f h)) (fun id ops d => Oa cuts J (A81 E call pls id ops.toList d)) (fun _ _ a b => Oa cuts J (A80 a b)) (fun c _ _ a b => Oa cuts J (Axx E c a b)) (fun id _ a => Oa cuts J (Apc id a)) (fun _ a => Oa cuts J (Axw cuts J a))
  (fun g ps as bd _ _ => Oa cuts J (Apb E call pls g ps as bd)) (fun id => Oa cuts J (fun _ f h K => K (.exit id) f h)) (fun c a => Oa cuts J (Apa cuts J c a)) (fun _ => Oa cuts J (fun _ f h K => K .normal f h)) (fun l => Oa cuts J (fun _ f h K => K (.goto l) f h)) (Oa cuts J (fun _ f h K => K .ret f h)) (fun _ => fun _ _ _ _ => False) c
def Axu (c : Code) : Oq := Code.rec (motive := fun _ => Oq)
  (fun _ f h K => K .normal f h) (fun id ops d => A81 E call pls id ops.toList d) (fun a b _ _ => A80 (Xz E call pls cuts J a) (Xz E call pls cuts J b)) (fun c a b _ _ => Axx E c (Xz E call pls cuts J a) (Xz E call pls cuts J b)) (fun id a _ => Apc id (Xz E call pls cuts J a)) (fun a _ => Axw cuts J (Xz E call pls cuts J a))
  (fun g ps as bd _ _ => Apb E call pls g ps as bd) (fun id => fun _ f h K => K (.exit id) f h) (fun c _ => Apa cuts J c (Xz E call pls cuts J c)) (fun _ => fun _ f h K => K .normal f h) (fun l => fun _ f h K => K (.goto l) f h) (fun _ f h K => K .ret f h) (fun _ => fun _ _ _ _ => False) c
abbrev CK := Option (Code × KX')
def ckL (p : Pos) (c : Code) (K : KX') : CK := Code.rec (motive := fun _ => CK) none (fun _ _ _ => none) (fun a b _ _ => some (a, A0r (Xz E call pls cuts J b (.r p)) K)) (fun _ a _ _ _ => some (a, K)) (fun id a _ => some (a, Ajv id K))
  (fun a _ => some (a, Aq1 (fun f h => enter cuts J p f h False) K)) (fun _ _ _ _ _ _ => none) (fun _ => none) (fun a _ => some (a, Xu a (fun l f h => enter cuts J (.lab p l) f h False) K)) (fun _ => none) (fun _ => none) none (fun _ => none) c
def ckR (c : Code) (K : KX') : CK := Code.rec (motive := fun _ => CK) none (fun _ _ _ => none) (fun _ b _ _ => some (b, K)) (fun _ _ b _ _ => some (b, K)) (fun _ _ _ => none)
  (fun _ _ => none) (fun _ _ _ _ _ _ => none) (fun _ => none) (fun _ _ => none) (fun _ => none) (fun _ => none) none (fun _ => none) c
def Ayg (p : Pos) (n : Nat) (c : Code) (K : KX') : CK := Code.rec (motive := fun _ => CK) none (fun _ _ _ => none) (fun _ _ _ _ => none) (fun _ _ _ _ _ => none) (fun _ _ _ => none)
  (fun _ _ => none) (fun _ _ _ _ _ _ => none) (fun _ => none) (fun a _ => Option.rec none (fun r => some (r, Xu a (fun l f h => enter cuts J (.lab p l) f h False) K)) (findLabel a n)) (fun _ => none) (fun _ => none) none (fun _ => none) c
def Uj (c0 : Code) (K0 : KX') (p : Pos) : CK := Pos.rec (some (c0, K0))
  (fun p ih => Option.rec none (fun q => ckL E call pls cuts J p q.1 q.2) ih) (fun _ ih => Option.rec none (fun q => ckR q.1 q.2) ih) (fun p n ih => Option.rec none (fun q => Ayg cuts J p n q.1 q.2) ih) p
def Ix (c0 : Code) (K0 : KX') (p : Pos) (f : FT) (h : H) : Prop := Option.rec False (fun q => Axu E call pls cuts J q.1 p f h q.2) (Uj E call pls cuts J c0 K0 p)
def noJ : Jump := fun _ _ _ => False
def Bic (l : P) (k : KV) : KX' := fun x _ h => Atv (h.at l) (fun f s _ _ => AX.rec (h.Sg l (.loop f s .ready .normal) (fun h => k (.bool true) h)) (fun id => h.Sg l (.loop f s .done (.exit id)) (fun h => k (.bool false) h))
  (fun t => h.Sg l (.loop f s .done (.goto t)) (fun h => k (.bool false) h)) (h.Sg l (.loop f s .done .ret) (fun h => k (.bool false) h)) x)
def Bf9 (l : P) (s : LpS) (k : KV) : KX' := fun x f h => AX.rec (Atv (h.at l) (fun f' s' st pd => Bool.rec Ai (h.Sg l (.loop f' s' .busy pd) (fun h => Xz E call s.pls [] noJ s.body .root f h (Bic l k))) (isReady st))) (fun _ => False) (fun _ => False) False x
def Ayq (chk : LpS → Bool) (l : P) (args : List AV) (h : H) (k : KV) : Prop := Atv (h.at l) (fun f s _ _ => Bool.rec Ai (Xz E call s.pls [] noJ s.assign .root (Ao9 s.params args f) h (Bf9 E call l s k)) (Ah (chk s) (Nat.beq (len args) (len s.params))))
def Aie (chk : LpS → Bool) (n : Nat) (args : List AV) (h : H) (k : KV) : Prop := Bool.rec Ai (Ayq E call chk (pFs 64 n) args h k) (Nat.beq (P.nat (pFs 64 n)) n)
def A0v (f : FT) (h : H) (r : ResultVar) (k : AV → Prop) : Prop := ResultVar.rec (fun t => k (f t)) (fun a t => Abd E t (f a) h k) r
def Af9 (f : FT) (h : H) (rs : List ResultVar) : (List AV → Prop) → Prop := List.rec (motive := fun _ => (List AV → Prop) → Prop) (fun k => k []) (fun r _ ih k => A0v E f h r (fun v => ih (fun l => k (v :: l)))) rs
def Akc (l : List AV) : AV := List.rec (.tuple []) (fun v r _ => List.rec v (fun _ _ _ => .tuple (v :: r)) r) l
def Aw (rs : List ResultVar) (k : KV) : KX' := fun x f h => AX.rec (Af9 E f h rs (fun l => k (Akc l) h)) (fun _ => False) (fun _ => False) (Af9 E f h rs (fun l => k (Akc l) h)) x
end
end Go.Den
namespace Go.Den
open Go.RowKit
theorem Bay (n : Nat) (K : Nat → Prop) : fN n K = K n := rfl
theorem As (n : Int) (K : Int → Prop) : fI n K = K n := by cases n <;> rfl
theorem Dz : ¬ Ai := fun h => h
theorem Al6 {a b : IntKind} (h : Ag7 a b = true) : a = b := by cases a <;> cases b <;> first | rfl | cases h
theorem Rb {k : IntKind} {v : AV} {K : Int → Prop} (h : asI k v K) : ∃ n, v = .int k n ∧ K n := by
  cases v <;> try exact (Dz h).elim
  rename_i j n
  have h : (Bool.rec Ai (K n) (Ag7 k j) : Prop) := h
  cases hk : Ag7 k j with
  | false => rw [hk] at h; exact (Dz h).elim
  | true => rw [hk] at h; cases Al6 hk; exact ⟨n, rfl, by assumption⟩
theorem Us {v : AV} {K : Int → Prop} (h : Aoh v K) : ∃ k n, v = .int k n ∧ K n := by
  cases v <;> first | exact (Dz h).elim | exact ⟨_, _, rfl, h⟩
theorem Gq {v : AV} {K : Bool → Prop} (h : asB v K) : ∃ b, v = .bool b ∧ K b := by
  cases v <;> first | exact (Dz h).elim | exact ⟨_, rfl, h⟩
theorem Km {v : AV} {K : Nat → Nat → Prop} (h : asS v K) : ∃ l c, v = .str l c ∧ K l c := by
  cases v <;> first | exact (Dz h).elim | exact ⟨_, _, rfl, h⟩
theorem Lo {v : AV} {K : P → Nat → Prop} (h : asP v K) : ∃ b o, v = .ptr b o ∧ K b o := by
  cases v <;> first | exact (Dz h).elim | exact ⟨_, _, rfl, h⟩
theorem Ut {v : AV} {K : List AV → Prop} (h : asG v K) : ∃ cs, v = .agg cs ∧ K cs := by
  cases v <;> first | exact (Dz h).elim | exact ⟨_, rfl, h⟩
theorem Amx {v : AV} {K : List AV → Prop} (h : asT v K) : ∃ cs, v = .tuple cs ∧ K cs := by
  cases v <;> first | exact (Dz h).elim | exact ⟨_, rfl, h⟩
theorem Atw {v : AV} {K : Fn → List AV → List AV → Prop} (h : Bc0 v K) : ∃ fn a c, v = .func fn a c ∧ K fn a c := by
  cases v <;> first | exact (Dz h).elim | exact ⟨_, _, _, rfl, h⟩
theorem Ur {o : Ob FT} {K : (Nat → AV) → LpS → LoopState → AX → Prop} (h : Atv o K) : ∃ f s st pd, o = .loop f s st pd ∧ K f s st pd := by
  cases o <;> first | exact (Dz h).elim | exact ⟨_, _, _, _, rfl, h⟩
theorem Alp {v : AV} {K : Prop} (h : one v K) : v.one = true ∧ v.cells = [v] ∧ K := by
  cases v <;> first | exact (Dz h).elim | exact ⟨rfl, rfl, h⟩
theorem Nc {α : Type} {o : Option α} {K : α → Prop} (h : oV o K) : ∃ v, o = some v ∧ K v := by
  cases o with
  | none => exact h.elim
  | some v => exact ⟨v, rfl, h⟩
theorem Ma {n : Int} {K : Nat → Prop} (h : De n K) : ∃ m, n = Int.ofNat m ∧ K m := by
  cases n with
  | ofNat m => exact ⟨m, rfl, h⟩
  | negSucc m => exact h.elim
theorem Yq {v : AV} {K : Nat → Prop} (h : Aiz v K) : ∃ m, Bn v = some m ∧ K m := by
  obtain ⟨k, n, rfl, h⟩ := Us h
  obtain ⟨m, rfl, h⟩ := Ma h
  exact ⟨m, rfl, h⟩
theorem Wv {c : Bool} {K : Prop} (h : (Bool.rec False K c : Prop)) : c = true ∧ K := by
  cases c with
  | false => exact h.elim
  | true => exact ⟨rfl, h⟩
theorem Ep {c : Bool} {K : Prop} (h : (Bool.rec Ai K c : Prop)) : c = true ∧ K := by
  cases c with
  | false => exact (Dz h).elim
  | true => exact ⟨rfl, h⟩
theorem Agk {c : Bool} {K : Prop} (h : (Bool.rec K False c : Prop)) : c = false ∧ K := by
  cases c with
  | true => exact h.elim
  | false => exact ⟨rfl, h⟩
theorem Aq4 {v : AV} {K : Nat → Prop} (h : Gg v K) : (v = .Cd ∧ K 0) ∨ ∃ b o n z t, v = .slice b o n z t ∧ K n := by
  cases v <;> first | exact (Dz h).elim | exact .inl ⟨rfl, h⟩ | exact .inr ⟨_, _, _, _, _, rfl, h⟩
theorem An0 {sz i : Nat} {v : AV} {K : AV → Prop} (h : Cc sz i v K) : ∃ b o n t, v = .slice b o n sz t ∧ Nat.ble (Nat.add i 1) n = true ∧ K (.ptr b (Nat.add o (Nat.mul i sz))) := by
  cases v <;> try exact (Dz h).elim
  rename_i b o n z t
  obtain ⟨hc, h⟩ := Ep (show (Bool.rec Ai (fN (Nat.add o (Nat.mul i sz)) (fun q => K (.ptr b q))) (Ah (Nat.ble (Nat.add i 1) n) (Nat.beq sz z)) : Prop) from h)
  obtain ⟨h1, h2⟩ := Ad hc
  have e := Bb h2
  subst e
  exact ⟨b, o, n, t, rfl, h1, by assumption⟩
theorem A94 (E : Env) (k : KV) (o : Option (AV × H)) : oK o k = Dg (CP E) k o := rfl
theorem Ag (k : KV) (v : AV) (h : H) : oK (some (v, h)) k = k v h := by
  obtain ⟨m, n⟩ := h
  show Bu v (fun v => Jv m (fun m => k v ⟨m, n⟩)) = _
  rw [By, Iw]
theorem Aqo {k : KV} {o : Option (AV × H)} (h : oK o k) : ∃ v h', o = some (v, h') ∧ k v h' := by
  cases o with
  | none => exact h.elim
  | some p => obtain ⟨v, h'⟩ := p; rw [Ag] at h; exact ⟨v, h', rfl, h⟩
section
variable {E : Env}
theorem Aw0 {d : TypeDesc} {v : AV} {K : AV → Prop} (h : coD d v K) : K v := by
  unfold coD at h
  split at h
  · obtain ⟨n, rfl, h2⟩ := Rb h; exact h2
  · obtain ⟨b, rfl, h2⟩ := Gq h; exact h2
  · obtain ⟨l, c, rfl, h2⟩ := Km h; exact h2
  · exact h
theorem Uk {t : TypeId} {v : AV} {K : AV → Prop} (h : coK E t v K) : K v := by
  unfold coK at h
  split at h
  · exact Aw0 h
  · exact h
theorem Zu {op : BinOp} {k : IntKind} {a b : Int} {g : Nat → Nat → Nat} (hg : ∀ x y, Ah2 op k x y = some (.int k (.ofNat (g x y)))) {K : AV → Prop} (h : Ml g k a b (fun n => K (.int k n))) : ∃ v, Ah1 op k a b = some v ∧ K v := by
  obtain ⟨x, rfl, h⟩ := Ma h
  obtain ⟨y, rfl, h⟩ := Ma h
  obtain ⟨hc, h⟩ := Wv h
  refine ⟨_, ?_, h⟩
  show (Bool.rec none (Ah2 op k x y) (Ah (Nat.ble x (intMax k)) (Nat.ble y (intMax k))) : Option AV) = _
  rw [hc, hg]
theorem Atr {op : BinOp} {k : IntKind} {a b : Int} {K : AV → Prop} (h : bI op k a b K) : ∃ v, Zv op k a b = some v ∧ K v := by
  cases op <;> simp only [bI] at h
  case add => rw [As] at h; exact ⟨_, rfl, h⟩
  case sub => rw [As] at h; exact ⟨_, rfl, h⟩
  case mul => rw [As] at h; exact ⟨_, rfl, h⟩
  case quo =>
    obtain ⟨hc, h⟩ := Agk h
    rw [As] at h
    refine ⟨_, ?_, h⟩
    show A3o k a b = _
    unfold A3o; rw [hc]; rfl
  case rem =>
    obtain ⟨hc, h⟩ := Agk h
    rw [As] at h
    refine ⟨_, ?_, h⟩
    show A3m k a b = _
    unfold A3m; rw [hc]
  case and => exact Zu (fun _ _ => rfl) h
  case or => exact Zu (fun _ _ => rfl) h
  case xor => exact Zu (fun _ _ => rfl) h
  case shl =>
    obtain ⟨m, rfl, h2⟩ := Ma h
    rw [As] at h2
    exact ⟨_, rfl, h2⟩
  case shr =>
    obtain ⟨m, rfl, h2⟩ := Ma h
    rw [As] at h2
    exact ⟨_, rfl, h2⟩
  case eql => exact ⟨_, rfl, h⟩
  case neq => exact ⟨_, rfl, h⟩
  case lss => exact ⟨_, rfl, h⟩
  case leq => exact ⟨_, rfl, h⟩
  case gtr => exact ⟨_, rfl, h⟩
  case geq => exact ⟨_, rfl, h⟩
theorem A6u {op : BinOp} {l c m d : Nat} {K : AV → Prop} (h : bS op l c m d K) : ∃ v, Afc op l c m d = some v ∧ K v := by
  cases op <;> simp only [bS] at h
  case add =>
    obtain ⟨hc, h⟩ := Wv h
    refine ⟨_, ?_, h⟩
    show (Bool.rec none _ (Nat.ble (Nat.add l m) (intMax .i64)) : Option AV) = _
    rw [hc]
  all_goals exact ⟨_, rfl, h⟩
theorem Atn {op : BinOp} {t : TypeId} {x y : AV} {K : AV → Prop} (h : Ato E op t x y K) : ∃ v, Hi E op t x y = some v ∧ K v := by
  unfold Ato at h
  split at h
  · unfold A6t at h
    split at h
    · obtain ⟨a, rfl, h2⟩ := Rb h
      clear h
      unfold A6v at h2
      rename_i k _
      cases hs : Al3 op with
      | true =>
        rw [hs] at h2
        obtain ⟨j, b, rfl, h3⟩ := Us h2
        obtain ⟨v, hv, h4⟩ := Atr h3
        refine ⟨v, ?_, h4⟩
        show (Bool.rec none (Zv op k a b) (sameKind op k j) : Option AV) = _
        have : sameKind op k j = true := by cases op <;> first | rfl | cases hs
        rw [this]; exact hv
      | false =>
        rw [hs] at h2
        obtain ⟨b, rfl, h3⟩ := Rb h2
        obtain ⟨v, hv, h4⟩ := Atr h3
        refine ⟨v, ?_, h4⟩
        show (Bool.rec none (Zv op k a b) (sameKind op k k) : Option AV) = _
        have : sameKind op k k = true := by cases op <;> first | rfl | exact decide_eq_true rfl
        rw [this]; exact hv
    · obtain ⟨l, c, rfl, h2⟩ := Km h
      obtain ⟨m, d, rfl, h3⟩ := Km h2
      obtain ⟨v, hv, h4⟩ := A6u h3
      exact ⟨v, hv, h4⟩
    · exact Nc h
  · exact h.elim
theorem Atm {op : BinOp} {t : TypeId} {ox oy : Operand} {x y : AV} {K : AV → Prop} (h : Aoe E op t ox oy x y K) : ∃ v, Ah3 E op t ox oy x y = some v ∧ K v := by
  unfold Aoe at h
  unfold Ah3
  cases ha : Ajy E op t ox oy with
  | false => rw [ha] at h; exact Atn h
  | true =>
    rw [ha] at h
    have h : oV (Ajw E op t x y) K := h
    show ∃ v, Ajw E op t x y = some v ∧ K v
    cases hb : Ajw E op t x y with
    | none => rw [hb] at h; exact h.elim
    | some v => rw [hb] at h; exact ⟨v, rfl, h⟩
theorem Auv {op : UnOp} {x : AV} {K : AV → Prop} (h : un2 op x K) : ∃ v, unA op x = some v ∧ K v := by
  unfold un2 at h
  split at h
  · obtain ⟨b, rfl, h2⟩ := Gq h
    refine ⟨_, rfl, ?_⟩
    cases b <;> exact h2
  · exact Nc h
end
end Go.Den
namespace Go.Den
open Go.RowKit
section
variable {E : Env} {call : CF} {f : FT} {h : H} {k : KV}
theorem Gz {o : Option (AV × H)} {v : AV} {h' : H} (e : o = some (v, h')) (hk : k v h') : Dg (CP E) k o := by
  rw [e, ← A94, Ag]; exact hk
theorem Pp {l : List Operand} : Gr E f l = l.map fun x => eval (CP E) x f := by
  induction l with
  | nil => rfl
  | cons x l ih => show eval' E x f :: Gr E f l = _; rw [ih]; rfl
theorem Aok {e : TypeId} (hg : Aj1 E e h k) : Dg (CP E) k (Xb e (E.ty e) h) := by
  unfold Aj1 at hg
  split at hg
  · rename_i i hi
    rw [Qn] at hg
    refine Gz ?_ hg
    rw [hi]; rfl
  · exact hg.elim
theorem Agx {t : TypeId} {a : AV} (hg : Abd E t a h (fun v => k v h)) : (Wi.rec False (fun b off => Option.rec False (fun i => Si (CP E) h k b off i) (E.ty t)) (Rx a) : Prop) := by
  unfold Abd at hg
  split at hg
  · rename_i i hi
    split at hg
    · rename_i ha
      obtain ⟨b, o, rfl, hg⟩ := Lo hg
      show (Option.rec False (fun i => Si (CP E) h k b o i) (E.ty t) : Prop)
      rw [hi]
      show (Bool.rec _ (h.Ka b o i.size False (fun l => k (.agg l) h)) i.agg : Prop)
      rw [ha]; exact hg
    · rename_i ha
      obtain ⟨b, o, rfl, hg⟩ := Lo hg
      show (Option.rec False (fun i => Si (CP E) h k b o i) (E.ty t) : Prop)
      rw [hi]
      show (Bool.rec (h.Hy b o False (fun v => k v h)) _ i.agg : Prop)
      rw [ha]; exact hg
  · exact hg.elim
theorem Am8 {t : TypeId} {a v : AV} (hg : Ail E t a v h (fun h => k .undef h)) : (Wi.rec False (fun b off => Option.rec False (fun i => Bu v (fun v => Mx (CP E) h k b off v i)) (E.ty t)) (Rx a) : Prop) := by
  unfold Ail at hg
  split at hg
  · rename_i i hi
    split at hg
    · obtain ⟨b, o, rfl, hg⟩ := Lo hg
      obtain ⟨cs, rfl, hg⟩ := Ut hg
      obtain ⟨hc, hg⟩ := Ep hg
      show (Option.rec False (fun i => Bu (.agg cs) (fun v => Mx (CP E) h k b o v i)) (E.ty t) : Prop)
      rw [hi]
      show Bu (.agg cs) (fun v => Mx (CP E) h k b o v i)
      rw [By]
      show (Bool.rec False (h.Gs b o cs False (fun h => k .undef h)) (Ah (Nat.beq (len cs) i.size) (Nat.ble 1 i.size)) : Prop)
      rw [hc]; exact hg
    · split at hg
      · rename_i hs
        obtain ⟨b, o, rfl, hg⟩ := Lo hg
        obtain ⟨h1, h2, hg⟩ := Alp hg
        show (Option.rec False (fun i => Bu v (fun v => Mx (CP E) h k b o v i)) (E.ty t) : Prop)
        rw [hi]
        show Bu v (fun v => Mx (CP E) h k b o v i)
        rw [By]
        show (Bool.rec False (h.Gs b o v.cells False (fun h => k .undef h)) (Ah (Nat.beq (len v.cells) i.size) (Nat.ble 1 i.size)) : Prop)
        rw [h2, Bb hs]; exact hg
      · exact hg.elim
  · exact hg.elim
theorem Axe {e : TypeId} {v : AV} (hg : A6p E e v h k) : Bu v (fun v => (Bool.rec False (h.Dm (rowOf e v.cells) (fun b h => k (.ptr b 0) h)) (Nat.ble 1 (len v.cells)) : Prop)) := by
  rw [By]
  unfold A6p at hg
  split at hg
  · split at hg
    · obtain ⟨cs, rfl, hg⟩ := Ut hg
      exact hg
    · obtain ⟨h1, h2, hg⟩ := Alp hg
      rw [h2]; exact hg
  · exact hg.elim
theorem Ajf {t : TypeId} {x : AV} {i : Nat} (hg : Ty E t x i (fun v => k v h)) : (Wi.rec False (fun b off => Option.rec False (fun o => k (.ptr b (Nat.add off o)) h) (Vg E t i)) (Rx x) : Prop) := by
  unfold Ty at hg
  split at hg
  · rename_i o ho
    obtain ⟨b, q, rfl, hg⟩ := Lo hg
    show (Option.rec False (fun o => k (.ptr b (Nat.add q o)) h) (Vg E t i) : Prop)
    rw [ho]; exact hg
  · exact hg.elim
theorem Anx {t : TypeId} {x : AV} {i : Nat} (hg : Zk E t x i (fun v => k v h)) : Dg (CP E) k (Qs E t x i h) := by
  unfold Zk at hg
  split at hg
  · rename_i p hp
    unfold Amc at hp
    split at hp <;> try cases hp
    rename_i ti hti
    split at hp <;> try cases hp
    rename_i fs hfs
    split at hp <;> try cases hp
    rename_i q hq
    split at hp <;> cases hp
    rename_i fi hfi
    have key : ∀ cs r, part E q.2 cs q.1 = some r → Qs E t (.agg cs) i h = some (r, h) := fun cs r hr => by
      show (Option.rec none (fun ti => match ti.desc with
        | .struct fs => Option.rec none (fun p => Fm h (part E p.2 cs p.1)) (Md fs.toList i)
        | _ => none) (E.ty t) : Option (AV × H)) = _
      rw [hti]
      simp only [hfs, hq]
      show Fm h (part E q.2 cs q.1) = _
      rw [hr]; rfl
    split at hg
    · rename_i ha
      have ha : fi.agg = true := ha
      obtain ⟨cs, rfl, hg2⟩ := Ut hg
      refine Gz (key cs (.agg (Lu fi.size (Pv q.1 cs))) ?_) hg2
      show (Option.rec none (fun i => Bool.rec (Dt cs q.1) (some (.agg (Lu i.size (Pv q.1 cs)))) i.agg) (E.ty q.2) : Option AV) = _
      rw [hfi]
      show (Bool.rec (Dt cs q.1) (some (.agg (Lu fi.size (Pv q.1 cs)))) fi.agg : Option AV) = _
      rw [ha]
    · rename_i ha
      have ha : fi.agg = false := ha
      obtain ⟨cs, rfl, hg2⟩ := Ut hg
      obtain ⟨v, hv, hg3⟩ := Nc hg2
      refine Gz (key cs v ?_) hg3
      show (Option.rec none (fun i => Bool.rec (Dt cs q.1) (some (.agg (Lu i.size (Pv q.1 cs)))) i.agg) (E.ty q.2) : Option AV) = _
      rw [hfi]
      show (Bool.rec (Dt cs q.1) (some (.agg (Lu fi.size (Pv q.1 cs)))) fi.agg : Option AV) = _
      rw [ha]; exact hv
  · exact hg.elim
theorem Ajb {t : TypeId} {x i : AV} (hg : Lf E t x i h k) : Dg (CP E) k (Eg E t x (Bn i) h) := by
  unfold Lf at hg
  split at hg
  · rename_i e he
    split at hg
    · rename_i ei hei
      obtain ⟨m, hm, hg⟩ := Yq hg
      obtain ⟨b, o, n, q, rfl, h1, hg⟩ := An0 hg
      refine Gz ?_ hg
      rw [hm]
      show Qr E t b o n ei.size m h = _
      unfold Qr Ak
      rw [he]
      show (Option.rec none (fun ti => Bool.rec none _ _) (E.ty e) : Option (AV × H)) = _
      rw [hei]
      show (Bool.rec none (some (.ptr b (Nat.add o (Nat.mul m ei.size)), h)) (Ah (Nat.ble (Nat.add m 1) n) (Nat.beq ei.size ei.size)) : Option (AV × H)) = _
      rw [h1, Nat.beq_refl]; rfl
    · exact hg.elim
  · exact hg
theorem Ans {t : TypeId} {x i : AV} (hg : Pm E t x i h k) : Dg (CP E) k (Lh E t x (Bn i) h) := by
  unfold Pm at hg
  split at hg
  · rename_i ti hti
    split at hg
    · rename_i hs
      obtain ⟨l, c, rfl, hg⟩ := Km hg
      obtain ⟨m, hm, hg⟩ := Yq hg
      obtain ⟨hc, hg⟩ := Wv hg
      refine Gz ?_ hg
      rw [hm]
      show (Option.rec none (fun ti => Bool.rec none (Bool.rec none (some (.int .u8 (.ofNat (Fa c m)), h)) (Nat.ble (Nat.add m 1) l)) (isStr ti.desc)) (E.ty t) : Option (AV × H)) = _
      rw [hti]
      show (Bool.rec none (Bool.rec none (some (.int .u8 (.ofNat (Fa c m)), h)) (Nat.ble (Nat.add m 1) l)) (isStr ti.desc) : Option (AV × H)) = _
      rw [hs, hc]
    · exact hg
  · exact hg.elim
theorem A33 {i : Nat} {x : AV} (hg : ext i x (fun v => k v h)) : Dg (CP E) k (Mi x i h) := by
  obtain ⟨cs, rfl, hg⟩ := Amx hg
  obtain ⟨v, hv, hg⟩ := Nc hg
  refine Gz ?_ hg
  show Fm h (Dt cs i) = _
  rw [hv]; rfl
theorem Awa {ats : List TypeId} {x : AV} (hg : Anq E ats x h k) : Dg (CP E) k (Uq E ats x h) := by
  unfold Anq at hg
  split at hg
  · rename_i t ht
    split at hg
    · rename_i ti hti
      have e : Uq E ats x h = Aq5 E ti.desc x h := by
        unfold Uq; rw [ht]
        show (Option.rec none (fun ti => Aq5 E ti.desc x h) (E.ty t) : Option (AV × H)) = _
        rw [hti]
      unfold Ag0 at hg
      split at hg
      · rename_i hd
        obtain ⟨l, c, rfl, hg2⟩ := Km hg
        exact Gz (e.trans (by rw [hd]; rfl)) hg2
      · rename_i hd
        rcases Aq4 hg with ⟨rfl, hg2⟩ | ⟨b, o, n, z, q, rfl, hg2⟩
        · exact Gz (e.trans (by rw [hd]; rfl)) hg2
        · exact Gz (e.trans (by rw [hd]; rfl)) hg2
      · exact hg
    · exact hg.elim
  · exact hg.elim
theorem Ahz {b : Builtin} {ats : List TypeId} {args : List AV} (hg : Jh E b ats args h k) : Dg (CP E) k (Bw E b ats args h) := by
  unfold Jh at hg
  split at hg
  · split at hg
    · exact Awa hg
    · exact hg.elim
  · exact hg
theorem Asu {s d : TypeId} {x : AV} (hg : Uh E s d x h k) : Dg (CP E) k (Ie E h s d x) := by
  unfold Uh at hg
  split at hg
  · rename_i ti hti
    unfold Zp at hg
    split at hg
    · rename_i kd hd
      split at hg
      · obtain ⟨j, n, rfl, hg2⟩ := Us hg
        rw [As] at hg2
        refine Gz ?_ hg2
        unfold Ie; rw [hti]
        show Amq E h s ti.desc (.int j n) = _
        rw [hd]; rfl
      · exact hg
    · exact hg
  · exact hg.elim
theorem Ah0 {o : Option AV} {d : Nat} {K : Nat → Prop} (hg : Aob o d K) : ∃ n, bound d (o.map Bn) = some n ∧ K n := by
  cases o with
  | none => exact ⟨d, rfl, hg⟩
  | some v => obtain ⟨m, hm, hg⟩ := Yq hg; exact ⟨m, hm, hg⟩
theorem Vh {o : Option Operand} : Po (CP E) f o = (o.map fun x => eval' E x f).map Bn := by cases o <;> rfl
theorem Ane {t : TypeId} {x : AV} {lo hi mx : Option AV} (hg : Lr E t x lo hi mx h k) :
    Dg (CP E) k (Option.rec none (fun m => Fm h (Jp E h t x (lo.map Bn) (hi.map Bn) m)) (Pj (mx.map Bn))) := by
  unfold Lr at hg
  split at hg
  · rename_i ti hti
    split at hg
    · rename_i hs
      split at hg
      · obtain ⟨l, c, rfl, hg⟩ := Km hg
        obtain ⟨n, hn, hg⟩ := Ah0 hg
        obtain ⟨m, hm, hg⟩ := Ah0 hg
        obtain ⟨hc, hg⟩ := Wv hg
        refine Gz ?_ hg
        show Fm h (Jp E h t (.str l c) (lo.map Bn) (hi.map Bn) none) = _
        have hd : ti.desc = .string := by
          cases hdd : ti.desc <;> rw [hdd] at hs <;> first | rfl | cases hs
        unfold Jp
        rw [hti]
        show Fm h (Xt E h ti.desc (.str l c) (lo.map Bn) (hi.map Bn) none) = _
        rw [hd]
        show Fm h (He l (lo.map Bn) (hi.map Bn) (fun lo h => Ajj c l lo h)) = _
        unfold He
        rw [hn]
        show Fm h (Option.rec none (fun lo => Ajj c l lo n) (bound 0 (lo.map Bn))) = _
        rw [hm]
        show Fm h (Bool.rec none (some (.str (Nat.sub n m) (Uy c m n))) (Ah (Nat.ble m n) (Nat.ble n l))) = _
        rw [hc]; rfl
      · exact hg.elim
    · exact hg
  · exact hg.elim
theorem Ago {t : TypeId} {x : AV} (hg : Yt E t x h k) : Dg (CP E) k (Me E t x h) := by
  unfold Yt at hg
  split at hg
  · rename_i ti hti
    split at hg
    · exact hg.elim
    · rename_i hi
      refine Gz ?_ hg
      unfold Me; rw [hti]
      show (Bool.rec (some (.iface t x, h)) none (isIface ti.desc) : Option (AV × H)) = _
      rw [hi]
  · exact hg.elim
theorem Zl {o : Op} (hg : Dh E o call f h k) : exec o (CP E) call f h k := by
  cases o
  case move x => show Bu (eval (CP E) x f) (fun v => k v h); rw [By]; exact hg
  case assign x => show Bu (eval (CP E) x f) (fun v => k v h); rw [By]; exact hg
  case alloc e => exact Aok hg
  case box e x => exact Axe hg
  case load t a => exact Agx hg
  case store t a x => exact Am8 hg
  case binOp op t x y q =>
    obtain ⟨v, hv, hg⟩ := Atm (show Aoe E op t x y (eval' E x f) (eval' E y f) (fun v => k v h) from hg)
    show (Option.rec False (fun v => k v h) (Ah3 E op t x y (eval (CP E) x f) (eval (CP E) y f)) : Prop)
    have hv : Ah3 E op t x y (eval (CP E) x f) (eval (CP E) y f) = some v := hv
    rw [hv]; exact hg
  case unOp op t x =>
    obtain ⟨v, hv, hg⟩ := Auv (show un2 op (eval' E x f) (fun v => k v h) from hg)
    show (Option.rec False (fun v => k v h) (unA op (eval (CP E) x f)) : Prop)
    have hv : unA op (eval (CP E) x f) = some v := hv
    rw [hv]; exact hg
  case convert s d x => exact Asu hg
  case makeInterface t x => exact Ago hg
  case slice t x lo hi mx =>
    have := Ane (show Lr E t (eval' E x f) (lo.map (fun x => eval' E x f)) (hi.map (fun x => eval' E x f)) (mx.map (fun x => eval' E x f)) h k from hg)
    show Dg (CP E) k (Option.rec none (fun m => Fm h (Jp E h t (eval (CP E) x f) (Po (CP E) f lo) (Po (CP E) f hi) m)) (Pj (Po (CP E) f mx)))
    rw [Vh, Vh, Vh]; exact this
  case fieldAddr t x i => exact Ajf hg
  case field t x i => exact Anx hg
  case indexAddr t x i => exact Ajb hg
  case index t x i => exact Ans hg
  case extract x i => exact A33 hg
  case makeFunc fn a b =>
    have hg : k (.func fn (Gr E f a.toList) (Gr E f b.toList)) h := hg
    refine Eq.mpr (Fx (C := CP E) (f := f) a.toList _) ?_
    refine Eq.mpr (Fx (C := CP E) (f := f) b.toList _) ?_
    show k (.func fn (a.toList.map fun x => eval (CP E) x f) (b.toList.map fun x => eval (CP E) x f)) h
    rw [show (a.toList.map fun x => eval (CP E) x f) = Gr E f a.toList from Pp.symm, show (b.toList.map fun x => eval (CP E) x f) = Gr E f b.toList from Pp.symm]; exact hg
  case call c =>
    obtain ⟨callee, args, ats⟩ := c
    cases callee with
    | invoke v name =>
      have hg : Abo (CP E) call (eval (CP E) v f) name (Gr E f args.toList) h k := hg
      show Hh (CP E) f args.toList (fun l => Abo (CP E) call (eval (CP E) v f) name l h k)
      refine Eq.mpr (Fx (C := CP E) (f := f) args.toList _) ?_
      show Abo (CP E) call (eval (CP E) v f) name (args.toList.map fun x => eval (CP E) x f) h k
      rw [show (args.toList.map fun x => eval (CP E) x f) = Gr E f args.toList from Pp.symm]; exact hg
    | builtin b =>
      have hg : Jh E b ats.toList (Gr E f args.toList) h k := hg
      have := Ahz hg
      show Hh (CP E) f args.toList (fun l => Dg (CP E) k (Bw E b ats.toList l h))
      refine Eq.mpr (Fx (C := CP E) (f := f) args.toList _) ?_
      show oK (Bw E b ats.toList (args.toList.map fun x => eval (CP E) x f) h) k
      rw [show (args.toList.map fun x => eval (CP E) x f) = Gr E f args.toList from Pp.symm]; exact this
    | value v =>
      have hg : Abn (CP E) call (eval (CP E) v f) (Gr E f args.toList) h k := hg
      show Hh (CP E) f args.toList (fun l => Abn (CP E) call (eval (CP E) v f) l h k)
      refine Eq.mpr (Fx (C := CP E) (f := f) args.toList _) ?_
      show Abn (CP E) call (eval (CP E) v f) (args.toList.map fun x => eval (CP E) x f) h k
      rw [show (args.toList.map fun x => eval (CP E) x f) = Gr E f args.toList from Pp.symm]; exact hg
  all_goals exact hg
end
end Go.Den
namespace Go.Den
open Go.RowKit
theorem Atu {o : Ob FT} {K : P → Nat → List Nat → Nat → Prop} (h : Bcy o K) : ∃ m a b c, o = .Oh m a b c ∧ K m a b c := by
  cases o <;> first | exact (Dz h).elim | exact ⟨_, _, _, _, rfl, h⟩
theorem Abl {K : Ent → Prop} : ∀ {l : List Ent}, Amr K l → ∀ e ∈ l, K e
  | [], _, e, he => by cases he
  | [a], h, e, he => by rw [List.mem_singleton.1 he]; exact h
  | a :: b :: l, h, e, he => by
    obtain ⟨h1, h2⟩ := (show And (K a) (Amr K (b :: l)) from h)
    rcases List.mem_cons.1 he with rfl | he
    · exact h1
    · exact Abl h2 e he
theorem Av6 (n : Nat) : ∀ l : List Nat, Agq n l = l.toArray.contains n := by
  intro l
  have key : Agq n l = true ↔ n ∈ l := by
    induction l with
    | nil => simp [Agq]
    | cons x l ih =>
      have h : Agq n (x :: l) = (Bool.rec (Agq n l) true (Nat.beq x n) : Bool) := rfl
      rw [h, Fv]
      by_cases e : x = n
      · rw [decide_eq_true e]; simp [e]
      · rw [decide_eq_false e]
        show Agq n l = true ↔ _
        rw [ih]; simp [Ne.symm e]
  rw [Bool.eq_iff_iff, key]
  simp
theorem Ad9 {μ : Mu} (seen : List Nat) : ∀ {es : List Ent} {xs : List MapEntry}, EsR μ es xs → EsR μ (leftOf seen es) (xs.filter fun e => !seen.toArray.contains e.born)
  | [], _, h => by cases (show _ = [] from h); exact (rfl : ([] : List MapEntry) = [])
  | a :: es, _, ⟨x, xs, e, h1, h2, h3, h4⟩ => by
    subst e
    have h : leftOf seen (a :: es) = (Bool.rec (a :: leftOf seen es) (leftOf seen es) (Agq a.2.2 seen) : List Ent) := rfl
    rw [h, Av6, h3, List.filter_cons]
    cases seen.toArray.contains x.born with
    | true => exact Ad9 seen h4
    | false => exact ⟨x, _, rfl, h1, h2, h3, Ad9 seen h4⟩
theorem Abu {μ : Mu} {since : Nat} : ∀ {es : List Ent} {xs : List MapEntry}, EsR μ es xs → Aj2 since es = true → ∀ x ∈ xs, x.born < since
  | [], _, h, _, x, hx => by cases (show _ = [] from h); cases hx
  | a :: es, _, ⟨y, xs, e, h1, h2, h3, h4⟩, ha, x, hx => by
    subst e
    have ha : (Bool.rec false (Aj2 since es) (Nat.ble (Nat.add a.2.2 1) since) : Bool) = true := ha
    cases hb : Nat.ble (Nat.add a.2.2 1) since with
    | false => rw [hb] at ha; cases ha
    | true =>
      rw [hb] at ha
      rcases List.mem_cons.1 hx with rfl | hx
      · have : a.2.2 + 1 ≤ since := Bh hb
        rw [h3] at this; exact this
      · exact Abu h4 ha x hx
theorem Abt {μ : Mu} {n : Nat} : ∀ {es : List Ent} {xs : List MapEntry}, EsR μ es xs → Afj n es = true → ∃ x ∈ xs, x.born < n
  | [], _, _, h => by cases h
  | a :: es, _, ⟨y, xs, e, h1, h2, h3, h4⟩, ha => by
    subst e
    have ha : (Bool.rec (Afj n es) true (Nat.ble (Nat.add a.2.2 1) n) : Bool) = true := ha
    cases hb : Nat.ble (Nat.add a.2.2 1) n with
    | true =>
      have : a.2.2 + 1 ≤ n := Bh hb
      rw [h3] at this
      exact ⟨y, by simp, this⟩
    | false =>
      rw [hb] at ha
      obtain ⟨x, hx, hl⟩ := Abt h4 ha
      exact ⟨x, by simp [hx], hl⟩
theorem EsR.mem {μ : Mu} : ∀ {es : List Ent} {xs : List MapEntry}, EsR μ es xs → ∀ x ∈ xs, ∃ e ∈ es, VR μ e.1 x.key ∧ VR μ e.2.1 x.val ∧ e.2.2 = x.born
  | [], _, h, x, hx => by cases (show _ = [] from h); cases hx
  | a :: es, _, ⟨y, xs, e, h1, h2, h3, h4⟩, x, hx => by
    subst e
    rcases List.mem_cons.1 hx with rfl | hx
    · exact ⟨a, by simp, h1, h2, h3⟩
    · obtain ⟨e, he, hh⟩ := EsR.mem h4 x hx
      exact ⟨e, by simp [he], hh⟩
theorem Aa0 {P : Program} {w : World} (n : Nat) (hn : 0 < n) : ∃ i w', (choose (.mapNext n)).run P w = .ok i w' ∧ i < n ∧ w'.heap = w.heap ∧ w'.os = w.os ∧ w'.tape = w.tape ∧ w'.output = w.output := by
  rw [run_choose]
  by_cases h : n ≤ 1
  · exact ⟨0, w, by rw [if_pos (by simpa [Question.forced] using h)], hn, rfl, rfl, rfl, rfl⟩
  · exact ⟨(Question.mapNext n).cut (w.tape w.drawn (.mapNext n)), { w with drawn := w.drawn + 1 }, by rw [if_neg (by simpa [Question.forced] using h)], Nat.mod_lt _ hn, rfl, rfl, rfl, rfl⟩
theorem Aqr {P : Program} {μ : Mu} {h : H} {w : World} (s : Sim μ h w) {it : AV} {k : KV} (hg : Aqs it h k) {vx : Value} {ty : TypeId} (hx : VR μ it vx) :
    ∃ v w' μ' av h', (Instr.next vx false ty).run P w = .ok v w' ∧ Sim μ' h' w' ∧ Cv μ h w μ' h' w' ∧ VR μ' av v ∧ k av h' := by
  obtain ⟨b, o, rfl, hg⟩ := Lo hg
  obtain ⟨ho, hg⟩ := Ep hg
  obtain rfl := Bb ho
  obtain ⟨m, since, seen, stepped, hat, hg⟩ := Atu hg
  obtain ⟨p, hp, hg⟩ := Nc hg
  obtain ⟨hc, hg⟩ := Ep hg
  obtain ⟨hold, hstep⟩ := Ad hc
  obtain ⟨l, hl, rfl⟩ := hx
  have hob := s.ob b l (by rw [hat]; simp) hl
  rw [hat] at hob
  obtain ⟨lm, hlm, hblk, hoff⟩ := hob
  have hatm : h.at m = .map p.1 p.2 := Kx hp
  have hobm := s.ob m lm (by rw [hatm]; simp) hlm
  rw [hatm] at hobm
  obtain ⟨xs, hblkm, hes⟩ := hobm
  have hleft := Ad9 seen hes
  have hall := Abu hleft hold
  have hg : (List.rec (k (.tuple [.bool false]) h) (fun e r _ => Amr (fun e => h.Sg b (.Oh m since (Jy seen [e.2.2]) p.2) (fun h => k (.tuple [.bool true, e.1, e.2.1]) h)) (e :: r)) (leftOf seen p.1) : Prop) := hg
  have hL : (xs.filter fun e => !seen.toArray.contains e.born).toList = xs.toList.filter fun e => !seen.toArray.contains e.born := by simp
  generalize hLd : (xs.filter fun e => !seen.toArray.contains e.born) = L at hL
  have hLold : L.filter (fun e => decide (e.born < since)) = L := by
    rw [Array.filter_eq_self]
    intro x hx
    exact decide_eq_true (hall x (by rw [← hL]; exact hx.val))
  have hLnew : L.filter (fun e => decide (e.born ≥ since)) = #[] := by
    rw [Array.filter_eq_empty_iff]
    intro x hx hd
    have := hall x (by rw [← hL]; exact hx.val)
    have := of_decide_eq_true hd
    omega
  have hcond : ((!seen.toArray.isEmpty && !xs.isEmpty && xs.all (fun e => decide (e.born ≥ stepped))) = true) → False := by
    intro hb
    simp only [Bool.and_eq_true] at hb
    obtain ⟨⟨h1, h2⟩, h3⟩ := hb
    cases hs : Zb seen with
    | true =>
      cases seen with
      | nil => simp at h1
      | cons => cases hs
    | false =>
      rw [hs] at hstep
      have hstep : (Bool.rec (Afj stepped p.1) true (Zb p.1) : Bool) = true := hstep
      cases he : Zb p.1 with
      | true =>
        cases hpe : p.1 with
        | nil =>
          rw [hpe] at hes
          have hes : xs.toList = [] := hes
          rw [Array.toList_eq_nil_iff.1 hes] at h2
          simp at h2
        | cons => rw [hpe] at he; cases he
      | false =>
        rw [he] at hstep
        obtain ⟨x, hx, hlt⟩ := Abt hes hstep
        have h3 := (Array.all_eq_true_iff_forall_mem.1 h3) x (Array.mem_def.2 hx)
        have := of_decide_eq_true h3
        omega
  have hrun0 : (Instr.next (.pointer (some ⟨l.blk, l.off + 0, none⟩)) false ty).run P w = (do
      match (((if L.isEmpty then #[none] else #[]) ++ (L ++ #[]).map some : Array (Option MapEntry)))[← choose (.mapNext ((if L.isEmpty then #[none] else #[]) ++ (L ++ #[]).map some : Array (Option MapEntry)).size)]? with
      | some (some e) =>
        setObj l.blk (.mapIter (some lm.blk) since (seen.toArray.push e.born) p.2)
        pure (.tuple #[.bool true, e.key, e.val])
      | some none => pure (.tuple #[.bool false])
      | none => stuck "Next: no such candidate" : Sem Value).run P w := by
    unfold Instr.next
    simp only [hoff, Nat.zero_add]
    rw [Aa (Ea hblk (by intros; simp))]
    simp only
    rw [Aa (Ea hblkm (by intros; simp))]
    simp only
    rw [if_neg (fun hh => hcond hh), hLd, hLold, hLnew]
    rfl
  rw [hrun0]
  rw [← hL] at hleft
  cases hle : leftOf seen p.1 with
  | nil =>
    rw [hle] at hg hleft
    have hnil : L = #[] := Array.toList_eq_nil_iff.1 hleft
    obtain ⟨i, w', hr, hi, h1, h2, h3, h4⟩ := Aa0 (P := P) (w := w) 1 (by omega)
    have hi0 : i = 0 := by omega
    subst hi0
    refine ⟨.tuple #[.bool false], w', μ, .tuple [.bool false], h, ?_, s.heap h1, Cv.heap μ h h1 h2 h3 h4, ⟨_, rfl, _, _, rfl, rfl, rfl⟩, hg⟩
    have hcand : ((if L.isEmpty then #[none] else #[]) ++ (L ++ #[]).map some : Array (Option MapEntry)) = #[none] := by rw [hnil]; simp
    rw [hcand, show (#[none] : Array (Option MapEntry)).size = 1 from rfl]
    rw [Aa hr]
    rfl
  | cons e0 r =>
    rw [hle] at hg hleft
    have hpos : 0 < L.size := by
      obtain ⟨x, xs', e, _⟩ := hleft
      have : L.toList.length = (x :: xs').length := by rw [e]
      simp at this; omega
    have hne : L.isEmpty = false := by simp; intro e; rw [e] at hpos; simp at hpos
    have hcand : ((if L.isEmpty then #[none] else #[]) ++ (L ++ #[]).map some : Array (Option MapEntry)) = L.map some := by
      rw [hne]; simp
    rw [hcand]
    obtain ⟨i, w', hr, hi, h1, h2, h3, h4⟩ := Aa0 (P := P) (w := w) (L.map some).size (by simpa using hpos)
    have hi' : i < L.size := by simpa using hi
    obtain ⟨e, he, hk1, hk2, hk3⟩ := hleft.mem L[i] (by simp)
    have hke := Abl hg e he
    have s1 := s.heap h1
    have hblk' : w'.heap[l.blk]? = some (.mapIter (some lm.blk) since seen.toArray stepped) := by rw [h1]; exact hblk
    obtain ⟨w2, hw2, s2, x2⟩ := s1.putObj (Pr := P) (b := b) (by rw [hat]; rfl) hl hblk' (by intros; simp) (.mapIter (some lm.blk) since (seen.toArray.push L[i].born) p.2) (.Oh m since (Jy seen [e.2.2]) p.2) fun w' hw' => ⟨lm, hlm, by rw [hw', Nx, hk3]; simp, hoff⟩
    rw [Qm] at hke
    refine ⟨.tuple #[.bool true, L[i].key, L[i].val], w2, μ, .tuple [.bool true, e.1, e.2.1], _, ?_, s2, (Cv.heap μ h h1 h2 h3 h4).trans x2, ⟨_, rfl, _, _, rfl, rfl, _, _, rfl, hk1, _, _, rfl, hk2, rfl⟩, hke⟩
    rw [Aa hr]
    have hget : (L.map some)[i]? = some (some L[i]) := by simp [hi']
    rw [hget]
    simp only
    rw [Aa hw2]
    rfl
end Go.Den
namespace Go.Den
open Go.RowKit
theorem Ama : Bjk Baw where
  init l t := by
    show (Option.rec AV.undef (fun v => v) (Dt l t) : AV) = _
    rw [Dy, List.getD_eq_getElem?_getD]
    cases l[t]? <;> rfl
  set f t v u := by
    show (Bool.rec (f u) v (Nat.beq u t) : AV) = _
    rw [Fv]
    by_cases e : u = t
    · rw [if_pos e, decide_eq_true e]
    · rw [if_neg e, decide_eq_false e]; rfl
  force f k := rfl
theorem Gp (f : FT) (d : Nat) (v : AV) (u : Nat) : Af f d v u = if u = d then v else f u := Ama.set f d v u
theorem Vs (f : FT) : ∀ (l : List Nat) (t : Nat), Nq l f t = .top ∨ Nq l f t = f t
  | [], _ => .inl rfl
  | u :: l, t => by
    show Af (Nq l f) u (f u) t = .top ∨ Af (Nq l f) u (f u) t = f t
    rw [Gp]
    by_cases e : t = u
    · rw [if_pos e, e]; exact .inr rfl
    · rw [if_neg e]; exact Vs f l t
section
variable {P : Program} {D : List Deferred}
structure FR (μ : Mu) (N : Nat) (D : List Deferred) (f : FT) (a : Act) : Prop where
  size : N ≤ a.tmps.size
  get : ∀ t, VR μ (f t) (a.tmps.getD t undef)
  defs : a.defers = D
theorem FR.mono {μ μ' : Mu} (h : Mu.le μ μ') {N : Nat} {f : FT} {a : Act} (r : FR μ N D f a) : FR μ' N D f a := ⟨r.size, fun t => VR.mono h _ _ (r.get t), r.defs⟩
theorem Ahb (ts : Array Value) (d t : Nat) (v : Value) (h : d < ts.size) : (ts.setIfInBounds d v).getD t undef = if t = d then v else ts.getD t undef := by
  simp only [Array.getD_eq_getD_getElem?, Array.getElem?_setIfInBounds]
  by_cases e : d = t
  · subst e; simp [h]
  · rw [if_neg e, if_neg (fun h => e h.symm)]
def Of (N : Nat) (d : Option Tmp) : Bool := match d with
  | none => true
  | some d => Nat.blt d N
theorem FR.put {μ : Mu} {N : Nat} {f : FT} {a : Act} (r : FR μ N D f a) {d : Option Tmp} (hd : Of N d = true) {av : AV} {v : Value} (hv : VR μ av v) : FR μ N D (Dc f d av) (a.put d v) := by
  cases d with
  | none => exact r
  | some d =>
    have hd : d < N := by simpa [Of] using hd
    refine ⟨by simpa [Act.put] using r.size, fun t => ?_, r.defs⟩
    show VR μ (Af f d av t) ((a.tmps.setIfInBounds d v).getD t undef)
    rw [Gp, Ahb _ _ _ _ (Nat.lt_of_lt_of_le hd r.size)]
    by_cases e : t = d
    · rw [if_pos e, if_pos e]; exact hv
    · rw [if_neg e, if_neg e]; exact r.get t
theorem FR.eval {E : Env} {μ : Mu} {N G : Nat} {f : FT} {a : Act} (r : FR μ N D f a) (gl : Fp μ G) {o : Operand} (ho : El G o = true) : VR μ (eval' E o f) (a.eval o) :=
  Xc (C := CP E) gl ho fun t _ => r.get t
def Gt (P : Program) (E : Env) (N G : Nat) (o : Oper) : Bool := Of N o.dst && Yl P E G o.op
def yb (o : Option Value) : Option Bool := match o with
  | some (.bool b) => some b
  | _ => none
theorem Iq (ops : Array Oper) (ts : Array Value) (j : Nat) : yielded ops ts j = yb (((ops[j]?).bind (·.dst)).bind (ts[·]?)) := rfl
def Live (ops : Array Oper) (gs : List (Nat × Bool × Tmp)) (a : Act) : Prop := ∀ g ∈ gs, ((ops[g.1]?).bind (·.dst)) = some g.2.2 ∧ yb (a.tmps[g.2.2]?) = some g.2.1
def Rq (d : Option Tmp) (gs : List (Nat × Bool × Tmp)) : Bool := match d with
  | none => true
  | some d => gs.all fun g => !Nat.beq g.2.2 d
theorem Act.Tb (a : Act) (d : Option Tmp) (v : Value) : (a.put d v).tmps.size = a.tmps.size := by cases d <;> simp [Act.put]
theorem Is {a : Act} {d : Option Tmp} {v : Value} {t : Nat} (h : d ≠ some t) : (a.put d v).tmps[t]? = a.tmps[t]? := by
  cases d with
  | none => rfl
  | some d =>
    have : d ≠ t := fun e => h (by rw [e])
    simp [Act.put, Array.getElem?_setIfInBounds_ne this]
theorem Pf {d : Option Tmp} {gs : List (Nat × Bool × Tmp)} (h : Rq d gs = true) : ∀ g ∈ gs, d ≠ some g.2.2 := by
  intro g hg e
  subst e
  have := List.all_eq_true.1 (show gs.all (fun g' => !Nat.beq g'.2.2 g.2.2) = true from h) g hg
  simp at this
theorem Live.put {ops : Array Oper} {gs : List (Nat × Bool × Tmp)} {a : Act} (l : Live ops gs a) {d : Option Tmp} (h : Rq d gs = true) (v : Value) : Live ops gs (a.put d v) := fun g hg =>
  ⟨(l g hg).1, by rw [Is (Pf h g hg)]; exact (l g hg).2⟩
theorem Kq {a b : Option (Nat × Bool)} (h : Fb a b = true) : a = b := by
  have key : ∀ v w, Fb.Amv v w = true → v = w := by intro v w; cases v <;> cases w <;> simp [Fb.Amv]
  cases a with
  | none => cases b with
    | none => rfl
    | some => cases h
  | some p => cases b with
    | none => cases h
    | some q =>
      obtain ⟨i, v⟩ := p; obtain ⟨j, w⟩ := q
      have h : (Nat.beq i j && Fb.Amv v w) = true := h
      rw [Bool.and_eq_true] at h
      rw [Nat.eq_of_beq_eq_true h.1, key _ _ h.2]
def Ag5 (o : Operand) : Bool := match o with
  | .const _ => true
  | _ => false
def Axs (c : Operand) (gd : Tmp) : Bool := match c with
  | .tmp t => Nat.beq t gd
  | _ => false
def Pb (G : Nat) (gd : Tmp) (w : Bool) (o : Op) : Bool := match o with
  | .pick c x y => Axs c gd && El G x && El G y && Ag5 (Dl w y x)
  | _ => false
def Arv (t : Tmp) (l : List (Option Tmp)) : Bool := l.any fun d => match d with
  | some d => Nat.beq d t
  | none => false
def Le (P : Program) (E : Env) (N G : Nat) (ops : List Oper) (its : Its) : Option (Nat × Bool) → List (Nat × Bool × Tmp) → List (Option Tmp) → Bool := Its.rec (motive := fun _ => Option (Nat × Bool) → List (Nat × Bool × Tmp) → List (Option Tmp) → Bool)
  (fun _ _ _ => true)
  (fun o _ ih g gs prev => and (and (Gt P E N G o) (and (Fb o.guard g) (Rq o.dst gs))) (ih g gs (o.dst :: prev)))
  (fun j gd w _ pk _ ihb ihr g gs prev => and (and (and (Of N pk.dst) (and (Fb pk.guard g) (Rq pk.dst gs))) (and (Pb G gd w pk.op) (and (Arv gd prev) (Option.rec false (fun o => Option.rec false (fun d => Nat.beq d gd) o.dst) (Dt ops j)))))
    (and (ihb (some (j, w)) ((j, w, gd) :: gs) []) (ihr g gs (pk.dst :: prev)))) its
def Ds (l : List Oper) (a : Act) : Act := l.foldl (fun a o => a.put o.dst undef) a
theorem Jc (o : Oper) (l : List Oper) (a : Act) : Ds (o :: l) a = Ds l (a.put o.dst undef) := rfl
theorem Aag (l m : List Oper) (a : Act) : Ds (l ++ m) a = Ds m (Ds l a) := List.foldl_append ..
theorem Pa (l : List Oper) : ∀ a : Act, (Ds l a).tmps.size = a.tmps.size := by
  induction l with
  | nil => intro a; rfl
  | cons o l ih => intro a; rw [Jc, ih, Act.Tb]
theorem Aaf (l : List Oper) : ∀ a : Act, (Ds l a).defers = a.defers := by
  induction l with
  | nil => intro a; rfl
  | cons o l ih => intro a; rw [Jc, ih]; cases o.dst <;> rfl
theorem Aa4 {l : List Oper} {t : Nat} : ∀ {a : Act}, (∀ o ∈ l, o.dst ≠ some t) → (Ds l a).tmps[t]? = a.tmps[t]? := by
  induction l with
  | nil => intro a _; rfl
  | cons o l ih => intro a h; rw [Jc, ih (fun x hx => h x (by simp [hx])), Is (h o (by simp))]
theorem Vc {a : Act} {d : Option Tmp} {t : Nat} (h : a.tmps[t]? = some undef) : (a.put d undef).tmps[t]? = some undef := by
  cases d with
  | none => exact h
  | some d =>
    by_cases e : d = t
    · subst e
      have : d < a.tmps.size := (Array.getElem?_eq_some_iff.1 h).1
      simp [Act.put, this]
    · rw [Is (by simpa using e)]; exact h
theorem Adw {l : List Oper} {t : Nat} : ∀ {a : Act}, a.tmps[t]? = some undef → (Ds l a).tmps[t]? = some undef := by
  induction l with
  | nil => intro a h; exact h
  | cons o l ih => intro a h; rw [Jc]; exact ih (Vc h)
theorem Agh {a : Act} {d : Tmp} {v : Value} (h : d < a.tmps.size) : (a.put (some d) v).tmps[d]? = some v := by simp [Act.put, h]
variable {E : Env} {N G : Nat} {ops : Array Oper} {Q : Exit → Act → World → Prop}
theorem Ks : ∀ {its : Its} {g : Option (Nat × Bool)} {gs : List (Nat × Bool × Tmp)} {prev : List (Option Tmp)}, Le P E N G ops.toList its g gs prev = true → ∀ o ∈ its.flat, Of N o.dst = true ∧ ∀ x ∈ gs, o.dst ≠ some x.2.2
  | .nil, _, _, _, _, o, ho => by simp [Its.flat] at ho
  | .op o r, g, gs, prev, h, x, hx => by
    have h : (((Gt P E N G o) && (Fb o.guard g && Rq o.dst gs)) && Le P E N G ops.toList r g gs (o.dst :: prev)) = true := h
    simp only [Bool.and_eq_true] at h
    rcases List.mem_cons.1 (show x ∈ o :: r.flat from hx) with rfl | hx
    · refine ⟨?_, Pf h.1.2.2⟩
      have := h.1.1
      simp only [Gt, Bool.and_eq_true] at this
      exact this.1
    · exact Ks h.2 x hx
  | .grp j gd w b pk r, g, gs, prev, h, x, hx => by
    have h : (((Of N pk.dst) && (Fb pk.guard g && Rq pk.dst gs)) && (Pb G gd w pk.op && (Arv gd prev && _)) && (Le P E N G ops.toList b (some (j, w)) ((j, w, gd) :: gs) [] && Le P E N G ops.toList r g gs (pk.dst :: prev))) = true := h
    simp only [Bool.and_eq_true] at h
    rcases List.mem_append.1 (show x ∈ b.flat ++ pk :: r.flat from hx) with hx | hx
    · have := Ks h.2.1 x hx
      exact ⟨this.1, fun y hy => this.2 y (by simp [hy])⟩
    · rcases List.mem_cons.1 hx with rfl | hx
      · exact ⟨h.1.1.1, Pf h.1.1.2.2⟩
      · exact Ks h.2.2 x hx
theorem Aru {t : Tmp} {l : List (Option Tmp)} (h : Arv t l = true) : some t ∈ l := by
  obtain ⟨d, hd, h⟩ := List.any_eq_true.1 h
  cases d with
  | none => cases h
  | some d => rw [Nat.eq_of_beq_eq_true h] at hd; exact hd
theorem Xe {ro : Option Nat} : ∀ {its : Its} {j : Nat} {w : Bool} {gd : Tmp} {gs : List (Nat × Bool × Tmp)} {prev : List (Option Tmp)} {rest : List Oper} {a : Act} {wd : World}, Le P E N G ops.toList its (some (j, w)) ((j, w, gd) :: gs) prev = true → N ≤ a.tmps.size →
    ((ops[j]?).bind (·.dst)) = some gd → yb (a.tmps[gd]?) ≠ some w → (∀ t, some t ∈ prev → a.tmps[t]? = some undef) → wpListIn (Fo ro) 0 P ops Q rest (Ds its.flat a) wd → wpListIn (Fo ro) 0 P ops Q (its.flat ++ rest) a wd
  | .nil, _, _, _, _, _, _, _, _, _, _, _, _, _, hr => hr
  | .op o r, j, w, gd, gs, prev, rest, a, wd, h, hN, hj, hy, hp, hr => by
    have h : (((Gt P E N G o) && (Fb o.guard (some (j, w)) && Rq o.dst ((j, w, gd) :: gs))) && Le P E N G ops.toList r (some (j, w)) ((j, w, gd) :: gs) (o.dst :: prev)) = true := h
    simp only [Bool.and_eq_true] at h
    have hwant : Region.wanted o (yielded ops a.tmps) = false := by
      unfold Region.wanted
      rw [Kq h.1.2.1]
      show (yielded ops a.tmps j == some w) = false
      rw [Iq, hj]
      simpa using hy
    show wpListIn (Fo ro) 0 P ops Q (o :: (r.flat ++ rest)) a wd
    unfold wpListIn
    rw [hwant, if_neg (by simp)]
    refine ⟨fun _ _ => trivial, ?_⟩
    have hne := Pf h.1.2.2 (j, w, gd) (by simp)
    refine Xe h.2 (by rw [Act.Tb]; exact hN) hj (by rw [Is hne]; exact hy) ?_ hr
    intro t ht
    rcases List.mem_cons.1 ht with e | ht
    · rw [← e]
      refine Agh (Nat.lt_of_lt_of_le ?_ hN)
      have := h.1.1
      simp only [Gt, Bool.and_eq_true] at this
      rw [← e] at this
      simpa [Of] using this.1
    · exact Vc (hp t ht)
  | .grp j' gd' w' b pk r, j, w, gd, gs, prev, rest, a, wd, h, hN, hj, hy, hp, hr => by
    have h : (((Of N pk.dst) && (Fb pk.guard (some (j, w)) && Rq pk.dst ((j, w, gd) :: gs))) && (Pb G gd' w' pk.op && (Arv gd' prev && (Option.rec false (fun o => Option.rec false (fun d => Nat.beq d gd') o.dst) (Dt ops.toList j'))))
      && (Le P E N G ops.toList b (some (j', w')) ((j', w', gd') :: (j, w, gd) :: gs) [] && Le P E N G ops.toList r (some (j, w)) ((j, w, gd) :: gs) (pk.dst :: prev))) = true := h
    simp only [Bool.and_eq_true] at h
    obtain ⟨⟨⟨hd, hg, hn⟩, hpk, ht, hjd⟩, hb, hrr⟩ := h
    have hj' : ((ops[j']?).bind (·.dst)) = some gd' := by
      rw [Dy, Array.getElem?_toList] at hjd
      cases ho : ops[j']? with
      | none => rw [ho] at hjd; cases hjd
      | some o =>
        rw [ho] at hjd
        have hjd : (Option.rec false (fun d => Nat.beq d gd') o.dst : Bool) = true := hjd
        show o.dst = some gd'
        cases hod : o.dst with
        | none => rw [hod] at hjd; cases hjd
        | some d => rw [hod] at hjd; rw [Nat.eq_of_beq_eq_true hjd]
    have hu := hp gd' (Aru ht)
    show wpListIn (Fo ro) 0 P ops Q ((b.flat ++ pk :: r.flat) ++ rest) a wd
    rw [List.append_assoc]
    refine Xe hb hN hj' (by rw [hu]; simp [yb, undef]) (by simp) ?_
    have hbd := Ks hb
    have hgd : (Ds b.flat a).tmps[gd]? = a.tmps[gd]? := Aa4 fun o ho => (hbd o ho).2 (j, w, gd) (by simp)
    have hwant : Region.wanted pk (yielded ops (Ds b.flat a).tmps) = false := by
      unfold Region.wanted
      rw [Kq hg]
      show (yielded ops (Ds b.flat a).tmps j == some w) = false
      rw [Iq, hj]
      show (yb ((Ds b.flat a).tmps[gd]?) == some w) = false
      rw [hgd]
      simpa using hy
    show wpListIn (Fo ro) 0 P ops Q (pk :: (r.flat ++ rest)) _ wd
    unfold wpListIn
    rw [hwant, if_neg (by simp)]
    refine ⟨fun _ _ => trivial, ?_⟩
    have hne := Pf hn (j, w, gd) (by simp)
    refine Xe hrr (by rw [Act.Tb, Pa]; exact hN) hj (by rw [Is hne, hgd]; exact hy) ?_ ?_
    · intro t ht
      rcases List.mem_cons.1 ht with e | ht
      · rw [← e]
        refine Agh (Nat.lt_of_lt_of_le ?_ (by rw [Pa]; exact hN))
        rw [← e] at hd
        simpa [Of] using hd
      · exact Vc (Adw (hp t ht))
    · have : Ds (Its.grp j' gd' w' b pk r).flat a = Ds r.flat ((Ds b.flat a).put pk.dst undef) := by
        show Ds (b.flat ++ pk :: r.flat) a = _
        rw [Aag, Jc]
      rw [← this]; exact hr
end
end Go.Den
namespace Go.Den
open Go.RowKit
section
variable {P : Program} {E : Env} {N G : Nat} {D : List Deferred} {ops : Array Oper} {Q : Exit → Act → World → Prop}
def Ej (l : List Oper) (a a' : Act) : Prop := a'.tmps.size = a.tmps.size ∧ ∀ t, (∀ o ∈ l, o.dst ≠ some t) → a'.tmps[t]? = a.tmps[t]?
theorem Ej.refl (l : List Oper) (a : Act) : Ej l a a := ⟨rfl, fun _ _ => rfl⟩
theorem Ej.cons {o : Oper} {l : List Oper} {a a' : Act} {v : Value} (h : Ej l (a.put o.dst v) a') : Ej (o :: l) a a' :=
  ⟨h.1.trans (Act.Tb _ _ _), fun t ht => (h.2 t fun x hx => ht x (by simp [hx])).trans (Is (ht o (by simp)))⟩
theorem Ej.append {l m : List Oper} {a a' b : Act} (h : Ej l a a') (k : Ej m a' b) : Ej (l ++ m) a b :=
  ⟨k.1.trans h.1, fun t ht => (k.2 t fun x hx => ht x (by simp [hx])).trans (h.2 t fun x hx => ht x (by simp [hx]))⟩
theorem Ej.Ds (l : List Oper) (a : Act) : Ej l a (Ds l a) := ⟨Pa l a, fun _ ht => Aa4 ht⟩
theorem Ary (l : List Oper) : ∀ (f : FT) (t : Nat), Aam l f t = .top ∨ (Aam l f t = f t ∧ ∀ o ∈ l, o.dst ≠ some t) := by
  induction l with
  | nil => intro f t; exact .inr ⟨rfl, by simp⟩
  | cons o l ih =>
    intro f t
    show Aam l (Dc f o.dst .top) t = .top ∨ (Aam l (Dc f o.dst .top) t = f t ∧ _)
    rcases ih (Dc f o.dst .top) t with h | ⟨h, hl⟩
    · exact .inl h
    · rw [h]
      cases hd : o.dst with
      | none => exact .inr ⟨rfl, by intro x hx; rcases List.mem_cons.1 hx with rfl | hx; · rw [hd]; simp
                                    · exact hl x hx⟩
      | some d =>
        show Af f d .top t = .top ∨ _
        rw [Gp]
        by_cases e : t = d
        · left; rw [if_pos e]
        · right
          refine ⟨by rw [show Dc f (some d) AV.top t = Af f d .top t from rfl, Gp, if_neg e], ?_⟩
          intro x hx
          rcases List.mem_cons.1 hx with rfl | hx
          · rw [hd]; simpa using fun h => e h.symm
          · exact hl x hx
theorem FR.top {μ : Mu} {f : FT} {a a' : Act} {l : List Oper} (r : FR μ N D f a) (s : Ej l a a') (hd : a'.defers = D) : FR μ N D (Aam l f) a' := by
  refine ⟨by rw [s.1]; exact r.size, fun t => ?_, hd⟩
  rcases Ary l f t with h | ⟨h, hl⟩
  · rw [h]; trivial
  · rw [h]
    have := r.get t
    rw [Array.getD_eq_getD_getElem?] at this ⊢
    rw [s.2 t hl]; exact this
def Abg (gs : List (Nat × Bool × Tmp)) : Option (Nat × Bool) := match gs with
  | [] => none
  | g :: _ => some (g.1, g.2.1)
theorem Ou {o : Oper} {gs : List (Nat × Bool × Tmp)} {a : Act} (hg : o.guard = Abg gs) (l : Live ops gs a) : Region.wanted o (yielded ops a.tmps) = true := by
  unfold Region.wanted
  rw [hg]
  cases gs with
  | nil => rfl
  | cons g gs =>
    obtain ⟨h1, h2⟩ := l g (by simp)
    show (yielded ops a.tmps g.1 == some g.2.1) = true
    rw [Iq, h1]
    show (yb (a.tmps[g.2.2]?) == some g.2.1) = true
    rw [h2]; simp
theorem Alk {ro : Option Nat} {pk : Oper} {c x y : Operand} (hpk : pk.op = .pick c x y) {a : Act} {w : World} {t : Bool} (hc : a.eval c = .bool t) {next : Act → World → Prop} (h : next (a.put pk.dst (a.eval (Dl t x y))) w) : pk.wpIn (Fo ro) 0 P a w next Q := by
  have : (execOp a.eval pk).run P w = .ok (.value (a.eval (Dl t x y))) w := by
    unfold execOp
    rw [hpk]
    simp only [hc]
    cases t <;> rfl
  refine Hv (fun c e => by rw [hpk] at e; cases e) ?_
  rw [this]
  exact h
theorem Yk {gd : Tmp} {w : Bool} {o : Op} (h : Pb G gd w o = true) : ∃ x y v, o = .pick (.tmp gd) x y ∧ El G x = true ∧ El G y = true ∧ Dl w y x = .const v := by
  cases o <;> try cases h
  rename_i c x y
  have h : (Axs c gd && El G x && El G y && Ag5 (Dl w y x)) = true := h
  simp only [Bool.and_eq_true] at h
  obtain ⟨⟨⟨h1, h2⟩, h3⟩, h4⟩ := h
  cases c <;> try cases h1
  rename_i t
  have e := Nat.eq_of_beq_eq_true h1
  subst e
  cases hq : Dl w y x <;> rw [hq] at h4 <;> first | exact ⟨x, y, _, rfl, by assumption, by assumption, hq⟩ | cases h4
theorem Ro {w : Bool} {x y : Operand} (hx : El G x = true) (hy : El G y = true) : El G (Dl w x y) = true := by cases w <;> assumption
theorem Live.same {gs : List (Nat × Bool × Tmp)} {a a' : Act} {l : List Oper} (h : Live ops gs a) (s : Ej l a a') (hl : ∀ o ∈ l, ∀ g ∈ gs, o.dst ≠ some g.2.2) : Live ops gs a' := fun g hg =>
  ⟨(h g hg).1, by rw [s.2 g.2.2 fun o ho => hl o ho g hg]; exact (h g hg).2⟩
def Bjl (_P : Program) (N : Nat) (D : List Deferred) (ops : Array Oper) (gs : List (Nat × Bool × Tmp)) (its : Its) (μ : Mu) (h : H) (a : Act) (w : World) (K : FT → H → Prop) (q : Act → World → Prop) : Prop :=
  ∀ (μ' : Mu) (f' : FT) (h' : H) (a' : Act) (w' : World), FR μ' N D f' a' → Sim μ' h' w' → Cv μ h w μ' h' w' → Live ops gs a' → Ej its.flat a a' → K f' h' → q a' w'
theorem Ar4 {ro : Option Nat} (ok : Bs P E) {call : CF} (hcall : Gb P (CP E) G (fun p => p) call) {o : Oper} (hop : Yl P E G o.op = true) {μ : Mu} {f : FT} {h : H} {a : Act} {w : World} {k : KV} {next : Act → World → Prop} {Q : Exit → Act → World → Prop}
    (hv : ∀ x ∈ o.op.operands.toList, VR μ (eval (CP E) x f) (a.eval x)) (s : Sim μ h w) (gl : Fp μ G) (hg : Ar5 E o.op call f h k) (g : Aic (CP E) μ h w (fun p => p) k a o.dst next) : o.wpIn (Fo ro) 0 P a w next Q := by
  by_cases hnx : ∃ x, o.op = .next x false
  · obtain ⟨x, e⟩ := hnx
    rw [e] at hg
    obtain ⟨v, w', μ', av, h', hr, s', x', hv', hk⟩ := Aqr (P := P) (ty := o.type) s (show Aqs (eval' E x f) h k from hg) (hv x (by rw [e]; simp [Op.operands]))
    refine Hv (fun c hc => by rw [e] at hc; cases hc) ?_
    have he : execOp a.eval o = (do pure (.value (← Instr.next (a.eval x) false o.type))) := by
      obtain ⟨dst, op, type, pos, after, guard⟩ := o
      cases e; rfl
    rw [he, Aa hr]
    exact g _ _ _ _ _ s' x' hv' hk
  · have hg2 : Dh E o.op call f h k := by
      cases ho : o.op <;> rw [ho] at hg <;> try exact hg
      rename_i x b
      cases b with
      | true => exact hg
      | false => exact absurd ⟨x, ho⟩ hnx
    exact Aej (C := CP E) (good := fun p => p) (fun h => h) ok hcall hop hv s gl (Zl hg2) g
theorem Yy {ro : Option Nat} (ok : Bs P E) {call : CF} (hcall : Gb P (CP E) G (fun p => p) call) : ∀ (its : Its) {gs : List (Nat × Bool × Tmp)} {prev : List (Option Tmp)}, Le P E N G ops.toList its (Abg gs) gs prev = true →
    ∀ {μ : Mu} {f : FT} {h : H} {a : Act} {w : World} {K : FT → H → Prop} {rest : List Oper}, FR μ N D f a → Sim μ h w → Fp μ G → Live ops gs a → Fz E call its f h K → Bjl P N D ops gs its μ h a w K (wpListIn (Fo ro) 0 P ops Q rest) → wpListIn (Fo ro) 0 P ops Q (its.flat ++ rest) a w
  | .nil, gs, prev, _, μ, f, h, a, w, K, rest, fr, s, _, l, hr, he => he μ f h a w fr s (.refl _ _ _) l (.refl _ _) hr
  | .op o r, gs, prev, hk, μ, f, h, a, w, K, rest, fr, s, gl, l, hr, he => by
    have hk : (((Gt P E N G o) && (Fb o.guard (Abg gs) && Rq o.dst gs)) && Le P E N G ops.toList r (Abg gs) gs (o.dst :: prev)) = true := hk
    simp only [Bool.and_eq_true, Gt] at hk
    obtain ⟨⟨⟨hd, hop⟩, hg, hn⟩, hrr⟩ := hk
    have hr : Ar5 E o.op call f h (fun v h => coK E o.type v (fun v => Fz E call r (Dc f o.dst v) h K)) := hr
    have hopn : ∀ x ∈ o.op.operands.toList, El G x = true := by
      have hop := hop
      simp only [Yl, Bool.and_eq_true] at hop
      exact fun x hx => (List.all_eq_true.1 hop.1) x hx
    show wpListIn (Fo ro) 0 P ops Q (o :: (r.flat ++ rest)) a w
    unfold wpListIn
    rw [Ou (Kq hg) l, if_pos rfl]
    refine Ar4 ok hcall hop (fun x hx => fr.eval gl (hopn x hx)) s gl hr ?_
    intro μ' av h' v w' s' x' hv hg'
    refine Yy ok hcall r hrr ((fr.mono x'.le).put hd hv) s' (gl.mono x'.le) (l.put hn v) (Uk hg') ?_
    intro μ'' f'' h'' a'' w'' fr'' s'' x'' l'' sb hK
    exact he _ _ _ _ _ fr'' s'' (x'.trans x'') l'' (Ej.cons sb) hK
  | .grp j gd wt b pk r, gs, prev, hk, μ, f, h, a, w, K, rest, fr, s, gl, l, hr, he => by
    have hk : (((Of N pk.dst) && (Fb pk.guard (Abg gs) && Rq pk.dst gs)) && (Pb G gd wt pk.op && (Arv gd prev && (Option.rec false (fun o => Option.rec false (fun d => Nat.beq d gd) o.dst) (Dt ops.toList j))))
      && (Le P E N G ops.toList b (some (j, wt)) ((j, wt, gd) :: gs) [] && Le P E N G ops.toList r (Abg gs) gs (pk.dst :: prev))) = true := hk
    simp only [Bool.and_eq_true] at hk
    obtain ⟨⟨⟨hd, hg, hn⟩, hpk, _, hjd⟩, hb, hrr⟩ := hk
    have hj : ((ops[j]?).bind (·.dst)) = some gd := by
      rw [Dy, Array.getElem?_toList] at hjd
      cases ho : ops[j]? with
      | none => rw [ho] at hjd; cases hjd
      | some o =>
        rw [ho] at hjd
        have hjd : (Option.rec false (fun d => Nat.beq d gd) o.dst : Bool) = true := hjd
        show o.dst = some gd
        cases hod : o.dst with
        | none => rw [hod] at hjd; cases hjd
        | some d => rw [hod] at hjd; rw [Nat.eq_of_beq_eq_true hjd]
    obtain ⟨x, y, cv, epk, hx, hy, hcv⟩ := Yk hpk
    obtain ⟨t, hft, hr⟩ := Gq (show asB (f gd) (fun t => A3u E wt b.flat pk t (Fz E call b) (Fz E call r) f h K) from hr)
    have hvt : a.tmps.getD gd undef = .bool t := by have := fr.get gd; rw [hft] at this; exact this
    have hgt : a.tmps[gd]? = some (.bool t) := by
      rw [Array.getD_eq_getD_getElem?] at hvt
      cases hq : a.tmps[gd]? with
      | none => rw [hq] at hvt; cases hvt
      | some v => rw [hq] at hvt; exact congrArg some hvt
    have hr : Al (fun kj => gate wt t (Fz E call b f h (fun f h => asB (eval' E (Dl wt x y) f) (fun v => kj v h))) (asB (eval' E (Dl wt y x) f) (fun v => kj v h)))
        (fun v h => Fz E call r (Dc (Aam b.flat f) pk.dst (.bool v)) h K) := by
      unfold A3u at hr
      rw [epk] at hr
      exact hr
    have hbd := Ks hb
    show wpListIn (Fo ro) 0 P ops Q ((b.flat ++ pk :: r.flat) ++ rest) a w
    rw [List.append_assoc]
    by_cases hw : t = wt
    · subst hw
      have hr : Fz E call b f h (fun f' h' => asB (eval' E (Dl t x y) f') (fun v => Fz E call r (Dc (Aam b.flat f) pk.dst (.bool v)) h' K)) := by cases t <;> exact hr
      refine Yy ok hcall b (gs := (j, t, gd) :: gs) hb fr s gl ?_ hr ?_
      · intro g hg'
        rcases List.mem_cons.1 hg' with rfl | hg'
        · exact ⟨hj, by show yb (a.tmps[gd]?) = some t; rw [hgt]; rfl⟩
        · exact l g hg'
      · intro μ' f' h' a' w' fr' s' x' l' sb hK
        obtain ⟨v, hv, hK⟩ := Gq hK
        have lo : Live ops gs a' := fun g hg' => l' g (by simp [hg'])
        show wpListIn (Fo ro) 0 P ops Q (pk :: (r.flat ++ rest)) a' w'
        unfold wpListIn
        rw [Ou (Kq hg) lo, if_pos rfl]
        have hc : a'.eval (.tmp gd) = .bool t := by
          have := (l' (j, t, gd) (by simp)).2
          have h2 : yb (a'.tmps[gd]?) = some t := this
          show a'.tmps.getD gd undef = .bool t
          rw [Array.getD_eq_getD_getElem?]
          cases hq : a'.tmps[gd]? with
          | none => rw [hq] at h2; cases h2
          | some u => rw [hq] at h2; cases u <;> simp [yb] at h2; subst h2; rfl
        have hev : a'.eval (Dl t x y) = .bool v := by
          have := fr'.eval (E := E) (gl.mono x'.le) (Ro (w := t) hx hy)
          rw [hv] at this; exact this
        refine Alk epk hc ?_
        rw [hev]
        refine Yy ok hcall r hrr (((fr.mono x'.le).top sb fr'.defs).put hd (av := .bool v) (rfl : VR μ' (.bool v) (.bool v))) s' (gl.mono x'.le) (lo.put hn _) hK ?_
        intro μ'' f'' h'' a'' w'' fr'' s'' x'' l'' sb' hK'
        exact he _ _ _ _ _ fr'' s'' (x'.trans x'') l'' (sb.append (Ej.cons sb')) hK'
    · have hr : asB (eval' E (Dl wt y x) f) (fun v => Fz E call r (Dc (Aam b.flat f) pk.dst (.bool v)) h K) := by
        cases t <;> cases wt <;> first | exact hr | exact absurd rfl hw
      obtain ⟨v, hv, hK⟩ := Gq hr
      refine Xe hb fr.size hj (by rw [hgt]; simpa [yb] using hw) (by simp) ?_
      have sb : Ej b.flat a (Ds b.flat a) := .Ds _ _
      have lo : Live ops gs (Ds b.flat a) := l.same sb fun o ho g hg' => (hbd o ho).2 g (by simp [hg'])
      show wpListIn (Fo ro) 0 P ops Q (pk :: (r.flat ++ rest)) _ w
      unfold wpListIn
      rw [Ou (Kq hg) lo, if_pos rfl]
      have hc : (Ds b.flat a).eval (.tmp gd) = .bool t := by
        show (Ds b.flat a).tmps.getD gd undef = .bool t
        rw [Array.getD_eq_getD_getElem?, sb.2 gd fun o ho => (hbd o ho).2 (j, wt, gd) (by simp), hgt]; rfl
      have hch : Dl t x y = Dl wt y x := by cases t <;> cases wt <;> first | rfl | exact absurd rfl hw
      have hev : (Ds b.flat a).eval (Dl t x y) = .bool v := by
        have := fr.eval (E := E) gl (Ro (w := wt) hy hx)
        rw [hv] at this
        have this : a.eval (Dl wt y x) = .bool v := this
        rw [hch, hcv] at *
        exact this
      refine Alk epk hc ?_
      rw [hev]
      refine Yy ok hcall r hrr ((fr.top sb (by rw [Aaf]; exact fr.defs)).put hd (av := .bool v) (rfl : VR μ (.bool v) (.bool v))) s gl (lo.put hn _) hK ?_
      intro μ'' f'' h'' a'' w'' fr'' s'' x'' l'' sb' hK'
      exact he _ _ _ _ _ fr'' s'' x'' l'' (sb.append (Ej.cons sb')) hK'
theorem Xm (l0 : List Oper) : ∀ (n : Nat) (g : Option (Nat × Bool)) (l : List Oper), (Gm l0 n g l).1.flat ++ (Gm l0 n g l).2 = l := by
  intro n
  induction n with
  | zero => intro g l; rfl
  | succ n ih =>
    intro g l
    cases l with
    | nil => rfl
    | cons o l' =>
      show (Sv l0 (Gm l0 n) g (o :: l')).1.flat ++ (Sv l0 (Gm l0 n) g (o :: l')).2 = o :: l'
      unfold Sv
      simp only
      cases hs : Fb o.guard g with
      | true =>
        simp only
        have := ih g l'
        generalize Gm l0 n g l' = q at this ⊢
        obtain ⟨q1, q2⟩ := q
        show o :: (q1.flat ++ q2) = o :: l'
        rw [this]
      | false =>
        simp only
        cases hg : o.guard with
        | none => rfl
        | some p =>
          simp only
          cases Awm l0 g p.1 with
          | none => rfl
          | some gd =>
            simp only
            have hb := ih (some p) (o :: l')
            generalize Gm l0 n (some p) (o :: l') = q at hb ⊢
            obtain ⟨q1, q2⟩ := q
            cases q2 with
            | nil => rfl
            | cons pk l'' =>
              simp only
              have hc := ih g l''
              generalize Gm l0 n g l'' = z at hc ⊢
              obtain ⟨z1, z2⟩ := z
              show (q1.flat ++ pk :: z1.flat) ++ z2 = o :: l'
              rw [← hb, ← hc]; simp
theorem Ai5 {l : List Oper} {its : Its} (h : Yz l = some its) : its.flat = l := by
  unfold Yz at h
  have hf := Xm l (Nat.add (Nat.mul 2 (len l)) 2) none l
  generalize Gm l (Nat.add (Nat.mul 2 (len l)) 2) none l = q at h hf
  obtain ⟨q1, q2⟩ := q
  cases q2 with
  | nil => cases h; simpa using hf
  | cons => cases h
end
end Go.Den
