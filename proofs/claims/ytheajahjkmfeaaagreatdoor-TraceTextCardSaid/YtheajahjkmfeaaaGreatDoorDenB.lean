/-
 Proof.
-/
import Derived.Test.YtheajahjkmfeaaaGreatDoorDenA
import Derived.Lib.ConvBytes
import Derived.Laws.BytesString
import Derived.Laws.Slices
noncomputable section
namespace Go.Den
open Go.RowKit
theorem Zc:∀{a b:List UInt8},a.length=b.length→enc a=enc b→a=b
 |[],[],_,_=>rfl
 |[],_::_,h,_=>by simp at h
 |_::_,[],h,_=>by simp at h
 |x::a,y::b,hl,he=>by
  simp only[enc] at he
  have hx:=x.toNat_lt
  have hy:=y.toNat_lt
  have h1:x.toNat=y.toNat:=by omega
  have h2:enc a=enc b:=by omega
  rw[UInt8.toNat_inj.1 h1,Zc (by simpa using hl) h2]
theorem Gd.eq{l c m d:Nat}{s t:ByteArray}(h:Gd l c s)(k:Gd m d t):(s.toList==t.toList)=(decide (l=m)&&decide (c=d)):=by
 obtain⟨rfl,rfl⟩:=h
 obtain⟨rfl,rfl⟩:=k
 rw[ByteArray.toList_eq,ByteArray.toList_eq]
 by_cases e:s.data.toList=t.data.toList
 · have hs:s.size=t.size:=by
    exact congrArg List.length e
   rw[e,hs];simp
 · have:¬(s.size=t.size∧enc s.data.toList=enc t.data.toList):=fun⟨h1,h2⟩=>e (Zc h1 h2)
   rw[show(s.data.toList==t.data.toList)=false from by simpa using e]
   rw[←Bool.decide_and,decide_eq_false this]
theorem Jw(a b:Int):Bx a b=(a==b):=by
 cases a with
 |ofNat a=>cases b with
  |ofNat b=>
   show Nat.beq a b=_
   rw[Gt,Bool.eq_iff_iff,decide_eq_true_iff,beq_iff_eq];exact⟨fun h=>by rw[h],fun h=>Int.ofNat.inj h⟩
  |negSucc b=>show false=_;symm;simp
 |negSucc a=>cases b with
  |ofNat b=>show false=_;symm;simp
  |negSucc b=>
   show Nat.beq a b=_
   rw[Gt,Bool.eq_iff_iff];simp
section
variable{P:Program}{w:World}{μ:Mu}
theorem A1n{d:TypeDesc}{t:TypeId}{x y:AV}{vx vy:Value}{b:Bool}(hd:P.underlying t=some d)(hp:Gi d x=true)(h:Vm x y=some b)
 (hx:VR μ x vx) (hy:VR μ y vy) (n:Nat):(Op.equalIn (n+1) t vx vy).run P w=.ok b w:=by
 cases x with
 |bool a=>
  cases d<;>simp only[Gi] at hp<;>try cases hp
  cases y<;>simp only[Vm,A9d] at h<;>try cases h
  cases hx;cases hy
  rw[run_equalIn_bool' w n t _ _ hd,Aqv]
 |int k a=>
  cases d<;>simp only[Gi] at hp<;>try cases hp
  cases y<;>simp only[Vm,Awc] at h<;>try cases h
  cases hx;cases hy
  split at h
  · rename_i e;subst e;cases h
    rw[run_equalIn_int w n t _ _ _ _ hd,Jw]
  · cases h
 |str l c=>
  cases d<;>simp only[Gi] at hp<;>try cases hp
  cases y<;>simp only[Vm,eqStr] at h<;>try cases h
  obtain⟨s,rfl,hs⟩:=hx
  obtain⟨s',rfl,hs'⟩:=hy
  rw[run_equalIn_string w n t _ _ hd,hs.eq hs',La,Gt,Gt]
 |_=>simp[Gi] at hp
theorem Yl{E:Env}(ok:Cg P E){t:TypeId}{cs:List AV}{off:Nat}{a:AV}(h:part E t cs off=some a){vs:Array Value}(hv:VRs μ cs vs.toList)(ho:cs.all AV.one=true):
 ∃v,(Go.part t vs off).run P w=.ok v w∧VR μ a v:=by
 obtain⟨i,hi,h⟩:=Af h
 obtain⟨ti,z,k⟩:=ok.ty _ _ hi
 unfold Go.part
 rw[Aa k.A6d]
 cases ha:i.agg with
 |true=>
  rw[ha] at h
  have h:some (AV.agg (Ln i.size (Qa off cs)))=some a:=h
  cases h
  simp only[if_true]
  rw[Aa k.rsize,Ahd,Aws]
  refine⟨_,rfl,vs.extract off (off+i.size),rfl,?_,?_⟩
  · simp only[Array.toList_extract,List.extract_eq_take_drop]
    rw[show off+i.size-off=i.size from by omega]
    exact(hv.drop off).take i.size
  · rw[List.all_eq_true] at ho ⊢
    intro x hx
    exact ho x (List.mem_of_mem_drop (List.mem_of_mem_take hx))
 |false=>
  rw[ha] at h
  have h:Ej cs off=some a:=h
  rw[Eo] at h
  obtain⟨v,hv',hr⟩:=hv.get _ _ h
  simp only[Bool.false_eq_true,if_false]
  have:vs[off]? =some v:=by rw[←Array.getElem?_toList];exact hv'
  rw[this]
  exact⟨v,rfl,hr⟩
theorem Ai4{E:Env}(ok:Cg P E){rec:TypeId→AV→AV→Option Bool}{d:Nat}
 (ih:∀(t:TypeId)(x y:AV)(b:Bool)(vx vy:Value),rec t x y=some b→VR μ x vx→VR μ y vy→(Op.equalIn d t vx vy).run P w=.ok b w)
 {xs ys:List AV} {vx vy:Array Value} (hx:VRs μ xs vx.toList) (hy:VRs μ ys vy.toList) (ox:xs.all AV.one=true) (oy:ys.all AV.one=true):
 ∀(fs:List Field)(b:Bool),Ys fs=true→eqFields E rec xs ys fs=some b→(Op.eqFields d vx vy fs).run P w=.ok b w:=by
 intro fs
 induction fs with
 |nil=>intro b _ h;cases h;rfl
 |cons f fs IH=>
  intro b hn h
  simp only[Ys,Bool.and_eq_true] at hn
  have hne : f.name ≠ "_" := by simpa using hn.1
  have h:(Option.rec none (fun a=>Option.rec none (fun b=>Option.rec none (fun t=>Bool.rec (some false) (eqFields E rec xs ys fs) t) (rec f.type a b)) (part E f.type ys f.offset)) (part E f.type xs f.offset):Option Bool)=some b:=h
  obtain⟨a,ha,h⟩:=Af h
  obtain⟨a',ha',h⟩:=Af h
  obtain⟨t,ht,h⟩:=Af h
  obtain⟨va,ra,va'⟩:=Yl (w:=w) ok ha hx ox
  obtain⟨vb,rb,vb'⟩:=Yl (w:=w) ok ha' hy oy
  unfold Op.eqFields
  rw[if_pos hne,Aa ra,Aa rb,Aa (ih _ _ _ _ _ _ ht va' vb')]
  cases t with
  |false=>cases h;rfl
  |true=>exact IH b hn.2 h
theorem Awf{E:Env}(ok:Cg P E):∀(n:Nat)(t:TypeId)(x y:AV)(b:Bool)(vx vy:Value),eqF E n t x y=some b→VR μ x vx→VR μ y vy→∀d,n≤d→(Op.equalIn d t vx vy).run P w=.ok b w:=by
 intro n
 induction n with
 |zero=>intro t x y b vx vy h;cases h
 |succ n ih=>
  intro t x y b vx vy h0 hx hy d hd
  obtain⟨d,rfl⟩:∃d',d=d'+1:=⟨d-1,by omega⟩
  obtain⟨i,hi,h⟩:=Af (show(Option.rec none (fun ti=>A88 E (eqF E n) ti x y) (E.ty t):Option Bool)=some b from h0)
  clear h0
  obtain⟨ti,z,k⟩:=ok.ty _ _ hi
  have plain:∀x,(Bool.rec none (Vm x y) (Gi i.desc x):Option Bool)=some b→VR μ x vx→(Op.equalIn (d+1) t vx vy).run P w=.ok b w:=fun x h hx=>by
   obtain⟨hp,h⟩:=Av h
   exact A1n k.und hp h hx hy d
  cases x
  case agg xs=>
   clear plain
   have h:(Option.rec none (fun ys=>Ai6 E (eqF E n) i xs ys) (Ajy y):Option Bool)=some b:=h
   obtain⟨ys,hys,h⟩:=Af h
   cases y<;>simp only[Ajy] at hys<;>cases hys
   obtain⟨vs,rfl,hvs,ox⟩:=hx
   obtain⟨us,rfl,hus,oy⟩:=hy
   unfold Ai6 at h
   obtain⟨hp,h⟩:=Av h
   obtain⟨fs,hfs,h⟩:=Af h
   obtain⟨hb,h⟩:=Av h
   have hund:P.underlying t=some (.struct (P.fieldsOf t))∧(P.fieldsOf t).toList=fs:=by
    have:=k.und
    cases hd:i.desc<;>rw[hd] at hfs<;>simp only[structOf] at hfs<;>cases hfs
    rename_i fs'
    rw[hd] at this
    simp[Program.fieldsOf,this]
   rw[run_equalIn_struct w d t vs us hund.1 (k.plain hp).1,hund.2]
   exact Ai4 ok (fun t x y b vx vy h hx hy=>ih t x y b vx vy h hx hy d (by omega)) hvs hus ox oy fs b hb h
  all_goals (refine plain _ ?_ hx;exact h)
end
end Go.Den
namespace Go.Den
open Go.RowKit
theorem Ad3(k:IntKind)(m:Nat)(h:m≤intMax k):k.wrap (Int.ofNat m)=Int.ofNat m:=by
 have e:Int.ofNat m=(m:Int):=rfl
 rw[e]
 cases k<;>simp[IntKind.wrap,IntKind.bits,IntKind.signed,intMax] at* <;>omega
theorem Mh(k:IntKind)(n:Int):wrap k n=k.wrap n:=by
 cases n with
 |ofNat m=>
  show(Bool.rec (k.wrap (.ofNat m)) (.ofNat m) (Nat.ble m (intMax k)):Int)=_
  cases h:Nat.ble m (intMax k) with
  |false=>rfl
  |true=>exact(Ad3 k m (Nat.le_of_ble_eq_true h)).symm
 |negSucc m=>rfl
theorem Afv(a b:Int):Bq a b=a+b:=by cases a<;>cases b<;>rfl
theorem Apx(a b:Int):Mg a b=a-b:=by
 cases a with
 |negSucc a=>rfl
 |ofNat a=>cases b with
  |negSucc b=>rfl
  |ofNat b=>
   show(Bool.rec (.negSucc (Nat.sub (Nat.sub b a) 1)) (.ofNat (Nat.sub a b)) (Nat.ble b a):Int)=_
   have e1:Int.ofNat a=(a:Int):=rfl
   have e2:Int.ofNat b=(b:Int):=rfl
   cases h:Nat.ble b a with
   |true=>
    have:=Nat.le_of_ble_eq_true h
    show Int.ofNat (a-b)=_
    have e3:Int.ofNat (a-b)=((a-b:Nat):Int):=rfl
    omega
   |false=>
    have:¬b≤a:=fun h'=>by rw[Nat.ble_eq_true_of_le h'] at h;cases h
    show Int.negSucc (b-a-1)=_
    have e3:Int.negSucc (b-a-1)= -((b-a-1:Nat):Int)-1:=by rw[Int.negSucc_eq];omega
    omega
theorem Jv(a b:Int):Ca a b=decide (a<b):=by
 cases a with
 |ofNat a=>cases b with
  |ofNat b=>
   show Nat.ble (a+1) b=_
   rw[Om,decide_eq_decide]
   have e1:Int.ofNat a=(a:Int):=rfl
   have e2:Int.ofNat b=(b:Int):=rfl
   omega
  |negSucc b=>symm;show decide _=false;simp;have e1:Int.ofNat a=(a:Int):=rfl;omega
 |negSucc a=>cases b with
  |ofNat b=>symm;show decide _=true;simp;have e1:Int.ofNat b=(b:Int):=rfl;omega
  |negSucc b=>
   show Nat.ble (b+1) a=_
   rw[Om,decide_eq_decide]
   omega
theorem Mn(a b:Int):Ef a b=decide (a≤b):=by
 show(Bool.rec true false (Ca b a):Bool)=_
 rw[Jv]
 by_cases h:b<a
 · rw[decide_eq_true h];symm;show decide _=false;simp;omega
 · rw[decide_eq_false h];symm;show decide _=true;simp;omega
theorem Abb:∀(a b:List UInt8),enc (a++b)=enc a+2^(8*a.length)*enc b
 |[],b=>by simp[enc]
 |x::a,b=>by
  simp only[List.cons_append,enc,Abb a b,List.length_cons]
  rw[show 8*(a.length+1)=8*a.length+8 from by omega,Nat.pow_add]
  have:2^(8*a.length)*2^8*enc b=256*(2^(8*a.length)*enc b):=by
   rw[Nat.mul_comm (2^(8*a.length)) (2^8),Nat.mul_assoc]
  rw[this];omega
theorem Ho:∀(a:List UInt8),Hf a.length (enc a)=a.map (·.toNat)
 |[]=>rfl
 |x::a=>by
  have hx:=x.toNat_lt
  show Nat.mod (enc (x::a)) 256::Hf a.length (Nat.div (enc (x::a)) 256)=_
  have h1:Nat.mod (enc (x::a)) 256=x.toNat:=by show enc (x::a)%256=_;simp only[enc];omega
  have h2:Nat.div (enc (x::a)) 256=enc a:=by show enc (x::a) / 256=_;simp only[enc];omega
  rw[h1,h2,Ho a];rfl
theorem Td:∀(a b:List UInt8),Kv (a.map (·.toNat)) (b.map (·.toNat))=Op.bytesLess a b
 |[],[]=>rfl
 |[],_::_=>rfl
 |x::a,[]=>by simp only[Op.bytesLess];rfl
 |x::a,y::b=>by
  show(Bool.rec (Bool.rec false (Kv (a.map (·.toNat)) (b.map (·.toNat))) (Nat.beq x.toNat y.toNat)) true (Nat.ble (Nat.add x.toNat 1) y.toNat):Bool)=_
  rw[Td a b,Gt,show Nat.add x.toNat 1=x.toNat+1 from rfl,Om]
  simp only[Op.bytesLess]
  by_cases h:x.toNat+1≤y.toNat
  · have hl:x<y:=UInt8.lt_iff_toNat_lt.2 (by omega)
    rw[decide_eq_true h];simp[hl]
  · have hl:¬x<y:=fun h'=>h (by have:=UInt8.lt_iff_toNat_lt.1 h';omega)
    rw[decide_eq_false h]
    by_cases he:x.toNat=y.toNat
    · rw[decide_eq_true he];simp[UInt8.toNat_inj.1 he]
    · have:¬x=y:=fun h'=>he (by rw[h'])
      rw[decide_eq_false he];simp[hl,this]
theorem Gd.bytes{l c:Nat}{s:ByteArray}(h:Gd l c s):Hf l c=s.toList.map (·.toNat):=by
 obtain⟨rfl,rfl⟩:=h
 rw[ByteArray.toList_eq]
 exact Ho s.data.toList
theorem Gd.append{l c m d:Nat}{s t:ByteArray}(h:Gd l c s)(k:Gd m d t):Gd (Nat.add l m) (Aj5 l c d) (s++t):=by
 obtain⟨rfl,rfl⟩:=h
 obtain⟨rfl,rfl⟩:=k
 refine⟨by simp[ByteArray.size_append],?_⟩
 have:(s++t).data.toList=s.data.toList++t.data.toList:=by simp
 rw[this,Abb]
 show enc s.data.toList+(enc t.data.toList <<< (8*s.size))=_
 rw[Nat.shiftLeft_eq,Nat.mul_comm (enc t.data.toList)]
 rfl
end Go.Den
namespace Go.Den
open Go.RowKit
def isConst(o:Operand):Bool:=match o with
 |.const _=>true
 |_=>false
def isEq(op:BinOp):Bool:=match op with
 |.eql=>true
 |.neq=>true
 |_=>false
def Aa0(d:Option TypeDesc):Bool:=match d with
 |some (.interface _)=>true
 |_=>false
def Ah4(P:Program)(op:BinOp)(t:TypeId)(x y:Operand):Bool:=!isEq op||isConst x||isConst y||!Aa0 (P.underlying t)
theorem Arr(k:IntKind):intMax k<2^k.bits:=by cases k<;>decide
theorem Akw(k:IntKind):∃m,intMax k=2^m-1:=by
 cases k
 · exact⟨7,rfl⟩
 · exact⟨15,rfl⟩
 · exact⟨31,rfl⟩
 · exact⟨63,rfl⟩
 · exact⟨8,rfl⟩
 · exact⟨16,rfl⟩
 · exact⟨32,rfl⟩
 · exact⟨64,rfl⟩
theorem Xr(n a:Nat)(h:a<2^n):(BitVec.ofInt n (Int.ofNat a)).toNat=a:=by
 show(BitVec.ofInt n ((a:Nat):Int)).toNat=a
 rw[BitVec.ofInt_natCast,BitVec.toNat_ofNat,Nat.mod_eq_of_lt h]
theorem Agr(k:IntKind){a b c:Nat}(f:Nat→Nat→Nat)(hf:∀m,a<2^m→b<2^m→f a b<2^m)(ha:a≤intMax k)(hb:b≤intMax k)(hc:c=f a b):k.wrap (c:Int)=Int.ofNat (f a b):=by
 subst hc
 obtain⟨m,hm⟩:=Akw k
 have hp:=Nat.two_pow_pos m
 have:=hf m (by omega) (by omega)
 exact Ad3 k _ (by omega)
section
variable{P:Program}{w:World}{μ:Mu}
theorem Abo{op:BinOp}{k:IntKind}{a b:Int}{r:AV}(h:Ajl op k a b=some r):∃v,(Op.intBits op k a b).run P w=.ok v w∧VR μ r v:=by
 cases a with
 |negSucc=>cases h
 |ofNat a=>
  cases b with
  |negSucc=>cases h
  |ofNat b=>
   obtain⟨hl,h⟩:=Av (show(Bool.rec none (Ajm op k a b) (An (Nat.ble a (intMax k)) (Nat.ble b (intMax k))):Option AV)=some r from h)
   obtain⟨ha,hb⟩:=Al hl
   have ha:=Bu ha
   have hb:=Bu hb
   have hm:=Arr k
   have ta:(BitVec.ofInt k.bits (Int.ofNat a)).toNat=a:=Xr k.bits a (by omega)
   have tb:(BitVec.ofInt k.bits (Int.ofNat b)).toNat=b:=Xr k.bits b (by omega)
   cases op<;>simp only[Ajm] at h<;>cases h
   · refine⟨_,rfl,?_⟩
     show Value.int k _=Value.int k _
     rw[BitVec.toNat_and,ta,tb]
     refine congrArg (Value.int k) ?_
     exact Agr k Nat.land (fun m h1 _=>Nat.lt_of_le_of_lt Nat.and_le_left h1) ha hb rfl
   · refine⟨_,rfl,?_⟩
     show Value.int k _=Value.int k _
     rw[BitVec.toNat_or,ta,tb]
     refine congrArg (Value.int k) ?_
     exact Agr k Nat.lor (fun m h1 h2=>Nat.or_lt_two_pow h1 h2) ha hb rfl
   · refine⟨_,rfl,?_⟩
     show Value.int k _=Value.int k _
     rw[BitVec.toNat_xor,ta,tb]
     refine congrArg (Value.int k) ?_
     exact Agr k Nat.xor (fun m h1 h2=>Nat.xor_lt_two_pow h1 h2) ha hb rfl
theorem Asa{op:BinOp}{t:TypeId}{k j:IntKind}{a b:Int}{r:AV}(hk:sameKind op k j=true)(h:Abq op k a b=some r):∃v,(binOp op t (.int k a) (.int j b)).run P w=.ok v w∧VR μ r v:=by
 cases op
 case shl=>
  cases b with
  |negSucc=>cases h
  |ofNat b=>
   cases h
   refine⟨_,rfl,?_⟩
   rw[Mh];rfl
 case shr=>
  cases b with
  |negSucc=>cases h
  |ofNat b=>cases h;exact⟨_,rfl,rfl⟩
 case andNot=>cases h
 all_goals
  obtain rfl:k=j:=by simpa[sameKind] using hk
  simp only[binOp,ne_eq,not_true_eq_false,if_false]
 case add=>cases h;refine⟨_,rfl,?_⟩;rw[Mh,Afv];rfl
 case sub=>cases h;refine⟨_,rfl,?_⟩;rw[Mh,Apx];rfl
 case mul=>cases h;refine⟨_,rfl,?_⟩;rw[Mh];rfl
 case quo=>
  obtain⟨h0,h⟩:=Sg (show(Bool.rec (Arn k (a.tdiv b)) none (Bx b (.ofNat 0)):Option AV)=some r from h)
  rw[Jw] at h0
  have hb:¬b=0:=by simpa using h0
  cases h
  refine⟨.int k (k.wrap (a.tdiv b)),?_,by rw[Mh];rfl⟩
  simp[Op.intDiv,hb]
 case rem=>
  obtain⟨h0,h⟩:=Sg (show(Bool.rec (some (.int k (a.tmod b))) none (Bx b (.ofNat 0)):Option AV)=some r from h)
  rw[Jw] at h0
  have hb:¬b=0:=by simpa using h0
  cases h
  refine⟨.int k (a.tmod b),?_,rfl⟩
  simp[Op.intDiv,hb]
 case and=>exact Abo h
 case or=>exact Abo h
 case xor=>exact Abo h
 case eql=>cases h;exact⟨_,rfl,by rw[Jw];rfl⟩
 case neq=>cases h;exact⟨_,rfl,by rw[Jf,Jw];rfl⟩
 case lss=>cases h;exact⟨_,rfl,by rw[Jv];rfl⟩
 case leq=>cases h;exact⟨_,rfl,by rw[Mn];rfl⟩
 case gtr=>cases h;exact⟨_,rfl,by rw[Jv];rfl⟩
 case geq=>cases h;exact⟨_,rfl,by rw[Mn];rfl⟩
theorem Ar9{op:BinOp}{t:TypeId}{l c m d:Nat}{s u:ByteArray}{r:AV}(hs:Gd l c s)(hu:Gd m d u)(h:Agt op l c m d=some r):
 ∃v,(binOp op t (.string s) (.string u)).run P w=.ok v w∧VR μ r v:=by
 have heq:Dv l c m d=(s.toList==u.toList):=by rw[hs.eq hu];simp only[Dv,La,Gt]
 have hlt:Kv (Hf l c) (Hf m d)=Op.bytesLess s.toList u.toList:=by rw[hs.bytes,hu.bytes,Td]
 cases op<;>simp only[Agt] at h<;>try cases h
 case add=>
  obtain⟨hb,h⟩:=Av h
  cases h
  have hb:=Bu hb
  have h1:=hs.1
  have h2:=hu.1
  refine⟨.string (s++u),?_,_,rfl,hs.append hu⟩
  have hb:s.size+u.size≤9223372036854775807:=by rw[←h1,←h2];exact hb
  show(Op.stringOp .add s u).run P w=_
  exact run_string_add_sum w s u hb
 case eql=>exact⟨_,rfl,by rw[heq];rfl⟩
 case neq=>exact⟨_,rfl,by rw[heq,Jf];rfl⟩
 case lss=>exact⟨_,rfl,by rw[hlt];rfl⟩
 case geq=>exact⟨_,rfl,by rw[hlt,Jf];rfl⟩
end
end Go.Den
namespace Go.Den
open Go.RowKit
section
variable{P:Program}{w:World}{μ:Mu}
theorem A9a{E:Env}(ok:Cg P E){d:TypeDesc}{t:TypeId}{x y:AV}{vx vy:Value}{b:Bool}(hd:P.underlying t=some d)(h:eqT E d x y=some b)
 (hx:VR μ x vx) (hy:VR μ y vy) (n:Nat):(Op.equalIn (n+1) t vx vy).run P w=.ok b w:=by
 cases d<;>simp only[eqT] at h<;>try cases h
 case pointer e=>
  cases x<;>simp only at h<;>try cases h
  case Cm=>
   cases hx
   cases y<;>simp only[Avg] at h<;>cases h
   · cases hy;simp[Op.equalIn,run_underlying hd]
   · obtain⟨l,_,rfl⟩:=hy;simp[Op.equalIn,run_underlying hd]
  case ptr a i=>
   obtain⟨l,hl,rfl⟩:=hx
   cases y<;>simp only[A3r] at h<;>try cases h
   case Cm=>cases hy;simp[Op.equalIn,run_underlying hd]
   case ptr b' j=>
    obtain⟨l',hl',rfl⟩:=hy
    obtain⟨hb,h⟩:=Av h
    obtain⟨ei,he,h⟩:=Af h
    obtain⟨h1,h⟩:=Av h
    cases h
    have:=Go.Den.P.beq_eq hb
    subst this
    rw[hl] at hl';cases hl'
    obtain⟨ti,z,k⟩:=ok.ty _ _ he
    have hs:(sizeOf e).run P w=.ok ei.size w:=k.rsize
    have h1:=Bu h1
    simp only[Op.equalIn,Sem.run_bind,run_underlying hd,Result.andThen_ok,hs]
    rw[if_pos (by omega)]
    simp only[sameAddr,beq_self_eq_true,if_true]
    show Result.ok _ w=_
    rw[Gt]
    congr 1
    rw[Bool.eq_iff_iff];simp
 case interface ms=>
  cases x<;>simp only at h<;>try cases h
  case Mf=>
   cases hx
   cases y<;>simp only[Akt] at h<;>cases h
   · obtain⟨v,rfl,_⟩:=hy;simp[Op.equalIn,run_underlying hd]
   · cases hy;simp[Op.equalIn,run_underlying hd]
  case iface u v=>
   obtain⟨v,rfl,_⟩:=hx
   cases y<;>simp only at h<;>try cases h
   cases hy;simp[Op.equalIn,run_underlying hd]
 case slice e=>
  cases x<;>simp only at h<;>try cases h
  case Ai=>
   cases hx
   cases y<;>simp only[Avf] at h<;>cases h
   · cases hy;simp[Op.equalIn,run_underlying hd]
   · obtain⟨a,cap,rfl,_⟩:=hy;simp[Op.equalIn,run_underlying hd]
  case slice=>
   obtain⟨a,cap,rfl,_⟩:=hx
   cases y<;>simp only at h<;>try cases h
   cases hy;simp[Op.equalIn,run_underlying hd]
 case map e=>
  cases x<;>simp only at h<;>try cases h
  case Qx=>
   cases hx
   cases y<;>simp only[Avh] at h<;>cases h
   · cases hy;simp[Op.equalIn,run_underlying hd]
   · obtain⟨l,_,rfl⟩:=hy;simp[Op.equalIn,run_underlying hd]
  case map=>
   obtain⟨l,_,rfl⟩:=hx
   cases y<;>simp only at h<;>try cases h
   cases hy;simp[Op.equalIn,run_underlying hd]
 case func=>
  cases x<;>simp only at h<;>try cases h
  case Uv=>
   cases hx
   cases y<;>simp only[Avi] at h<;>cases h
   · obtain⟨_,_,_,rfl,_⟩:=hy;simp[Op.equalIn,run_underlying hd]
   · cases hy;simp[Op.equalIn,run_underlying hd]
  case func=>
   obtain⟨_,_,_,rfl,_⟩:=hx
   cases y<;>simp only at h<;>try cases h
   cases hy;simp[Op.equalIn,run_underlying hd]
theorem Awi{E:Env}(ok:Cg P E){t:TypeId}{x y:AV}{vx vy:Value}{b:Bool}(h:eqA E t x y=some b)(hx:VR μ x vx)(hy:VR μ y vy):(Op.equal t vx vy).run P w=.ok b w:=by
 have other:∀x,(Option.rec none (fun ti=>eqT E ti.desc x y) (E.ty t):Option Bool)=some b→VR μ x vx→(Op.equal t vx vy).run P w=.ok b w:=fun x h hx=>by
  obtain⟨i,hi,h⟩:=Af h
  obtain⟨ti,z,k⟩:=ok.ty _ _ hi
  exact A9a ok k.und h hx hy 9999
 cases x
 case bool=>exact Awf ok 5 _ _ _ _ _ _ h hx hy 10000 (by decide)
 case agg=>exact Awf ok 5 _ _ _ _ _ _ h hx hy 10000 (by decide)
 all_goals (refine other _ ?_ hx;exact h)
theorem Agd{E:Env}{t:TypeId}{y:AV}{b:Bool}(h:eqA E t .top y=some b):False:=by
 obtain⟨i,_,h⟩:=Af (show(Option.rec none (fun ti=>eqT E ti.desc .top y) (E.ty t):Option Bool)=some b from h)
 cases hd:i.desc<;>rw[hd] at h<;>simp only[eqT] at h<;>cases h
def Ah6(v:Value):Prop:=match v with
 |.int _ _=>False
 |.float _ _=>False
 |.complex _ _ _=>False
 |.string _=>False
 |_=>True
theorem binOp_eql{t:TypeId}{x y:Value}(h:Ah6 x):binOp .eql t x y=(do pure (.bool (←Op.equal t x y))):=by
 cases x<;>first|exact h.elim|(cases y<;>rfl)
theorem binOp_neq{t:TypeId}{x y:Value}(h:Ah6 x):binOp .neq t x y=(do pure (.bool (!(←Op.equal t x y)))):=by
 cases x<;>first|exact h.elim|(cases y<;>rfl)
theorem Ait{E:Env}(ok:Cg P E){op:BinOp}{t:TypeId}{ox oy:Operand}{x y:AV}{vx vy:Value}{b:Bool}(hc:Ah4 P op t ox oy=true)(hop:isEq op=true)(h:eqA E t x y=some b)(hx:VR μ x vx)(hy:VR μ y vy):
 (eqGuard op t ox oy vx vy).run P w=.ok () w:=by
 cases x
 case Mf=>
  cases hx
  obtain⟨i,hi,h⟩:=Af (show(Option.rec none (fun ti=>eqT E ti.desc .Mf y) (E.ty t):Option Bool)=some b from h)
  obtain⟨ti,z,k⟩:=ok.ty _ _ hi
  cases hd:i.desc<;>rw[hd] at h<;>simp only[eqT] at h<;>try cases h
  cases y<;>simp only[Akt] at h<;>cases h
  · obtain⟨v,rfl,_⟩:=hy;rw[eqGuard_nil_iface];rfl
  · cases hy
    have hu:=k.und
    rw[hd] at hu
    simp only[Ah4,hop,hu,Aa0] at hc
    cases ox with
    |const c=>rw[eqGuard_nil_constL];rfl
    |_=>
     cases oy with
     |const c=>rw[eqGuard_nil_constR];rfl
     |_=>simp[isConst] at hc
 case agg xs=>
  obtain⟨vs,rfl,_⟩:=hx
  obtain⟨i,hi,h⟩:=Af (show(Option.rec none (fun ti=>A88 E (eqF E 4) ti (.agg xs) y) (E.ty t):Option Bool)=some b from h)
  obtain⟨ti,z,k⟩:=ok.ty _ _ hi
  obtain⟨ys,hys,h2⟩:=Af (show(Option.rec none (fun ys=>Ai6 E (eqF E 4) i xs ys) (Ajy y):Option Bool)=some b from h)
  clear h
  cases y<;>simp only[Ajy] at hys<;>cases hys
  obtain⟨us,rfl,_⟩:=hy
  unfold Ai6 at h2
  obtain⟨hp,_⟩:=Av h2
  exact run_eqGuard_agg w op t ox oy vs us (k.plain hp).2
 case bool=>cases hx;rw[eqGuard_at_bool];rfl
 case int=>cases hx;rw[eqGuard_at_int];rfl
 case str=>obtain⟨_,rfl,_⟩:=hx;rw[eqGuard_at_string];rfl
 case Cm=>cases hx;rw[eqGuard_at_pointer];rfl
 case ptr=>obtain⟨_,_,rfl⟩:=hx;rw[eqGuard_at_pointer];rfl
 case Ai=>cases hx;rw[eqGuard_at_slice];rfl
 case slice=>obtain⟨_,_,rfl,_⟩:=hx;rw[eqGuard_at_slice];rfl
 case Qx=>cases hx;rw[eqGuard_at_map];rfl
 case map=>obtain⟨_,_,rfl⟩:=hx;rw[eqGuard_at_map];rfl
 case Uv=>cases hx;rw[eqGuard_at_nilFunc];rfl
 case func=>obtain⟨_,_,_,rfl,_⟩:=hx;rw[eqGuard_at_func];rfl
 case iface=>obtain⟨_,rfl,_⟩:=hx;rw[eqGuard_at_iface];rfl
 case tuple=>obtain⟨_,rfl,_⟩:=hx;rw[eqGuard_at_tuple];rfl
 case top=>exact(Agd h).elim
theorem A2f{E:Env}(ok:Cg P E){op:BinOp}{t:TypeId}{ox oy:Operand}{x y:AV}{vx vy:Value}{r:AV}(hc:Ah4 P op t ox oy=true)(h:Hh E op t x y=some r)(hx:VR μ x vx)(hy:VR μ y vy):
 ∃v,(do eqGuard op t ox oy vx vy;binOp op t vx vy:Sem Value).run P w=.ok v w∧VR μ r v:=by
 have other:∀x,Rk E op t x y=some r→VR μ x vx→Ah6 vx→∃v,(do eqGuard op t ox oy vx vy;binOp op t vx vy:Sem Value).run P w=.ok v w∧VR μ r v:=fun x h hx hn=>by
  cases op<;>simp only[Rk] at h<;>try cases h
  case eql=>
   obtain⟨b,hb,h⟩:=Af h
   cases h
   refine⟨_,?_,rfl⟩
   rw[Aa (Ait ok hc rfl hb hx hy),binOp_eql hn,Aa (Awi ok hb hx hy)];rfl
  case neq=>
   obtain⟨b,hb,h⟩:=Af h
   cases h
   refine⟨_,?_,by rw[Jf];rfl⟩
   rw[Aa (Ait ok hc rfl hb hx hy),binOp_neq hn,Aa (Awi ok hb hx hy)];rfl
 cases x
 case int k a=>
  cases hx
  have h:Agu op k a y=some r:=h
  cases y<;>simp only[Agu] at h<;>try cases h
  cases hy
  obtain⟨hk,h⟩:=Av h
  obtain⟨v,hv,hr⟩:=Asa (t:=t) hk h
  refine⟨v,?_,hr⟩
  rw[eqGuard_at_int];exact hv
 case str l c=>
  obtain⟨s,rfl,hs⟩:=hx
  have h:Ags op l c y=some r:=h
  cases y<;>simp only[Ags] at h<;>try cases h
  obtain⟨u,rfl,hu⟩:=hy
  obtain⟨v,hv,hr⟩:=Ar9 (t:=t) hs hu h
  refine⟨v,?_,hr⟩
  rw[eqGuard_at_string];exact hv
 case bool=>refine other _ h hx ?_;cases hx;trivial
 case Cm=>refine other _ h hx ?_;cases hx;trivial
 case Ai=>refine other _ h hx ?_;cases hx;trivial
 case Qx=>refine other _ h hx ?_;cases hx;trivial
 case Uv=>refine other _ h hx ?_;cases hx;trivial
 case Mf=>refine other _ h hx ?_;cases hx;trivial
 case ptr=>refine other _ h hx ?_;obtain⟨_,_,rfl⟩:=hx;trivial
 case slice=>refine other _ h hx ?_;obtain⟨_,_,rfl,_⟩:=hx;trivial
 case map=>refine other _ h hx ?_;obtain⟨_,_,rfl⟩:=hx;trivial
 case func=>refine other _ h hx ?_;obtain⟨_,_,_,rfl,_⟩:=hx;trivial
 case iface=>refine other _ h hx ?_;obtain⟨_,rfl,_⟩:=hx;trivial
 case agg=>refine other _ h hx ?_;obtain⟨_,rfl,_⟩:=hx;trivial
 case tuple=>refine other _ h hx ?_;obtain⟨_,rfl,_⟩:=hx;trivial
 case top=>
  have h:Rk E op t .top y=some r:=h
  cases op<;>simp only[Rk] at h<;>try cases h
  case eql=>obtain⟨b,hb,_⟩:=Af h;exact(Agd hb).elim
  case neq=>obtain⟨b,hb,_⟩:=Af h;exact(Agd hb).elim
theorem Aul{E:Env}(ok:Cg P E){op:BinOp}{t:TypeId}{ox oy:Operand}(h:Alu E op t ox oy=false):Ah4 P op t ox oy=true:=by
 unfold Alu at h
 have e1:A3k op=isEq op:=by cases op<;>rfl
 have e2:∀x,Avk x=isConst x:=fun x=>by cases x<;>rfl
 rw[e1,e2,e2,La,La,La,Jf,Jf] at h
 unfold Ah4
 cases hop:isEq op
 · rfl
 cases hx:isConst ox
 · cases hy:isConst oy
   · rw[hop,hx,hy] at h
     have h:(Option.rec true (fun ti=>Ap0 ti.desc) (E.ty t):Bool)=false:=h
     cases hi:E.ty t with
     |none=>rw[hi] at h;cases h
     |some i=>
      rw[hi] at h
      have h:Ap0 i.desc=false:=h
      obtain⟨ti,z,k⟩:=ok.ty _ _ hi
      have hu:=k.und
      rw[hu]
      show(false||false||false||!Aa0 (some i.desc))=true
      cases hd:i.desc<;>first|rfl|(rw[hd] at h;cases h)
   · simp
 · simp
theorem Awd{t:TypeId}{ms:Array (String×TypeId)}(ht:P.underlying t=some (.interface ms)){op:BinOp}{ox oy:Operand}{x y:AV}{vx vy:Value}{b:Bool}(h:Awe x y=some b)(hx:VR μ x vx)(hy:VR μ y vy)(n:Nat):
 (eqGuard op t ox oy vx vy).run P w=.ok () w∧(Op.equalIn (n+1) t vx vy).run P w=.ok b w∧Ah6 vx:=by
 cases x<;>simp only[Awe] at h<;>try cases h
 case Mf=>
  cases hx
  cases y<;>simp only at h<;>cases h
  obtain⟨v,rfl,_⟩:=hy
  refine⟨by rw[eqGuard_nil_iface];rfl,?_,trivial⟩
  simp[Op.equalIn,run_underlying ht]
 case iface tx a=>
  obtain⟨v,rfl,_⟩:=hx
  refine⟨by rw[eqGuard_at_iface];rfl,?_,trivial⟩
  cases y<;>simp only at h<;>try cases h
  case Mf=>
   cases hy
   simp[Op.equalIn,run_underlying ht]
  case iface ty c=>
   obtain⟨u,rfl,_⟩:=hy
   have hne:tx≠ty:=fun e=>by
    subst e
    rw[Nat.beq_refl] at h;cases h
   have hb:Nat.beq tx ty=false:=by rw[Gt];exact decide_eq_false hne
   rw[hb] at h
   cases h
   simp[Op.equalIn,run_underlying ht,hne]
theorem Aqd{t:TypeId}{ms:Array (String×TypeId)}(ht:P.underlying t=some (.interface ms)){op:BinOp}{ox oy:Operand}{x y:AV}{vx vy:Value}{b:Bool}(h:Awe x y=some b)(hx:VR μ x vx)(hy:VR μ y vy):
 (eqGuard op t ox oy vx vy).run P w=.ok () w∧(Op.equal t vx vy).run P w=.ok b w∧Ah6 vx:=Awd ht h hx hy 9999
theorem A2e{E:Env}(ok:Cg P E){op:BinOp}{t:TypeId}{ox oy:Operand}{x y:AV}{vx vy:Value}{r:AV}(h:Ajn E op t ox oy x y=some r)(hx:VR μ x vx)(hy:VR μ y vy):
 ∃v,(do eqGuard op t ox oy vx vy;binOp op t vx vy:Sem Value).run P w=.ok v w∧VR μ r v:=by
 unfold Ajn at h
 cases ha:Alu E op t ox oy with
 |false=>rw[ha] at h;exact A2f ok (Aul ok ha) h hx hy
 |true=>
  rw[ha] at h
  have h:Alr E op t x y=some r:=h
  unfold Alr at h
  obtain⟨i,hi,h⟩:=Af h
  obtain⟨hd,h⟩:=Av h
  obtain⟨ti,z,k⟩:=ok.ty _ _ hi
  have hu:=k.und
  obtain⟨ms,hms⟩:∃ms,i.desc=.interface ms:=by cases hdd:i.desc<;>rw[hdd] at hd<;>first|exact⟨_,rfl⟩|cases hd
  rw[hms] at hu
  cases op<;>simp only at h<;>try cases h
  case eql=>
   obtain⟨b,hb,h⟩:=Af h
   cases h
   obtain⟨g1,g2,g3⟩:=Aqd (w:=w) (op:=.eql) (ox:=ox) (oy:=oy) hu hb hx hy
   refine⟨_,?_,rfl⟩
   rw[Aa g1,binOp_eql g3,Aa g2];rfl
  case neq=>
   obtain⟨b,hb,h⟩:=Af h
   cases h
   obtain⟨g1,g2,g3⟩:=Aqd (w:=w) (op:=.neq) (ox:=ox) (oy:=oy) hu hb hx hy
   refine⟨_,?_,by rw[Jf];rfl⟩
   rw[Aa g1,binOp_neq g3,Aa g2];rfl
theorem A4x{op:UnOp}{x:AV}{vx:Value}{r:AV}(h:unA op x=some r)(hx:VR μ x vx):∃v,(Op.unary op vx).run P w=.ok v w∧VR μ r v:=by
 cases op<;>cases x<;>simp only[unA] at h<;>cases h<;>cases hx
 · exact⟨_,rfl,rfl⟩
 · exact⟨_,rfl,rfl⟩
 · exact⟨_,rfl,rfl⟩
end
end Go.Den
namespace Go.Den
open Go.RowKit
section
variable{T:Type}{P:Program}{w:World}{μ:Mu}{h:Hp T}
theorem Gb(w:World)(o:Obj):(w.alloc o).heap[w.heap.size]? =some o:=by
 simp[World.alloc,-World.alloc_eq]
theorem Sim.newRow(s:Sim μ h w)(e:TypeId)(t:Tm)(n:Nat)(whole:Bool)(vs:Array Value)(hc:∀μ',Mu.le μ μ'→Dt μ' (Aw t) n ⟨w.heap.size,0,vs.size⟩ vs)(hw:whole=true→n=vs.size):
 ∃μ',Sim μ' (h.new (.row t n 0 e whole)) (w.alloc (.cells vs e))∧Dc μ h w μ' (h.new (.row t n 0 e whole)) (w.alloc (.cells vs e))∧μ' h.next=some ⟨w.heap.size,0,vs.size⟩:=by
 obtain⟨h1,h2⟩:=s.alloc (.row t n 0 e whole) (.cells vs e) vs.size 0 fun μ' hl=>
  ⟨vs,(0,0),by rw[Gb],hc μ' hl,fun e=>⟨rfl,hw e⟩,fun _ i _ _=>by simp⟩
 exact⟨_,h1,h2,Mu.Cq _ _ _⟩
theorem Sim.Auu(s:Sim μ h w)(e:TypeId){as:List AV}{vs:Array Value}(hv:VRs μ as vs.toList)(ho:as.all AV.one=true):
 ∃μ',Sim μ' (h.newRow e as) (w.alloc (.cells vs e))∧Dc μ h w μ' (h.newRow e as) (w.alloc (.cells vs e))∧μ' h.next=some ⟨w.heap.size,0,vs.size⟩:=by
 have hl:=hv.length
 have:=s.newRow e (Aj as 0 .e) (len as) true vs (fun μ' hle=>by
  have:=Dt.new (hv.mono hle) ho w.heap.size
  rw[De]
  simpa using this) (fun _=>by rw[De];simpa using hl.symm)
 exact this
def Ms(P:Program)(μ:Mu)(sem:Sem Value)(u:Go.Den.P→AV)(ob:Ob T):Prop:=
 ∀w,∃v obj sz,sem.run P w=.ok v (w.alloc obj)∧∀μ',Mu.le μ μ'→ObR μ' (w.alloc obj) ⟨w.heap.size,0,sz⟩ ob∧∀p,μ' p=some ⟨w.heap.size,0,sz⟩→VR μ' (u p) v
theorem Ms.Aja{sem:Sem Value}{u:Go.Den.P→AV}{ob:Ob T}(f:Ms P μ sem u ob)(s:Sim μ h w):Fi P μ h w sem (u h.next) (h.new ob):=by
 obtain⟨v,obj,sz,hr,hh⟩:=f w
 obtain⟨s1,x1⟩:=s.alloc ob obj sz 0 fun μ' hle=>(hh μ' hle).1
 exact⟨v,_,_,hr,s1,x1,(hh _ x1.le).2 _ (Mu.Cq _ _ _)⟩
theorem Ms.row{sem:Sem Value}{u:Go.Den.P→AV}{e:TypeId}{t:Tm}{n:Nat}{whole:Bool}{vs:Array Value}(hc:∀g μ',Mu.le μ μ'→Dt μ' (Aw t) n ⟨g,0,vs.size⟩ vs)(hw:whole=true→n=vs.size)(v:Nat→Value)
 (hv:∀g μ' p,μ' p=some ⟨g,0,vs.size⟩→VR μ' (u p) (v g)) (hr:∀w,sem.run P w=.ok (v w.heap.size) (w.alloc (.cells vs e))):Ms (T:=T) P μ sem u (.row t n 0 e whole):=fun w=>
 ⟨_,_,vs.size,hr w,fun μ' hle=>⟨⟨vs,(0,0),by rw[Gb],hc _ μ' hle,fun e=>⟨rfl,hw e⟩,fun _ i _ _=>by simp⟩,fun p hp=>hv _ _ _ hp⟩⟩
theorem Sz{E:Env}(ok:Cg P E){e:TypeId}{i:TI}(hi:E.ty e=some i)(μ:Mu):Ms (T:=T) P μ (Instr.alloc e true (.tuple #[])) (fun p=>.ptr p 0) (rowOf e i.zero):=by
 obtain⟨ti,z,k⟩:=ok.ty _ _ hi
 refine Ms.row (vs:=z.cells) (fun g μ' hle=>?_) (fun _=>?_) (fun g=>.pointer (some ⟨g,0,none⟩)) (fun g μ' p hp=>⟨_,hp,rfl⟩) fun w=>?_
 · have:=Dt.new ((k.cells μ).mono hle) k.Mv g
   rw[De]
   simpa using this
 · rw[De];simpa using(k.cells μ).length.symm
 · unfold Instr.alloc
   rw[Aa k.Uj]
   rfl
theorem Ak8{E:Env}(ok:Cg P E)(s:Sim μ h w){e:TypeId}{r:AV×Hp T}(hr:Za e (E.ty e) h=some r):Fi P μ h w (Instr.alloc e true (.tuple #[])) r.1 r.2:=by
 obtain⟨i,hi,hr⟩:=Af hr
 cases hr
 exact(Sz ok hi μ).Aja s
theorem Ba4(s:Sim μ h w)(e:TypeId){a:AV}{v:Value}(hv:VR μ a v)(hn:Nat.ble 1 (len a.cells)=true):Fi P μ h w (Instr.box e v) (.ptr h.next 0) (h.new (rowOf e a.cells)):=by
 have hn:=Bu hn
 rw[De] at hn
 have hne:a.cells≠[]:=fun e=>by rw[e] at hn;simp at hn
 obtain⟨hc,ho⟩:=hv.cells hne
 obtain⟨μ',s',x',hm⟩:=s.Auu e hc ho
 refine⟨.pointer (some ⟨w.heap.size,0,none⟩),_,μ',rfl,s',x',?_⟩
 exact⟨_,hm,rfl⟩
theorem Ar7(e:TypeId){a:AV}{v:Value}(hv:VR μ a v)(hn:Nat.ble 1 (len a.cells)=true):Ms (T:=T) P μ (Instr.box e v) (fun p=>.ptr p 0) (rowOf e a.cells):=by
 have hn:=Bu hn
 rw[De] at hn
 have hne:a.cells≠[]:=fun e=>by rw[e] at hn;simp at hn
 obtain⟨hc,ho⟩:=hv.cells hne
 refine Ms.row (vs:=v.cells) (fun g μ' hle=>?_) (fun _=>?_) (fun g=>.pointer (some ⟨g,0,none⟩)) (fun g μ' p hp=>⟨_,hp,rfl⟩) fun w=>rfl
 · have:=Dt.new (hc.mono hle) ho g
   rw[De]
   simpa using this
 · rw[De];simpa using hc.length.symm
theorem Uk{v:Value}{b o:Nat}(h:v=.pointer (some ⟨b,o,none⟩)):(Instr.sureAddr v).run P w=.ok ⟨b,o,none⟩ w:=by subst h;rfl
variable{α:Type}{good:α→Prop}
theorem Ade{C:Cx α}{h:Hp C.I.T}(ok:Cg P C.E)(hbad:¬good C.bad)(s:Sim μ h w){k:K α C.I.T}{b:Go.Den.P}{off:Nat}{t:TypeId}{i:TI}(hi:C.E.ty t=some i)(hg:good (Tn C h k b off i)){v:Value}(hv:VR μ (.ptr b off) v):
 ∃a u,(Instr.loadAt t v).run P w=.ok u w∧VR μ a u∧good (k a h):=by
 obtain⟨ti,z,ty⟩:=ok.ty _ _ hi
 obtain⟨l,hl,rfl⟩:=hv
 unfold Instr.loadAt
 unfold Tn at hg
 cases ha:i.agg with
 |true=>
  rw[ha] at hg
  have hg:good (h.Ix b off i.size C.bad (fun l=>k (.agg l) h)):=hg
  obtain⟨l',cs,e,fz,as,hl',hb,_,hle,hv,ho,hlen,hg⟩:=s.read hbad hl hg
  rw[hl] at hl';cases hl'
  have hag:VR μ (.agg as) (.agg (cs.extract (l.off+off) (l.off+off+i.size))):=⟨_,rfl,hv,ho⟩
  refine⟨_,_,?_,hag,hg⟩
  rw[Aa (Uk rfl)]
  unfold loadVar
  rw[Aa ty.A6d,ha]
  simp only[if_true]
  rw[Aa ty.rsize,Aa (run_loadCells hb _ hle)]
  rfl
 |false=>
  rw[ha] at hg
  have hg:good (h.Ih b off C.bad (fun v=>k v h)):=hg
  obtain⟨l',v,a,hl',hc,hv,ho,hg⟩:=s.Ka hbad hl hg
  rw[hl] at hl';cases hl'
  refine⟨a,v,?_,hv,hg⟩
  rw[Aa (Uk rfl)]
  unfold loadVar
  rw[Aa ty.A6d,ha]
  simp only[Bool.false_eq_true,if_false]
  exact Su hc
theorem Are{C:Cx α}{h:Hp C.I.T}(ok:Cg P C.E)(hbad:¬good C.bad)(s:Sim μ h w){k:K α C.I.T}{b:Go.Den.P}{off:Nat}{t:TypeId}{i:TI}(hi:C.E.ty t=some i){a:AV}(hg:good (Od C h k b off a i)){v x:Value}(hv:VR μ (.ptr b off) v)(hx:VR μ a x):
 ∃w' h',(Instr.storeAt t v x).run P w=.ok () w'∧Sim μ h' w'∧Dc μ h w μ h' w'∧good (k .undef h'):=by
 obtain⟨ti,z,ty⟩:=ok.ty _ _ hi
 obtain⟨l,hl,rfl⟩:=hv
 unfold Instr.storeAt
 unfold Od at hg
 obtain⟨hb,hg⟩:=Vc hbad hg
 obtain⟨h1,h2⟩:=Al hb
 have h1:=Bo h1
 have h2:=Bu h2
 rw[De] at h1
 have hne:a.cells≠[]:=fun e=>by rw[e] at h1;simp at h1;omega
 obtain⟨hc,ho⟩:=hx.cells hne
 obtain⟨l',w',h',hl',hr,s',x',hg⟩:=s.write (Pr:=P) hbad hl hg hc ho
 rw[hl] at hl';cases hl'
 refine⟨w',h',?_,s',x',hg⟩
 rw[Aa (Uk rfl)]
 unfold storeVar
 rw[Aa ty.rsize]
 have:=hc.length
 simp only[Array.length_toList] at this
 rw[if_neg (by omega)]
 exact hr
theorem Pe{fs:List Field}{i:Nat}{p:Nat×TypeId}(h:Nk fs i=some p):∃f,fs[i]? =some f∧p=(f.offset,f.type):=by
 obtain⟨f,hf,h⟩:=Af h
 rw[Eo] at hf
 cases h;exact⟨f,hf,rfl⟩
theorem Ak4{E:Env}(ok:Cg P E){t:TypeId}{i o:Nat}(ho:Wz E t i=some o){b:Go.Den.P}{off:Nat}{v:Value}(hv:VR μ (.ptr b off) v):
 ∃u,(Instr.fieldAt t v i).run P w=.ok u w∧VR μ (.ptr b (Nat.add off o)) u:=by
 obtain⟨l,hl,rfl⟩:=hv
 obtain⟨ti,hti,ho⟩:=Af ho
 obtain⟨_,z,ty⟩:=ok.ty _ _ hti
 have hu:=ty.Ahs (P:=P) (w:=w)
 cases hd:ti.desc<;>rw[hd] at ho<;>simp only at ho<;>try cases ho
 rename_i fs
 obtain⟨p,hp,ho⟩:=Af ho
 obtain⟨fi,hfi,ho⟩:=Af ho
 obtain⟨h1,ho⟩:=Av ho
 cases ho
 obtain⟨f,hf,rfl⟩:=Pe hp
 obtain⟨_,_,fty⟩:=ok.ty _ _ hfi
 have h1:=Bu h1
 refine⟨.pointer (some ⟨l.blk,l.off+off+f.offset,none⟩),?_,l,hl,by rw[show Nat.add off f.offset=off+f.offset from rfl,Nat.add_assoc]⟩
 unfold Instr.fieldAt
 rw[Aa hu,hd]
 have hf:fs[i]? =some f:=by rw[←Array.getElem?_toList];exact hf
 simp only[hf]
 rw[Aa (Uk rfl)]
 unfold fieldPlace
 have:(if fi.size=0 then partAt ⟨l.blk,l.off+off,none⟩ f.offset f.byteOffset else pure ((⟨l.blk,l.off+off,none⟩:Addr).add f.offset):Sem Addr)=pure ⟨l.blk,l.off+off+f.offset,none⟩:=by
  rw[if_neg (by omega),Ic]
 simp only[Sem.run_bind,fty.rsize,Result.andThen_ok,this]
 rfl
theorem Jp{a:AV}{n:Nat}(h:Bp a=some n){v:Value}(hv:VR μ a v):∃k,v=.int k (n:Int):=by
 cases a<;>simp only[Bp] at h<;>try cases h
 rename_i k m
 cases m<;>simp only at h<;>cases h
 cases hv
 exact⟨k,rfl⟩
theorem Sk{E:Env}(ok:Cg P E){t:TypeId}{p:Nat×TypeId}(h:Ajt E t=some p):P.underlying t=some (.array p.1 p.2):=by
 obtain⟨ti,hti,h⟩:=Af h
 obtain⟨_,z,ty⟩:=ok.ty _ _ hti
 have hu:=ty.und
 cases hd:ti.desc<;>rw[hd] at h<;>simp only at h<;>try cases h
 rw[hu,hd]
theorem Ku{E:Env}(ok:Cg P E){t:TypeId}{k:TypeId→TI→Option (AV×Hp T)}{r:AV×Hp T}(h:Ap E t k=some r):
 ∃e i,P.underlying t=some (.slice e)∧E.ty e=some i∧k e i=some r:=by
 obtain⟨e,he,h⟩:=Af h
 obtain⟨i,hi,h⟩:=Af h
 obtain⟨ti,hti,he⟩:=Af he
 obtain⟨_,z,ty⟩:=ok.ty _ _ hti
 have hu:=ty.und
 cases hd:ti.desc<;>rw[hd] at he<;>simp only at he<;>cases he
 exact⟨e,i,by rw[hu,hd],hi,h⟩
theorem Sr{E:Env}(ok:Cg P E){t:TypeId}{k:TypeId→TI→Option (AV×Hp T)}{r:AV×Hp T}(h:Ap E t k=some r):
 ∃e i,P.underlying t=some (.slice e)∧E.ty e=some i∧k e i=some r∧∀k':TypeId→TI→Option (AV×Hp T),Ap E t k'=k' e i:=by
 obtain⟨e,he,h⟩:=Af h
 obtain⟨i,hi,h⟩:=Af h
 have hall:∀k':TypeId→TI→Option (AV×Hp T),Ap E t k'=k' e i:=fun k'=>by
  unfold Ap;rw[he]
  show(Option.rec none (fun ti=>k' e ti) (E.ty e):Option (AV×Hp T))=_
  rw[hi]
 obtain⟨ti,hti,he⟩:=Af he
 obtain⟨_,z,ty⟩:=ok.ty _ _ hti
 have hu:=ty.und
 cases hd:ti.desc<;>rw[hd] at he<;>simp only at he<;>cases he
 exact⟨e,i,by rw[hu,hd],hi,h,hall⟩
theorem Akx{E:Env}(ok:Cg P E)(s:Sim μ h w){t:TypeId}{x y:AV}{r:AV×Hp T}(hr:Gf E t x (Bp y) h=some r){vx vy:Value}(hx:VR μ x vx)(hy:VR μ y vy):
 Fi P μ h w (Instr.indexAt t vx vy) r.1 r.2:=by
 obtain⟨i,hi,hr⟩:=Af hr
 obtain⟨k,rfl⟩:=Jp hi hy
 cases x with
 |slice b off n sz tg=>
  obtain⟨e,ei,hu,he,hr⟩:=Ku ok hr
  obtain⟨_,_,ety⟩:=ok.ty _ _ he
  obtain⟨hc,hr⟩:=Av hr
  obtain⟨h1,h2⟩:=Al hc
  have h1:i+1≤n:=Bu h1
  have h2:ei.size=sz:=Bo h2
  cases hr
  obtain⟨a,cap,rfl,hn,_,hl⟩:=hx
  obtain⟨l,hm,rfl,hb⟩:=hl.resolve_left (by omega)
  refine .here s ?_ ⟨l,hm,rfl⟩
  unfold Instr.indexAt
  simp only[Sem.run_bind,asIntOf,Sem.run_pure,Result.andThen_ok,Bh hu]
  rw[if_pos (by constructor<;>omega)]
  simp only[Sem.run_bind,ety.rsize,Result.andThen_ok,Sem.run_pure,Int.toNat_natCast,Ic,h2]
  rw[show Nat.add off (Nat.mul i sz)=off+i*sz from rfl,Nat.add_assoc]
 |ptr b off=>
  obtain⟨p,hp,hr⟩:=Af hr
  obtain⟨h1,hr⟩:=Av hr
  obtain⟨ei,he,hr⟩:=Af hr
  cases hr
  obtain⟨_,_,ety⟩:=ok.ty _ _ he
  have h1:i+1≤p.1:=Bu h1
  have hu:=Sk ok hp
  obtain⟨l,hl,rfl⟩:=hx
  refine .here s ?_ ⟨l,hl,rfl⟩
  unfold Instr.indexAt
  simp only[Sem.run_bind,asIntOf,Sem.run_pure,Result.andThen_ok,Bh hu,Instr.sureAddr]
  rw[if_pos (by constructor<;>omega)]
  simp only[Sem.run_bind,ety.rsize,Result.andThen_ok,Sem.run_pure,Int.toNat_natCast,Ic]
  rw[show Nat.add off (Nat.mul i ei.size)=off+i*ei.size from rfl,Nat.add_assoc]
 |_=>cases hr
end
end Go.Den
namespace Go.Den
open Go.RowKit
theorem Af2(l:List Value):∀(k off:Nat)(cs:Array Value),(l.zipIdx k).foldl (fun cs (p:Value×Nat)=>cs.setIfInBounds (off+p.2) p.1) cs=splice cs (off+k) l:=by
 induction l with
 |nil=>intro k off cs;rfl
 |cons v l ih=>intro k off cs;rw[List.zipIdx_cons,List.foldl_cons,ih,splice,Nat.add_assoc]
inductive Im (μ:Mu):List (Nat×AV)→List (Nat×Value)→Prop
 |nil:Im μ [] []
 |cons {i:Nat} {a:AV} {v:Value} {ps:List (Nat×AV)} {vs:List (Nat×Value)}:VR μ a v→Im μ ps vs→Im μ ((i,a)::ps) ((i,v)::vs)
section
variable{T:Type}{P:Program}{w:World}{μ:Mu}{h:Hp T}
theorem Aqa{place pl:Nat→Option (Nat×Nat)}(hpl:∀i q,place i=some q→pl i=some q){m:Nat}{ps:List (Nat×AV)}{vs:List (Nat×Value)}(hp:Im μ ps vs):
 ∀(t:Tm)(cs:Array Value)(t':Tm),Dt μ (Aw t) m ⟨0,0,cs.size⟩ cs→cs.size=m→Adl place m ps t=some t'→∃cs',Instr.fill pl cs vs=some cs'∧Dt μ (Aw t') m ⟨0,0,cs'.size⟩ cs'∧cs'.size=m:=by
 induction hp with
 |nil=>intro t cs t' hc hs h;cases h;exact⟨cs,rfl,hc,hs⟩
 |@cons i a v ps vs hv hp ih=>
  intro t cs t' hc hs h
  have h:(Option.rec none (fun q=>Bool.rec none (Adl place m ps (Aj a.cells q.1 t)) (An (An (Nat.beq (len a.cells) q.2) (Nat.ble 1 q.2)) (Nat.ble (Nat.add q.1 (len a.cells)) m))) (place i):Option Tm)=some t':=h
  obtain⟨q,hq,h⟩:=Af h
  obtain⟨hb,h⟩:=Av h
  obtain⟨hb,h3⟩:=Al hb
  obtain⟨h1,h2⟩:=Al hb
  have h1:=Bo h1
  have h2:=Bu h2
  have h3:q.1+len a.cells≤m:=Bu h3
  rw[De] at h1 h3
  have hne:a.cells≠[]:=fun e=>by rw[e] at h1;simp at h1;omega
  obtain⟨hcs,ho⟩:=hv.cells hne
  have hlen:=hcs.length
  simp only[Array.length_toList] at hlen
  have hst:=hc.store q.1 hcs ho (by omega)
  obtain⟨cs',hf,hc',hs'⟩:=ih (Aj a.cells q.1 t) (splice cs (0+q.1) v.cells.toList) t' (by simpa using hst) (by simpa using hs) h
  refine⟨cs',?_,hc',hs'⟩
  obtain⟨off,size⟩:=q
  unfold Instr.fill
  rw[hpl _ _ hq]
  simp only
  rw[if_neg (by simp at *;omega)]
  rw[←hf]
  congr 1
  rw[←Array.foldl_toList,Array.toList_zipIdx]
  have:=Af2 v.cells.toList 0 off cs
  simp only[Nat.zero_add] at*
  exact this
theorem Dt.all{c:Nat→AV}{m:Nat}{cs:Array Value}(r:Dt μ c m ⟨0,0,cs.size⟩ cs)(hs:cs.size=m):VRs μ (Da c m 0) cs.toList∧(Da c m 0).all AV.one=true:=by
 have h1:=r.extract 0 m (by omega)
 have h2:=r.Mv 0 m (by omega)
 simp only[Nat.zero_add] at h1
 rw[show cs.extract 0 m=cs from by rw[←hs];simp] at h1
 exact⟨h1,h2⟩
theorem run_places{fs:List Field}(h:∀f∈fs,∃ti,P.info? f.type=some ti):(fs.mapM fun f=>do pure (f.offset,←sizeOf f.type):Sem (List (Nat×Nat))).run P w=.ok (fs.map fun f=>(f.offset,P.cellsOf f.type)) w:=by
 induction fs with
 |nil=>rfl
 |cons f fs ih=>
  obtain⟨ti,hti⟩:=h f (by simp)
  have hs:(sizeOf f.type).run P w=.ok (P.cellsOf f.type) w:=by
   unfold sizeOf;rw[Aa (Jz hti)];simp[Program.cellsOf,hti]
  have ih:=ih fun g hg=>h g (by simp[hg])
  rw[List.mapM_cons,Aa (show(do pure (f.offset,←sizeOf f.type):Sem (Nat×Nat)).run P w=.ok (f.offset,P.cellsOf f.type) w from by rw[Aa hs];rfl),Aa ih]
  rfl
theorem Axu{E:Env}(ok:Cg P E)(s:Sim μ h w){t:TypeId}{ps:List (Nat×AV)}{vs:Array (Nat×Value)}(hp:Im μ ps vs.toList){r:AV×Hp T}(hr:Ax E (E.ty t) ps h=some r):
 Fi P μ h w (Instr.build t vs) r.1 r.2:=by
 obtain⟨i,hi,hr⟩:=Af hr
 obtain⟨ti,z,k⟩:=ok.ty _ _ hi
 have hzl:=(k.cells μ).length
 simp only[Array.length_toList] at hzl
 have hc0:Dt μ (Aw (Aj i.zero 0 .e)) (len i.zero) ⟨0,0,z.cells.size⟩ z.cells:=by
  have:=Dt.new (k.cells μ) k.Mv 0
  rw[De];simpa using this
 have fin:∀{place pl:Nat→Option (Nat×Nat)},(∀i q,place i=some q→pl i=some q)→Abv (len i.zero) h (Adl place (len i.zero) ps (Aj i.zero 0 .e))=some r→∃cs,Instr.fill pl z.cells vs.toList=some cs∧VR μ r.1 (.agg cs)∧r.2=h:=by
  intro place pl hpl hr
  obtain⟨t',ht',hr⟩:=Af hr
  cases hr
  obtain⟨cs,hf,hc,hs⟩:=Aqa hpl hp _ _ t' hc0 (by rw[De];exact hzl) ht'
  have:=hc.all hs
  refine⟨cs,hf,?_,rfl⟩
  rw[Kw]
  exact⟨cs,rfl,this.1,this.2⟩
 unfold Instr.build
 unfold Re at hr
 cases hd:i.desc<;>rw[hd] at hr<;>simp only at hr<;>try cases hr
 case struct fs=>
  have hpl:∀j q,Aue E fs.toList j=some q→((fs.map fun f=>(f.offset,P.cellsOf f.type))[j]? :Option (Nat×Nat))=some q:=by
   intro j q hq
   obtain⟨p,hp,hq⟩:=Af hq
   obtain⟨fi,hfi,hq⟩:=Af hq
   cases hq
   obtain⟨f,hf,rfl⟩:=Pe hp
   obtain⟨_,_,fk⟩:=ok.ty _ _ hfi
   have hf':fs[j]? =some f:=by rw[←Array.getElem?_toList];exact hf
   simp[hf',Program.cellsOf,fk.info,fk.size]
  obtain⟨cs,hf,hv,h2⟩:=fin hpl hr
  rw[h2]
  refine .here s ?_ hv
  rw[Aa k.Uj]
  simp only
  rw[Aa k.Ahs,hd]
  simp only
  rw[Array.mapM_eq_mapM_toList]
  have:=run_places (P:=P) (w:=w) (fs:=fs.toList) fun f hf=>by
   obtain⟨j,hj⟩:=ok.Bn1 _ _ _ hi hd f hf
   obtain⟨ti,_,fk⟩:=ok.ty _ _ hj
   exact⟨ti,fk.info⟩
  rw[Aa (show(List.toArray <$> (fs.toList.mapM fun f=>do pure (f.offset,←sizeOf f.type)):Sem (Array (Nat×Nat))).run P w=.ok (fs.map fun f=>(f.offset,P.cellsOf f.type)) w from by
   rw[map_eq_pure_bind,Aa this]
   simp only[Sem.run_pure]
   congr 1
   apply Array.ext';simp)]
  rw[hf]
  rfl
 case array n e=>
  obtain⟨ei,hei,hr⟩:=Af hr
  obtain⟨_,_,ek⟩:=ok.ty _ _ hei
  obtain⟨cs,hf,hv,h2⟩:=fin (place:=Afg ei.size) (pl:=fun i=>some (i*ei.size,ei.size)) (fun j q hq=>hq) hr
  rw[h2]
  refine .here s ?_ hv
  rw[Aa k.Uj]
  simp only
  rw[Aa k.Ahs,hd]
  simp only
  rw[Aa ek.rsize,hf]
  rfl
end
end Go.Den
namespace Go.Den
open Go.RowKit
theorem Arl(z:List AV):Tg z 0=[]:=rfl
theorem Wn(z:List AV)(n:Nat):Tg z (n+1)=z++Tg z n:=by
 show Jh z (Tg z n)=_
 rw[Pp]
def cyc(zs:Array Value)(n:Nat):Array Value:=(Array.range n).map (zs[·%zs.size]!)
theorem Ts(zs:Array Value)(n:Nat):(cyc zs n).toList=(List.range n).map (zs[·%zs.size]!):=by simp[cyc]
theorem Ajc(xs zs:Array Value){n:Nat}(h:n=0):(Array.range n).map (xs[·%xs.size]!)=cyc zs n:=by
 subst h;apply Array.ext';simp[cyc]
theorem Aww(zs:Array Value)(n:Nat):(cyc zs (zs.size+n)).toList=zs.toList++(cyc zs n).toList:=by
 rw[Ts,Ts,List.range_add,List.map_append]
 congr 1
 · apply List.ext_getElem
   · simp
   · intro i h1 h2
     simp at h1
     simp[Nat.mod_eq_of_lt h1,h1]
 · rw[List.map_map]
   apply List.map_congr_left
   intro i _
   simp
theorem Yj{μ:Mu}{z:List AV}{zs:Array Value}(h:VRs μ z zs.toList):∀n,VRs μ (Tg z n) (cyc zs (n*zs.size)).toList:=by
 intro n
 induction n with
 |zero=>rw[Nat.zero_mul,Ts];exact(rfl:([]:List Value)=[])
 |succ n ih=>
  rw[Wn,Nat.succ_mul,Nat.add_comm,Aww]
  exact h.append ih
theorem Rw{z:List AV}(h:z.all AV.one=true):∀n,(Tg z n).all AV.one=true:=by
 intro n
 induction n with
 |zero=>rfl
 |succ n ih=>rw[Wn,List.all_append,h,ih];rfl
theorem Ir(z:List AV)(n:Nat):(Tg z n).length=n*z.length:=by
 induction n with
 |zero=>simp[Arl]
 |succ n ih=>rw[Wn,List.length_append,ih,Nat.succ_mul,Nat.add_comm]
section
variable{T:Type}{P:Program}{w:World}{μ:Mu}{h:Hp T}
theorem Ru{μ':Mu}{b:Go.Den.P}{g n c sz:Nat}{tg:Bool}(hm:μ' b=some ⟨g,0,c*sz⟩)(hn:n≤c)(ht:tg=true→c=n):VR μ' (.slice b 0 n sz tg) (.slice (some ⟨g,0,none⟩) n c):=
 ⟨_,c,rfl,hn,⟨ht,_,hm⟩,.inr ⟨_,hm,by simp,by simp⟩⟩
theorem Nq{E:Env}(ok:Cg P E){t:TypeId}{n:Nat}{ps:List (Nat×AV)}{r:AV×Hp T}(hr:Ap E t (fun e ei=>Ak n ps h e ei)=some r):
 ∃(u:Go.Den.P→AV)(ob:Ob T),r=(u h.next,h.new ob)∧(∀h':Hp T,Ap E t (fun e ei=>Ak n ps h' e ei)=some (u h'.next,h'.new ob))∧∀{μ:Mu}{vs:Array (Nat×Value)},Im μ ps vs.toList→Ms P μ (Instr.buildSlice t n vs) u ob:=by
 obtain⟨e,ei,hu,he,hr,hall⟩:=Sr ok hr
 obtain⟨ti,z,k⟩:=ok.ty _ _ he
 unfold Ak at hr
 obtain⟨hb,hr⟩:=Av hr
 have hb0:=hb
 obtain⟨t',ht',hr⟩:=Af hr
 cases hr
 obtain⟨h1,hb⟩:=Al hb
 obtain⟨h2,h3⟩:=Al hb
 have h1:=Bo h1
 have h2:=Bu h2
 have h3:n*ei.size≤16777216:=Bu h3
 rw[De] at h1
 refine⟨fun p=>.slice p 0 n ei.size true,.row t' (Nat.mul n ei.size) 0 e true,rfl,fun h'=>?_,fun{μ vs} hp=>?_⟩
 · rw[hall]
   unfold Ak
   rw[hb0,ht']
 have hzl:=(k.cells μ).length
 simp only[Array.length_toList] at hzl
 have hz:z.cells.size=ei.size:=by omega
 have hrep:=Yj (k.cells μ) n
 rw[hz] at hrep
 have hlen:=hrep.length
 rw[Ir,h1] at hlen
 have hc0:Dt μ (Aw (Aj (Tg ei.zero n) 0 .e)) (Nat.mul n ei.size) ⟨0,0,(cyc z.cells (n*ei.size)).size⟩ (cyc z.cells (n*ei.size)):=by
  have:=Dt.new hrep (Rw k.Mv n) 0
  rw[Ir,h1] at this
  simpa using this
 obtain⟨cs,hf,hc,hs⟩:=Aqa (place:=Afg ei.size) (pl:=fun i=>some (i*ei.size,ei.size)) (fun j q hq=>hq) hp _ _ t' hc0 hlen ht'
 refine Ms.row (vs:=cs) (fun g μ' hl=>?_) (fun _=>hs.symm) (fun g=>.slice (some ⟨g,0,none⟩) n n) (fun g μ' p hm=>Ru (g:=g) (c:=n) (by rw[hm,hs];rfl) (Nat.le_refl _) (fun _=>rfl)) fun w=>?_
 · obtain⟨a1,a2,a3⟩:=hc.mono hl
   exact⟨rfl,a2,a3⟩
 unfold Instr.buildSlice
 rw[Aa (Bh hu)]
 simp only
 rw[Aa k.rsize]
 have hcy:(Array.range (n*ei.size)).map ((if n*ei.size=0 then #[] else z.cells)[·%(if n*ei.size=0 then #[] else z.cells).size]!)=cyc z.cells (n*ei.size):=by
  split
  · rename_i h0;exact Ajc _ _ h0
  · rfl
 rw[if_neg (by omega)]
 by_cases h0:n*ei.size=0
 · rw[if_pos h0]
   rw[if_pos h0] at hcy
   simp only[Sem.run_bind,Sem.run_pure,Result.andThen_ok,hcy,hf]
   rfl
 · rw[if_neg h0]
   rw[if_neg h0] at hcy
   simp only[Sem.run_bind,Sem.run_pure,Result.andThen_ok,k.Uj,hcy,hf]
   rfl
theorem Acj{E:Env}(ok:Cg P E)(s:Sim μ h w){t:TypeId}{n:Nat}{ps:List (Nat×AV)}{vs:Array (Nat×Value)}(hp:Im μ ps vs.toList){r:AV×Hp T}(hr:Ap E t (fun e ei=>Ak n ps h e ei)=some r):
 Fi P μ h w (Instr.buildSlice t n vs) r.1 r.2:=by
 obtain⟨u,ob,rfl,_,hf⟩:=Nq ok hr
 exact(hf hp).Aja s
theorem Zk{m:Nat}(h:m≤9223372036854775807):IntKind.i64.wrap (m:Int)=(m:Int):=Ad3 .i64 m h
theorem run_askRoom(n:Nat):(askRoom n).run P w=.ok () w:=by unfold askRoom;split<;>rfl
theorem Py{E:Env}(ok:Cg P E){t:TypeId}{x y:AV}{r:AV×Hp T}(hr:Ap E t (fun e ei=>Ge (Bp x) (Bp y) h e ei)=some r):
 ∃(u:Go.Den.P→AV)(ob:Ob T),r=(u h.next,h.new ob)∧(∀h':Hp T,Ap E t (fun e ei=>Ge (Bp x) (Bp y) h' e ei)=some (u h'.next,h'.new ob))∧∀{μ:Mu}{vx vy:Value},VR μ x vx→VR μ y vy→Ms P μ (Instr.makeSlice t vx vy) u ob:=by
 obtain⟨e,ei,hu,he,hr,hall⟩:=Sr ok hr
 obtain⟨ti,z,k⟩:=ok.ty _ _ he
 unfold Ge mk2 at hr
 obtain⟨l,hl,hr⟩:=Af hr
 obtain⟨c,hc,hr⟩:=Af hr
 obtain⟨hb,hr⟩:=Av hr
 have hb0:=hb
 cases hr
 obtain⟨h1,hb⟩:=Al hb
 obtain⟨hb,hb'⟩:=Al hb
 obtain⟨h2,h3⟩:=Al hb
 obtain⟨h4,h5⟩:=Al hb'
 have h1:=Bu h1
 have h2:=Bo h2
 have h3:=Bu h3
 have h4:=Bu h4
 have h5:c*ei.bytes≤140737488355328:=Bu h5
 rw[De] at h2
 refine⟨fun p=>.slice p 0 l ei.size (Nat.beq l c),.row (Aj (Tg ei.zero c) 0 .e) (Nat.mul c ei.size) 0 e true,rfl,fun h'=>?_,fun{μ vx vy} hx hy=>?_⟩
 · rw[hall]
   unfold Ge mk2
   rw[hl,hc]
   show(Bool.rec none _ _:Option (AV×Hp T))=_
   rw[hb0]
 obtain⟨kx,rfl⟩:=Jp hl hx
 obtain⟨ky,rfl⟩:=Jp hc hy
 have hzl:=(k.cells μ).length
 simp only[Array.length_toList] at hzl
 have hz:z.cells.size=ei.size:=by omega
 have hrep:=Yj (k.cells μ) c
 rw[hz] at hrep
 have hlen:=hrep.length
 rw[Ir,h2] at hlen
 refine Ms.row (vs:=cyc z.cells (c*ei.size)) (fun g μ' hl=>?_) (fun _=>hlen.symm) (fun g=>.slice (some ⟨g,0,none⟩) l c) (fun g μ' p hm=>Ru (g:=g) (c:=c) (by rw[hm];congr 2) h1 (fun h=>(Bo h).symm)) fun w=>?_
 · have:=Dt.new (hrep.mono hl) (Rw k.Mv c) g
   rw[Ir,h2] at this
   simpa using this
 unfold Instr.makeSlice
 rw[Aa (Bh hu)]
 simp only
 have hi:∀(kk:IntKind)(n:Int),(asInt (.int kk n)).run P w=.ok n w:=fun _ _=>rfl
 rw[Aa (hi _ _),Aa (hi _ _),Aa (Jz k.info)]
 have hl':l≤9223372036854775807:=by omega
 have hc':c≤9223372036854775807:=by omega
 have hbig:¬((ti.bytes:Int)*(c:Int)>2^48):=by
  rw[k.bytes]
  have:((c*ei.bytes:Nat):Int)≤140737488355328:=by omega
  rw[Int.natCast_mul] at this
  rw[Int.mul_comm];omega
 simp only[Zk hl',Zk hc']
 rw[if_neg (by simp only[Bool.or_eq_true,decide_eq_true_eq];omega)]
 rw[Sem.run_bind]
 show Result.andThen ((askRoom _).run P w) _=_
 rw[run_askRoom,Result.andThen_ok]
 simp only[Int.toNat_natCast]
 rw[Aa k.rsize]
 by_cases h0:c*ei.size=0
 · rw[if_pos h0]
   rw[Aa (run_pure (a:=(#[]:Array Value)))]
   have:(Array.range (c*ei.size)).map ((#[]:Array Value)[·%(#[]:Array Value).size]!)=cyc z.cells (c*ei.size):=Ajc _ _ h0
   rw[this];rfl
 · rw[if_neg h0]
   simp only[Sem.run_bind,k.Uj,Result.andThen_ok,Sem.run_pure]
   rfl
theorem Afm{E:Env}(ok:Cg P E)(s:Sim μ h w){t:TypeId}{x y:AV}{vx vy:Value}(hx:VR μ x vx)(hy:VR μ y vy){r:AV×Hp T}(hr:Ap E t (fun e ei=>Ge (Bp x) (Bp y) h e ei)=some r):
 Fi P μ h w (Instr.makeSlice t vx vy) r.1 r.2:=by
 obtain⟨u,ob,rfl,_,hf⟩:=Py ok hr
 exact(hf hx hy).Aja s
end
end Go.Den
namespace Go.Den
open Go.RowKit
theorem Vn:∀(i:Nat)(a:List UInt8),enc a / 2^(8*i)=enc (a.drop i)
 |0,a=>by simp
 |i+1,[]=>by simp[enc]
 |i+1,x::a=>by
  have hx:=x.toNat_lt
  rw[show 8*(i+1)=8+8*i from by omega,Nat.pow_add,←Nat.div_div_eq_div_mul]
  have:enc (x::a) / 2^8=enc a:=by simp only[enc];omega
  rw[this,List.drop_succ_cons]
  exact Vn i a
theorem Agf:∀(i:Nat)(a:List UInt8),enc a%2^(8*i)=enc (a.take i)
 |0,a=>by simp[enc,Nat.mod_one]
 |i+1,[]=>by simp[enc]
 |i+1,x::a=>by
  have hx:=x.toNat_lt
  have ih:=Agf i a
  rw[show 8*(i+1)=8+8*i from by omega,Nat.pow_add,Nat.mod_mul]
  have h1:enc (x::a) / 2^8=enc a:=by simp only[enc];omega
  have h2:enc (x::a)%2^8=x.toNat:=by simp only[enc];omega
  rw[h1,h2,ih];rfl
theorem Gd.get{l c:Nat}{s:ByteArray}(h:Gd l c s){i:Nat}(hi:i<l):s[i]? =some (UInt8.ofNat (Fw c i))∧Fw c i<256:=by
 obtain⟨rfl,rfl⟩:=h
 have hlt:i<s.data.toList.length:=hi
 have e:Fw (enc s.data.toList) i=(s.data.toList[i]).toNat:=by
  show(enc s.data.toList >>> (8*i))%256=_
  rw[Nat.shiftRight_eq_div_pow,Vn,List.drop_eq_getElem_cons hlt]
  have:=(s.data.toList[i]).toNat_lt
  simp only[enc];omega
 rw[e]
 refine⟨?_,UInt8.toNat_lt _⟩
 have:s[i]? =some (s[i]'hi):=getElem?_pos s i hi
 rw[this]
 congr 1
 rw[UInt8.ofNat_toNat]
 rfl
theorem Gd.cut{l c:Nat}{s:ByteArray}(h:Gd l c s){lo hi:Nat}(h1:lo≤hi)(h2:hi≤l):Gd (Nat.sub hi lo) (Wi c lo hi) (s.extract lo hi):=by
 obtain⟨rfl,rfl⟩:=h
 have hd:(s.extract lo hi).data.toList=(s.data.toList.drop lo).take (hi-lo):=by
  rw[ByteArray.data_extract,Array.toList_extract,List.extract_eq_take_drop]
 refine⟨?_,?_⟩
 · show hi-lo=_
   rw[ByteArray.size_extract];omega
 · show(enc s.data.toList >>> (8*lo))%2^(8*(hi-lo))=_
   rw[Nat.shiftRight_eq_div_pow,Vn,Agf,hd]
theorem Gd.empty:Gd 0 0 ByteArray.empty:=⟨rfl,rfl⟩
theorem Gd.ofBytes(l:List UInt8):Gd l.length (Ud (l.map (·.toNat))) ⟨⟨l⟩⟩:=by
 refine⟨rfl,?_⟩
 show _=enc l
 induction l with
 |nil=>rfl
 |cons x l ih=>simp only[enc,←ih];rfl
theorem Zn(μ:Mu)(l:List UInt8):VR μ (strOf (l.map (·.toNat))) (.string ⟨⟨l⟩⟩):=by
 refine⟨_,rfl,?_⟩
 rw[De,List.length_map]
 exact Gd.ofBytes l
theorem Abm(μ:Mu)(s:ByteArray):VR μ (bytesOf s) (.string s):=Zn μ s.data.toList
theorem Vv(μ:Mu)(s:ByteArray):VRs μ (byteCells s.size (enc s.data.toList)) (s.data.toList.map fun b=>Value.int .u8 b.toNat):=by
 obtain⟨⟨l⟩⟩:=s
 show VRs μ (byteCells l.length (enc l)) (l.map _)
 induction l with
 |nil=>exact(rfl:([]:List Value)=[])
 |cons x l ih=>
  have hx:=x.toNat_lt
  show VRs μ (.int .u8 (.ofNat (Nat.mod (enc (x::l)) 256))::byteCells l.length (Nat.div (enc (x::l)) 256)) _
  have h1:Nat.mod (enc (x::l)) 256=x.toNat:=by show enc (x::l)%256=_;simp only[enc];omega
  have h2:Nat.div (enc (x::l)) 256=enc l:=by show enc (x::l) / 256=_;simp only[enc];omega
  rw[h1,h2]
  exact⟨_,_,rfl,rfl,ih⟩
theorem Rj(n:Nat):∀c,(byteCells n c).all AV.one=true:=by
 induction n with
 |zero=>intro c;rfl
 |succ n ih=>intro c;show List.all (_::byteCells n (Nat.div c 256)) AV.one=true;rw[List.all_cons,ih];rfl
theorem Ni(n:Nat):∀c,(byteCells n c).length=n:=by
 induction n with
 |zero=>intro c;rfl
 |succ n ih=>intro c;show(byteCells n _).length+1=_;rw[ih]
theorem Ri{c:AV}{n:Nat}(hn:byteOfCell c=some n):c=.int .u8 (.ofNat n):=by
 cases c<;>simp only[byteOfCell] at hn<;>try cases hn
 rename_i k m
 cases k<;>simp only at hn<;>try cases hn
 cases m<;>simp only at hn<;>cases hn
 rfl
theorem Pm{μ:Mu}:∀{cs:List AV}{l:List Nat}{vs:List Value},Gs cs=some l→VRs μ cs vs→∃bs:List UInt8,l=bs.map (·.toNat)∧vs=bs.map fun b=>Value.int .u8 b.toNat
 |[],l,vs,h,hv=>by cases h;cases(show vs=[] from hv);exact⟨[],rfl,rfl⟩
 |c::cs,l,vs,h,hv=>by
  have h:(Option.rec none (fun n=>Option.rec none (fun l=>Bool.rec none (some (n::l)) (Nat.ble n 255)) (Gs cs)) (byteOfCell c):Option (List Nat))=some l:=h
  obtain⟨n,hn,h⟩:=Af h
  obtain⟨l',hl',h⟩:=Af h
  obtain⟨hb,h⟩:=Av h
  cases h
  have hb:=Bu hb
  obtain⟨v,vs,rfl,hv1,hv2⟩:=hv
  obtain⟨bs,rfl,rfl⟩:=Pm hl' hv2
  have:=Ri hn
  subst this
  have hv1:v=.int .u8 (Int.ofNat n):=hv1
  refine⟨UInt8.ofNat n::bs,?_,?_⟩
  · simp;omega
  · rw[hv1];simp
    omega
end Go.Den
namespace Go.Den
open Go.RowKit
section
variable{T:Type}{P:Program}{w:World}{μ:Mu}{h:Hp T}
def Qg(μ:Mu)(a:Option AV)(v:Option Value):Prop:=match a,v with
 |none,none=>True
 |some a,some v=>VR μ a v
 |_,_=>False
def bnd(a:Option AV):Option (Option Nat):=a.map Bp
theorem Wl{k:IntKind}{i y:Nat}{c:BoundsCode}(h:i≤y):(Instr.sliceBound (.int k (i:Int)) y c).run P w=.ok i w:=by
 rw[run_sliceBound (h0:=by omega) (h1:=by omega)];rfl
theorem Sf(sl:Bool){n cap:Nat}{alo ahi amx:Option AV}{lo hi mx:Option Value}(rl:Qg μ alo lo)(rh:Qg μ ahi hi)(rm:Qg μ amx mx)(hs:mx.isSome=true→hi.isSome=true)
 {l h':Nat} {m:Option Nat} (hl:bound 0 (bnd alo)=some l) (hh:bound n (bnd ahi)=some h') (hm:maxOf (bnd amx)=some m)
 (h1:l≤h') (h2:h'≤n) (h3:n≤cap) (h4:∀k,m=some k→k=h'):
 (Instr.sliceBounds sl n cap lo hi mx).run P w=.ok (l,h',m.getD cap) w:=by
 have nat:∀{a:AV}{v:Value}{k:Nat},Bp a=some k→VR μ a v→∃kk,v=.int kk (k:Int):=fun e r=>Jp e r
 have lowv:(lo=none∧l=0)∨∃kk,lo=some (.int kk (l:Int)):=by
  cases alo with
  |none=>
   cases lo<;>simp only[Qg] at rl
   exact .inl ⟨rfl,by simpa[bnd,bound] using hl.symm⟩
  |some a=>
   cases lo<;>simp only[Qg] at rl
   have:Bp a=some l:=by simpa[bnd,bound] using hl
   obtain⟨kk,rfl⟩:=nat this rl
   exact .inr ⟨kk,rfl⟩
 have highv:(hi=none∧h'=n)∨∃kk,hi=some (.int kk (h':Int)):=by
  cases ahi with
  |none=>
   cases hi<;>simp only[Qg] at rh
   exact .inl ⟨rfl,by simpa[bnd,bound] using hh.symm⟩
  |some a=>
   cases hi<;>simp only[Qg] at rh
   have:Bp a=some h':=by simpa[bnd,bound] using hh
   obtain⟨kk,rfl⟩:=nat this rh
   exact .inr ⟨kk,rfl⟩
 have maxv:(mx=none∧m=none)∨∃kk,mx=some (.int kk (h':Int))∧m=some h':=by
  cases amx with
  |none=>
   cases mx<;>simp only[Qg] at rm
   exact .inl ⟨rfl,by simpa[bnd,maxOf] using hm.symm⟩
  |some am=>
   cases mx<;>simp only[Qg] at rm
   have hmk:∃k,Bp am=some k∧m=some k:=by
    cases hk:Bp am with
    |none=>simp[bnd,maxOf,hk] at hm
    |some k=>exact⟨k,rfl,by simpa[bnd,maxOf,hk] using hm.symm⟩
   obtain⟨k,hk,rfl⟩:=hmk
   have:=h4 k rfl
   subst this
   obtain⟨kk,rfl⟩:=nat hk rm
   exact .inr ⟨kk,rfl,rfl⟩
 clear rl rh rm hm hl hh
 unfold Instr.sliceBounds
 have c1:∀(kk:IntKind)(c:BoundsCode),(Instr.sliceBound (.int kk (l:Int)) h' c).run P w=.ok l w:=fun _ _=>Wl h1
 have c2:∀(kk:IntKind)(c:BoundsCode),(Instr.sliceBound (.int kk (h':Int)) cap c).run P w=.ok h' w:=fun _ _=>Wl (by omega)
 have c3:∀(kk:IntKind)(c:BoundsCode),(Instr.sliceBound (.int kk (h':Int)) h' c).run P w=.ok h' w:=fun _ _=>Wl (Nat.le_refl _)
 obtain⟨rfl,rfl⟩|⟨kl,rfl⟩:=lowv<;>obtain⟨rfl,rfl⟩|⟨kh,rfl⟩:=highv<;>obtain⟨rfl,rfl⟩|⟨km,rfl,rfl⟩:=maxv
 · rfl
 · simp at hs
 · simp only[Sem.run_bind,Sem.run_pure,Result.andThen_ok,c2];rfl
 · simp only[Sem.run_bind,Sem.run_pure,Result.andThen_ok,c2,c3];rfl
 · simp only[Sem.run_bind,Sem.run_pure,Result.andThen_ok,c1];rfl
 · simp at hs
 · simp only[Sem.run_bind,Sem.run_pure,Result.andThen_ok,c1,c2];rfl
 · simp only[Sem.run_bind,Sem.run_pure,Result.andThen_ok,c1,c2,c3];rfl
theorem Adn{b:Go.Den.P}{o n sz:Nat}{t:Bool}{l h':Nat}{m:Option Nat}{r:AV}(hr:Ma b o n sz t l h' m=some r):
 l≤h'∧h'≤n∧(∀k,m=some k→k=h')∧
 ∀(a:Addr)(cap:Nat),n≤cap→((t=true→cap=n)∧∃l,μ b=some l)→(cap=0∨∃q,μ b=some q∧a=⟨q.blk,q.off+o,none⟩∧q.off+o+cap*sz≤q.size)→
  VR μ r (.slice (some (if m.getD cap=l then a else a.add (l*sz))) (h'-l) (m.getD cap-l)):=by
 obtain⟨hb,hr⟩:=Av hr
 obtain⟨hb,h3⟩:=Al hb
 obtain⟨h1,h2⟩:=Al hb
 have h1:=Bu h1
 have h2:=Bu h2
 cases hr
 have hm:∀k,m=some k→k=h':=fun k e=>by subst e;exact Bo h3
 refine⟨h1,h2,hm,fun a cap hn ht hl=>?_⟩
 have hcap:h'≤m.getD cap∧m.getD cap≤cap:=by
  cases m with
  |none=>exact⟨by simp;omega,by simp⟩
  |some k=>have:=hm k rfl;simp;omega
 obtain⟨ht,hmb⟩:=ht
 refine⟨_,_,rfl,?_,⟨?_,hmb⟩,?_⟩
 · show h'-l≤_;omega
 · intro hq
   cases m with
   |none=>
    obtain⟨q1,q2⟩:=Al hq
    have:=Bo q2
    have:=ht q1
    simp;omega
   |some k=>have:=hm k rfl;subst this;rfl
 · by_cases e:m.getD cap=l
   · left;omega
   · right
     obtain⟨q,hq,rfl,hsz⟩:=hl.resolve_left (by omega)
     refine⟨q,hq,?_,?_⟩
     · rw[if_neg e,Ic,Nat.add_assoc];rfl
     · show q.off+(o+l*sz)+_*sz≤_
       have:l*sz+(m.getD cap-l)*sz≤cap*sz:=by
        rw[←Nat.add_mul];exact Nat.mul_le_mul_right _ (by omega)
       omega
theorem Iv{n:Nat}{lo hi:Option (Option Nat)}{k:Nat→Nat→Option AV}{r:AV}(h:Ig n lo hi k=some r):∃h' l,bound n hi=some h'∧bound 0 lo=some l∧k l h'=some r:=by
 obtain⟨h',e1,h⟩:=Af h
 obtain⟨l,e2,h⟩:=Af h
 exact⟨h',l,e1,e2,h⟩
theorem Arj(s:Sim μ h w){b:Go.Den.P}{lb:Loc}(hm:μ b=some lb){k:Nat}(hr:Atm k (Em (h.at b))=true):∃l,μ b=some l∧l.off+k≤l.size:=by
 have hrow:=s.rowOf (b:=b) hm rfl
 cases e:Em (h.at b) with
 |no=>rw[e] at hr;cases hr
 |row t m z e' whole=>
  rw[e] at hr
  have:=Bu (show Nat.ble k m=true from hr)
  obtain⟨_,l,cs,fz,hl,_,hc,_⟩:=hrow.1 _ _ _ _ _ e
  exact⟨l,hl,by have:=hc.1;have:=hc.2.1;omega⟩
 |ext c m=>
  rw[e] at hr
  have:=Bu (show Nat.ble k m=true from hr)
  obtain⟨l,cs,_,fz,hl,_,hc⟩:=hrow.2 _ _ e
  exact⟨l,hl,by have:=hc.1;have:=hc.2.1;omega⟩
theorem Arh{E:Env}(ok:Cg P E)(s:Sim μ h w){t:TypeId}{x:AV}{vx:Value}(hx:VR μ x vx){alo ahi amx:Option AV}{lo hi mx:Option Value}(rl:Qg μ alo lo)(rh:Qg μ ahi hi)(rm:Qg μ amx mx)(hs:mx.isSome=true→hi.isSome=true)
 {m:Option Nat} (hm:maxOf (bnd amx)=some m) {r:AV} (hr:Kk E h t x (bnd alo) (bnd ahi) m=some r):
 ∃v,(Instr.sliceAt t vx lo hi mx).run P w=.ok v w∧VR μ r v:=by
 obtain⟨i,hi',hr⟩:=Af hr
 obtain⟨ti,z,k⟩:=ok.ty _ _ hi'
 have hund:=k.und
 have arr:∀{b:Go.Den.P}{o n:Nat}{e:TypeId},Ald E h b o (bnd alo) (bnd ahi) m n e=some r→VR μ (.ptr b o) vx→
  ∃a l h' v,vx=.pointer (some a)∧(Instr.sliceBounds false n n lo hi mx).run P w=.ok (l,h',m.getD n) w∧(sizeOf e).run P w=.ok (P.cellsOf e) w∧
   v=.slice (some (if m.getD n=l then a else a.add (l*P.cellsOf e))) (h'-l) (m.getD n-l)∧VR μ r v:=by
  intro b o n e hr hx
  obtain⟨ei,he,hr⟩:=Af hr
  obtain⟨_,_,ek⟩:=ok.ty _ _ he
  obtain⟨hrow,hr⟩:=Av hr
  obtain⟨h',l,e1,e2,hr⟩:=Iv hr
  obtain⟨h1,h2,h3,hv⟩:=Adn (μ:=μ) hr
  obtain⟨q,hq,hsz⟩:=Arj s hx.choose_spec.1 hrow
  obtain⟨q',hq',rfl⟩:=hx
  rw[hq] at hq';cases hq'
  have hcs:P.cellsOf e=ei.size:=by simp[Program.cellsOf,ek.info,ek.size]
  refine⟨_,l,h',_,rfl,Sf false rl rh rm hs e2 e1 hm h1 h2 (Nat.le_refl _) h3,by rw[hcs];exact ek.rsize,rfl,?_⟩
  rw[hcs]
  refine hv _ n (Nat.le_refl _) ⟨fun _=>rfl,_,hq⟩ (.inr ⟨q,hq,rfl,?_⟩)
  have:q.off+(o+n*ei.size)≤q.size:=hsz
  omega
 cases hd:i.desc<;>rw[hd] at hr hund<;>simp only[Zr] at hr<;>try cases hr
 case string=>
  cases x<;>simp only at hr<;>try cases hr
  obtain⟨str,rfl,hstr⟩:=hx
  cases m with
  |some=>cases hr
  |none=>
   obtain⟨h',l,e1,e2,hr⟩:=Iv hr
   obtain⟨hb,hr⟩:=Av hr
   obtain⟨h1,h2⟩:=Al hb
   have h1:=Bu h1
   have h2:=Bu h2
   cases hr
   have hmx:mx=none:=by
    cases amx with
    |none=>cases mx<;>simp only[Qg] at rm;rfl
    |some a=>cases hk:Bp a<;>simp[bnd,maxOf,hk] at hm
   subst hmx
   have hlen:=hstr.1
   refine⟨.string (str.extract l h'),?_,_,rfl,hstr.cut h1 h2⟩
   rw[run_sliceAt_string _ _ _ _ _ _ hund]
   unfold Instr.slice
   simp only[Sem.run_bind,Bh hund,Result.andThen_ok]
   have:=Sf (P:=P) (w:=w) false rl rh rm hs e2 e1 hm h1 h2 (Nat.le_refl _) (fun _ e=>nomatch e)
   rw[hlen] at this
   simp[this]
 case slice e=>
  obtain⟨ei,he,hr⟩:=Af hr
  obtain⟨_,_,ek⟩:=ok.ty _ _ he
  have hat:∀v,(Instr.sliceAt t v lo hi mx).run P w=(Instr.slice t v lo hi mx).run P w:=fun v=>by
   unfold Instr.sliceAt
   rw[Aa (Bh hund)]
  unfold A3t at hr
  cases x<;>simp only at hr<;>try cases hr
  case Ai=>
   cases hx
   obtain⟨h',l,e1,e2,hr⟩:=Iv hr
   obtain⟨hb,hr2⟩:=Av hr
   obtain⟨hb,h3⟩:=Al hb
   obtain⟨h1,h2⟩:=Al hb
   cases hr2
   obtain rfl:=Bo h1
   obtain rfl:=Bo h2
   have h3':∀k,m=some k→k=0:=fun k e=>by subst e;exact Bo h3
   have hm0:m.getD 0=0:=by cases m<;>simp;exact h3' _ rfl
   refine⟨.slice none 0 0,?_,rfl⟩
   rw[hat]
   unfold Instr.slice
   rw[Aa (Bh hund)]
   simp only
   rw[Aa (Sf true rl rh rm hs e2 e1 hm (Nat.le_refl _) (Nat.le_refl _) (Nat.le_refl _) h3')]
   simp only
   rw[Aa ek.rsize]
   simp[hm0,Sem.run_pure]
  case slice b o n sz tg=>
   obtain⟨hz,hr⟩:=Av hr
   have hz:=Bo hz
   obtain⟨h',l,e1,e2,hr⟩:=Iv hr
   obtain⟨h1,h2,h3,hv⟩:=Adn (μ:=μ) hr
   obtain⟨a,cap,rfl,hn,ht,hl⟩:=hx
   refine⟨_,?_,hv a cap hn ht hl⟩
   rw[hat]
   unfold Instr.slice
   rw[Aa (Bh hund)]
   simp only
   rw[Aa (Sf true rl rh rm hs e2 e1 hm h1 h2 hn h3)]
   simp only
   rw[Aa ek.rsize,hz]
   simp only[Sem.run_pure,Option.map_some]
   split<;>rfl
 case array n e=>
  cases x<;>simp only at hr<;>try cases hr
  obtain⟨a,l,h',v,rfl,hb,hsz,rfl,hv⟩:=arr hr hx
  refine⟨_,?_,hv⟩
  unfold Instr.sliceAt
  rw[Aa (Bh hund)]
  simp only[Instr.sureAddr]
  rw[Aa run_pure,Aa hb]
  simp only
  rw[Aa hsz]
  rfl
 case pointer at_=>
  cases x<;>simp only at hr<;>try cases hr
  obtain⟨p,hp,hr⟩:=Af hr
  have harr:=Sk ok hp
  obtain⟨a,l,h',v,rfl,hb,hsz,rfl,hv⟩:=arr hr hx
  refine⟨_,?_,hv⟩
  unfold Instr.sliceAt
  rw[Aa (Bh hund)]
  simp only
  unfold Instr.slice
  rw[Aa (Bh hund)]
  simp only[asAddr]
  rw[Aa run_pure,Aa (Bh harr)]
  simp only
  rw[Aa hb]
  simp only
  rw[Aa hsz]
  rfl
end
end Go.Den
namespace Go.Den
open Go.RowKit
section
variable{T:Type}{P:Program}{w:World}{μ:Mu}{h:Hp T}
theorem Lu{E:Env}(ok:Cg P E){e:TypeId}(hb:isByte E e=true):P.underlying e=some (.int .u8):=by
 unfold isByte at hb
 cases he:E.ty e with
 |none=>rw[he] at hb;cases hb
 |some i=>
  rw[he] at hb
  obtain⟨_,_,k⟩:=ok.ty _ _ he
  have hb:Ave i.desc=true:=(Al (show An (Ave i.desc) (Nat.beq i.size 1)=true from hb)).1
  have hu:=k.und
  cases hd:i.desc<;>rw[hd] at hb<;>simp only[Ave] at hb<;>try cases hb
  rename_i kk
  cases kk<;>simp only at hb<;>try cases hb
  rw[hu,hd]
theorem Agl{E:Env}(ok:Cg P E){e:TypeId}(hb:isByte E e=true):P.cellsOf e=1:=by
 unfold isByte at hb
 cases he:E.ty e with
 |none=>rw[he] at hb;cases hb
 |some i=>
  rw[he] at hb
  obtain⟨_,_,k⟩:=ok.ty _ _ he
  have:=Bo (Al (show An (Ave i.desc) (Nat.beq i.size 1)=true from hb)).2
  simp[Program.cellsOf,k.info,k.size,this]
theorem fold_push:∀(l:List UInt8)(acc:ByteArray),(l.map fun b=>(b.toNat:Int)).foldl (fun r n=>r.push (UInt8.ofNat n.toNat)) acc=acc++⟨⟨l⟩⟩
 |[],acc=>by
  apply ByteArray.ext;apply Array.ext';simp
 |x::l,acc=>by
  rw[List.map_cons,List.foldl_cons,fold_push l]
  apply ByteArray.ext;apply Array.ext';simp
theorem Acs{b:Nat}{cs:Array Value}{e:TypeId}{fz:Nat×Nat}(hblk:w.heap[b]? =some (.cells cs e fz))(x:Nat):(Conv.seenAt ⟨b,x,none⟩).run P w=.ok ⟨b,x,none⟩ w:=by
 have hsh:w.shape? b=some (e,cs.size):=by simp[World.shape?,hblk]
 have h1:(shape b).run P w=.ok (some (e,cs.size)) w:=by simp[shape,Sem.run,hsh]
 have h2:(viewAt b).run P w=.ok none w:=by unfold viewAt;rw[Aa h1];rfl
 unfold Conv.seenAt
 rw[Aa h2];rfl
theorem Alf{E:Env}(ok:Cg P E)(s:Sim μ h w){src dst:TypeId}{x:AV}{vx:Value}(hx:VR μ x vx){r:AV×Hp T}(hsrc:(E.ty src).isSome=true)(hr0:Ia E h src dst x=some r):
 Fi P μ h w (convert src dst vx) r.1 r.2:=by
 obtain⟨i,hi,hr⟩:=Af hr0
 clear hr0
 obtain⟨_,_,k⟩:=ok.ty _ _ hi
 have hd:=k.und
 obtain⟨j,hj⟩:=Option.isSome_iff_exists.1 hsrc
 obtain⟨_,_,kj⟩:=ok.ty _ _ hj
 have hs:=kj.und
 unfold Aql at hr
 cases hdd:i.desc<;>rw[hdd] at hr hd<;>simp only at hr<;>try cases hr
 case int kk=>
  cases x<;>simp only[Agj] at hr<;>try cases hr
  cases hx
  refine .here s ?_ rfl
  rw[Mh];unfold convert;rw[Aa (Bh hs),Aa (Bh hd)];rfl
 case string=>
  cases x<;>simp only[Zf] at hr<;>try cases hr
  case int kk n=>
   cases hx
   refine .here s ?_ (Abm μ _)
   rw[run_convert_int_string (hs:=by rw[hs];rfl) (hd:=hd)]
  case str l c=>
   obtain⟨str,rfl,hstr⟩:=hx
   refine .here s ?_ ⟨str,rfl,hstr⟩
   unfold convert;rw[Aa (Bh hs),Aa (Bh hd)];rfl
  case Ai=>
   cases hx
   obtain⟨j',hj',hr⟩:=Af hr
   rw[hj] at hj';cases hj'
   cases hjd:j.desc<;>rw[hjd] at hr hs<;>simp only at hr<;>try cases hr
   obtain⟨hb,hr⟩:=Av hr
   cases hr
   have he:=Lu ok hb
   refine .here s (v:=.string .empty) ?_ ⟨_,rfl,Gd.empty⟩
   unfold convert;rw[Aa (Bh hs),Aa (Bh hd)]
   simp only
   rw[Aa (Bh he)];rfl
  case slice b o n sz tg=>
   obtain⟨j',hj',hr⟩:=Af hr
   rw[hj] at hj';cases hj'
   cases hjd:j.desc<;>rw[hjd] at hr hs<;>simp only at hr<;>try cases hr
   obtain⟨hb,hr⟩:=Av hr
   have he:=Lu ok hb
   obtain⟨cs,hcs,hr⟩:=Af hr
   obtain⟨bl,hbl,hr⟩:=Af hr
   cases hr
   obtain⟨a,cap,rfl,hn,⟨_,_,hm0⟩,hl⟩:=hx
   have hread:=s.read (good:=fun o=>o=some cs) (bad:=none) (fun e=>nomatch e) (b:=b) (off:=o) (n:=n) (k:=some) hm0 hcs
   obtain⟨l',vs,e',fz,as,hl',hrow,_,hle,hv,_,hlen,hg⟩:=hread
   cases hg
   obtain⟨bs,rfl,hbs⟩:=Pm hbl hv
   refine .here s ?_ (Zn μ bs)
   unfold convert;rw[Aa (Bh hs),Aa (Bh hd)]
   simp only
   rw[Aa (Bh he)]
   have hload:(loadCells a n).run P w=.ok ((bs.map fun b=>(b.toNat:Int)).map (Value.int .u8)).toArray w:=by
    by_cases h0:n=0
    · subst h0
      have:bs=[]:=by
       cases bs with
       |nil=>rfl
       |cons x bs=>simp at hbs
      subst this;rfl
    · obtain⟨q,hq,rfl,_⟩:=hl.resolve_left (by omega)
      rw[hq] at hl';cases hl'
      rw[run_loadCells hrow n hle]
      congr 1
      apply Array.ext'
      rw[hbs];simp[Function.comp_def]
   rw[run_bytesToString w a n cap _ hload,fold_push]
   congr 2
 case slice e=>
  cases x<;>simp only[Ado] at hr<;>try cases hr
  rename_i l c
  obtain⟨hb,hr⟩:=Av hr
  cases hr
  have he:=Lu ok hb
  obtain⟨str,rfl,hstr⟩:=hx
  obtain⟨rfl,rfl⟩:=hstr
  have hrun:=Lib.run_convert_string_bytes (P:=P) w src dst e str hs hd he
  have hcap:=grownCap_ge w str.size 0 e
  -- the new row
  have hsz:(Lib.bytesCells w e str).size=grownCap w str.size 0 e:=by
   simp[Lib.bytesCells]
   have:str.data.size=str.size:=rfl
   omega
  let X:Obj:=.cells (Lib.bytesCells w e str) e ((Lib.bytesCells w e str).size,(Lib.bytesCells w e str).size+1)
  have hget:∀j:Nat,j<str.size→(Lib.bytesCells w e str)[j]? =(str.data.toList.map fun b=>Value.int .u8 b.toNat)[j]? :=by
   intro j hj
   have:j<str.data.size:=hj
   rw[Lib.bytesCells,Array.getElem?_append,if_pos (by simpa using this)];simp
  obtain⟨s1,x1⟩:=s.alloc (.row (Aj (byteCells str.size (enc str.data.toList)) 0 .e) str.size 0 e false) X (Lib.bytesCells w e str).size 0 (fun μ' hl=>by
   refine⟨_,_,Gb w X,⟨rfl,by rw[hsz];simp;omega,fun j hj=>?_⟩,(fun e=>nomatch e),fun _ j _ hj=>by simp;omega⟩
   have hbc:=Vv μ' str
   have hlen:=Ni str.size (enc str.data.toList)
   have ha:(byteCells str.size (enc str.data.toList))[j]? =some ((byteCells str.size (enc str.data.toList))[j]'(by omega)):=List.getElem?_eq_getElem _
   obtain⟨v,hv,hr⟩:=hbc.get j _ ha
   refine⟨v,by rw[Nat.zero_add,hget j hj];exact hv,?_,?_⟩
   · rw[Ah,if_pos (by omega),List.getD_eq_getElem?_getD,Nat.sub_zero,ha];exact hr
   · rw[Ah,if_pos (by omega),List.getD_eq_getElem?_getD,Nat.sub_zero,ha]
     exact(List.all_eq_true.1 (Rj _ _)) _ (List.getElem_mem _))
  have hheap:(Lib.bytesWorld w e str).heap=(w.alloc X).heap:=by
   apply Array.ext_getElem?
   intro j
   rcases Nat.lt_trichotomy j w.heap.size with hj|rfl|hj
   · rw[Lib.bytesWorld_at_old w e str j hj,Below.heap_alloc w X j hj]
   · rw[Lib.bytesWorld_at_new,Gb]
   · have h1:=Lib.bytesWorld_size w e str
     have h2:(w.alloc X).heap.size=w.heap.size+1:=by simp
     rw[Array.getElem?_eq_none (by omega),Array.getElem?_eq_none (by omega)]
  refine⟨_,_,_,hrun,s1.heap hheap,x1.trans (Dc.heap _ _ hheap rfl rfl rfl),?_⟩
  refine⟨_,_,rfl,hcap,⟨(fun e=>nomatch e),_,Mu.Cq _ _ _⟩,.inr ⟨_,Mu.Cq _ _ _,by simp,?_⟩⟩
  show 0+0+_*1≤(Lib.bytesCells w e str).size
  rw[hsz];omega
 case pointer u=>
  have src:∀{o:Option (AV×Hp T)},As2 E src o=some r→P.underlying src=some .unsafePointer∧o=some r:=fun hr=>by
   obtain⟨j',hj',hr⟩:=Af hr
   rw[hj] at hj';cases hj'
   cases hjd:j.desc<;>rw[hjd] at hr hs<;>simp only at hr<;>try cases hr
   exact⟨hs,rfl⟩
  cases x<;>simp only at hr<;>try cases hr
  case Cm=>
   obtain⟨hs',hr⟩:=src hr
   cases hr;cases hx
   refine .here s (v:=.pointer none) ?_ rfl
   unfold convert;rw[Aa (Bh hs'),Aa (Bh hd)]
   simp only[Conv.unsafePointer]
   rw[Aa (Bh hs'),Aa (Bh hd)];rfl
  case ptr b o=>
   obtain⟨hs',hr⟩:=src hr
   have hrow:=s.rowOf (b:=b) hx.choose_spec.1 rfl
   cases hro:Em (h.at b) with
   |no=>rw[hro] at hr;cases hr
   |ext c n=>rw[hro] at hr;cases hr
   |row t n z e whole=>
    rw[hro] at hr
    obtain⟨ui,hui,hr⟩:=Af (show(Option.rec none (fun ui=>Bool.rec none (some (.ptr b o,h)) (An (An whole (Nat.beq e u)) (An (Nat.beq o 0) (An (Nat.ble 1 ui.size) (Nat.ble ui.size n))))) (E.ty u):Option (AV×Hp T))=some r from hr)
    obtain⟨hb,hr2⟩:=Av hr
    obtain⟨hb1,hb2⟩:=Al hb
    obtain⟨hwh,hb1⟩:=Al hb1
    obtain⟨hb2,hb3⟩:=Al hb2
    obtain⟨hb3,hb4⟩:=Al hb3
    have hb3:=Bu hb3
    have hb4:=Bu hb4
    cases hr2
    obtain rfl:=Bo hb1
    obtain rfl:=Bo hb2
    obtain⟨_,_,ku⟩:=ok.ty _ _ hui
    obtain⟨_,l,cs,fz,hl,hblk,hc,hw,_⟩:=hrow.1 _ _ _ _ _ hro
    have hv:=hx
    obtain⟨q,hq,rfl⟩:=hx
    rw[hl] at hq;cases hq
    obtain⟨hoff,hn⟩:=hw hwh
    have hcs:P.cellsOf e=ui.size:=by simp[Program.cellsOf,ku.info,ku.size]
    have hsh:w.shape? l.blk=some (e,cs.size):=by simp[World.shape?,hblk]
    have hvar:(variablesAt ⟨l.blk,l.off+0,none⟩ e 1).run P w=.ok true w:=by
     have h1:(shape l.blk).run P w=.ok (some (e,cs.size)) w:=by simp[shape,Sem.run,hsh]
     unfold variablesAt
     rw[Aa (show program.run P w=.ok P w from rfl),Aa h1]
     simp only[hcs,hoff,Nat.add_zero]
     have:liesAt P P.depth e (cs.size / ui.size) 0 e 1=true:=by
      have hpos:0<cs.size / ui.size:=Nat.div_pos (by omega) (by omega)
      have hdp:P.depth=(2*(P.types.size+Made.depth)+1)+1:=rfl
      rw[hdp]
      simp only[liesAt,Bool.or_eq_true]
      left
      rw[hdp]
      have hne:¬ui.size=0:=by omega
      have hsl:∀d,sameLayout P (d+1) e e=true:=fun d=>by unfold sameLayout;simp
      unfold rowAt
      simp only[hcs,hne,if_false,Nat.zero_div,Nat.zero_mod,beq_self_eq_true,Bool.true_and,Nat.zero_add,decide_eq_true (show 1≤cs.size / ui.size from hpos),hsl,Bool.true_or]
     rw[this];rfl
    refine .here s ?_ hv
    unfold convert;rw[Aa (Bh hs'),Aa (Bh hd)]
    simp only[Conv.unsafePointer]
    rw[Aa (Bh hs'),Aa (Bh hd)]
    simp only
    have hseen:(Conv.seenAt ⟨l.blk,l.off+0,none⟩).run P w=.ok ⟨l.blk,l.off+0,none⟩ w:=Acs hblk _
    rw[Aa hseen,Aa ku.rsize]
    rw[Aa hvar]
    simp only[Bool.or_true,if_true]
    rfl
 case unsafePointer=>
  cases x<;>simp only at hr<;>try cases hr
  case Cm=>
   obtain⟨j',hj',hr⟩:=Af hr
   rw[hj] at hj';cases hj'
   cases hjd:j.desc<;>rw[hjd] at hr hs<;>simp only at hr<;>try cases hr
   cases hx
   refine .here s (v:=.pointer none) ?_ rfl
   unfold convert;rw[Aa (Bh hs),Aa (Bh hd)]
   simp only[Conv.unsafePointer]
   rw[Aa (Bh hs),Aa (Bh hd)];rfl
  case ptr b o=>
   have hrow:=s.rowOf (b:=b) hx.choose_spec.1 rfl
   cases hro:Em (h.at b) with
   |no=>unfold Lm at hr;rw[hro] at hr;cases hr
   |ext c n=>unfold Lm at hr;rw[hro] at hr;cases hr
   |row t n z e whole=>
    unfold Lm at hr
    rw[hro] at hr
    obtain⟨j',hj',hr⟩:=Af (show(Option.rec none (fun ti=>match ti.desc with
     |.pointer t=>Option.rec none (fun ei=>Bool.rec none (some (.ptr b o,h)) (An (Nat.ble 1 ei.size) (Nat.ble (Nat.add o 1) n))) (E.ty t)
     |_=>none) (E.ty src):Option (AV×Hp T))=some r from hr)
    rw[hj] at hj';cases hj'
    cases hjd:j.desc<;>rw[hjd] at hr hs<;>simp only at hr<;>try cases hr
    rename_i t'
    obtain⟨ui,hui,hr⟩:=Af hr
    obtain⟨hb,hr⟩:=Av hr
    cases hr
    obtain⟨hb1,hb2⟩:=Al hb
    have hb1:=Bu hb1
    have hb2:o+1≤n:=Bu hb2
    obtain⟨_,_,ku⟩:=ok.ty _ _ hui
    obtain⟨_,l,cs,fz,hl,hblk,hc,hw,_⟩:=hrow.1 _ _ _ _ _ hro
    have hv:=hx
    obtain⟨q,hq,rfl⟩:=hx
    rw[hl] at hq;cases hq
    have hsh:w.shape? l.blk=some (e,cs.size):=by simp[World.shape?,hblk]
    have h1:(shape l.blk).run P w=.ok (some (e,cs.size)) w:=by simp[shape,Sem.run,hsh]
    refine .here s ?_ hv
    unfold convert;rw[Aa (Bh hs),Aa (Bh hd)]
    simp only[Conv.unsafePointer]
    rw[Aa (Bh hs),Aa (Bh hd)]
    simp only
    rw[Aa (Acs hblk _)]
    have hcells:(cellsIn l.blk).run P w=.ok (some cs.size) w:=by
     unfold cellsIn;rw[Aa h1];rfl
    rw[Aa hcells,Aa ku.rsize]
    have:=hc.2.1
    rw[if_neg (by simp;omega)]
    rfl
end
end Go.Den
namespace Go.Den
open Go.RowKit
section
variable{T:Type}{P:Program}{w:World}{μ:Mu}{h:Hp T}
theorem A7n{ρ:Operand→Value}{o:Oper}{x:Operand}(ho:o.op=.nilCheck x){a:AV}(hx:VR μ a (ρ x)){r:AV×Hp T}(hr:Ag a h=some r):
 ∃v,(execOp ρ o).run P w=.ok (.value v) w∧VR μ r.1 v∧r.2=h:=by
 cases a<;>simp only[Ag] at hr<;>cases hr
 have hv:=hx
 obtain⟨l,hl,e⟩:=hx
 refine⟨_,?_,hv,rfl⟩
 unfold execOp
 rw[ho]
 simp only
 rw[e]
 rfl
theorem Av3{E:Env}(ok:Cg P E)(s:Sim μ h w){t:TypeId}{a:AV}{i:Nat}{r:AV×Hp T}(hr0:Sa E t a i h=some r){vx:Value}(hx:VR μ a vx):Fi P μ h w (Instr.field t vx i) r.1 r.2:=by
 cases a<;>simp only[Sa] at hr0<;>try cases hr0
 obtain⟨ti,hti,hr⟩:=Af hr0
 obtain⟨_,_,k⟩:=ok.ty _ _ hti
 have hu:=k.und
 cases hd:ti.desc<;>rw[hd] at hr hu<;>simp only at hr<;>try cases hr
 obtain⟨p,hp,hr⟩:=Af hr
 obtain⟨hr,h2⟩:=Io hr
 obtain⟨f,hf,rfl⟩:=Pe hp
 obtain⟨vs,rfl,hvs,ho⟩:=hx
 obtain⟨v,hv,hr⟩:=Yl (w:=w) ok hr hvs ho
 rw[h2]
 refine .here s ?_ hr
 unfold Instr.field
 rw[Aa (Bh hu)]
 simp only
 rw[←Array.getElem?_toList,hf]
 exact hv
theorem Avm{E:Env}(ok:Cg P E)(s:Sim μ h w){t:TypeId}{a y:AV}{r:AV×Hp T}(hr0:Mo E t a (Bp y) h=some r){vx vy:Value}(hx:VR μ a vx)(hy:VR μ y vy):Fi P μ h w (Instr.index t vx vy) r.1 r.2:=by
 obtain⟨i,hi,hr⟩:=Af hr0
 clear hr0
 obtain⟨k,rfl⟩:=Jp hi hy
 cases a<;>simp only at hr<;>try cases hr
 case str l c=>
  obtain⟨ti,hti,hr⟩:=Af hr
  obtain⟨_,_,k⟩:=ok.ty _ _ hti
  have hu:=k.und
  obtain⟨hd,hr⟩:=Av hr
  obtain⟨hb,hr⟩:=Av hr
  have hb:i+1≤l:=Bu hb
  have hd:ti.desc=.string:=by cases hdd:ti.desc<;>rw[hdd] at hd<;>simp only[isStr] at hd<;>first|rfl|cases hd
  cases hr
  rw[hd] at hu
  obtain⟨str,rfl,hstr⟩:=hx
  obtain⟨hget,hlt⟩:=hstr.get (show i<l from hb)
  refine .here s (v:=.int .u8 (Int.ofNat (Fw c i))) ?_ rfl
  unfold Instr.index
  simp only[asIntOf]
  rw[Aa run_pure]
  simp only
  rw[Aa (Bh hu)]
  simp only
  rw[if_pos (by omega),Int.toNat_natCast,hget]
  simp only
  have:(UInt8.ofNat (Fw c i)).toNat=Fw c i:=by simp;omega
  rw[this];rfl
 case agg cs=>
  obtain⟨p,hp,hr⟩:=Af hr
  obtain⟨hb,hr⟩:=Av hr
  have hb:i+1≤p.1:=Bu hb
  obtain⟨ei,he,hr⟩:=Af hr
  obtain⟨_,_,ek⟩:=ok.ty _ _ he
  obtain⟨hr,h2⟩:=Io hr
  obtain⟨vs,rfl,hvs,ho⟩:=hx
  obtain⟨v,hv,hr⟩:=Yl (w:=w) ok hr hvs ho
  rw[h2]
  refine .here s ?_ hr
  unfold Instr.index
  simp only[asIntOf]
  rw[Aa run_pure]
  simp only
  rw[Aa (Bh (Sk ok hp))]
  simp only
  rw[if_pos (by constructor<;>omega),Aa ek.rsize,Int.toNat_natCast]
  exact hv
theorem Ak6(s:Sim μ h w){a:AV}{i:Nat}{r:AV×Hp T}(hr:Nn a i h=some r){vx:Value}(hx:VR μ a vx):Fi P μ h w (Instr.extract vx i) r.1 r.2:=by
 cases a<;>simp only[Nn] at hr<;>try cases hr
 obtain⟨hr,h2⟩:=Io hr
 obtain⟨vs,rfl,hvs⟩:=hx
 rw[Eo] at hr
 obtain⟨v,hv,hr⟩:=hvs.get _ _ hr
 rw[h2]
 refine .here s ?_ hr
 unfold Instr.extract
 simp only
 rw[←Array.getElem?_toList,hv];rfl
theorem Ako{E:Env}(ok:Cg P E)(s:Sim μ h w){t:TypeId}{a:AV}{r:AV×Hp T}(hr:Nl E t a h=some r){vx:Value}(hx:VR μ a vx):Fi P μ h w (Instr.makeInterface t vx) r.1 r.2:=by
 obtain⟨ti,hti,hr⟩:=Af hr
 obtain⟨_,_,k⟩:=ok.ty _ _ hti
 obtain⟨hb,hr⟩:=Sg hr
 cases hr
 refine .here s (v:=.iface t vx) ?_ ⟨vx,rfl,hx⟩
 unfold Instr.makeInterface
 rw[Aa k.Ahs]
 cases hd:ti.desc<;>rw[hd] at hb<;>first|rfl|cases hb
theorem Sy(μ:Mu)(t:TypeId):Ms (T:=T) P μ (Instr.makeMap t none) (fun p=>.map p) (.map [] 0):=fun w=>
 ⟨.map (some w.heap.size),.map #[] 0,0,rfl,fun _ _=>⟨⟨#[],Gb _ _,rfl⟩,fun _ hp=>⟨_,hp,rfl⟩⟩⟩
theorem Akp(s:Sim μ h w)(t:TypeId):Fi P μ h w (Instr.makeMap t none) (.map h.next) (h.new (.map [] 0)):=(Sy μ t).Aja s
theorem Ats{E:Env}(ok:Cg P E)(s:Sim μ h w){t:TypeId}{a:AV}{r:AV×Hp T}(hr:Yy E t a h=some r){vx:Value}(hx:VR μ a vx):Fi P μ h w (Instr.range t vx) r.1 r.2:=by
 cases a<;>simp only[Yy] at hr<;>try cases hr
 case map b=>
  obtain⟨ti,hti,hr⟩:=Af hr
  obtain⟨_,_,k⟩:=ok.ty _ _ hti
  have hu:=k.und
  obtain⟨hd,hr⟩:=Av hr
  obtain⟨p,hp,hr⟩:=Af hr
  cases hr
  obtain⟨l,hl,rfl⟩:=hx
  have hat:h.at b=.map p.1 p.2:=by cases hat:h.at b<;>rw[hat] at hp<;>simp only[Kt] at hp<;>cases hp;rfl
  have hob:=s.ob b l (by rw[hat];simp) hl
  rw[hat] at hob
  obtain⟨xs,hblk,_⟩:=hob
  obtain⟨s1,x1⟩:=s.alloc (.Pz b p.2 [] p.2) (.mapIter (some l.blk) p.2 #[] p.2) 0 0 fun μ' hl'=>⟨l,hl' _ _ hl,Gb _ _,rfl⟩
  refine⟨.pointer (some ⟨w.heap.size,0,none⟩),_,_,?_,s1,x1,⟨_,Mu.Cq _ _ _,rfl⟩⟩
  unfold Instr.range
  rw[Aa (Bh hu)]
  cases hdd:ti.desc<;>rw[hdd] at hd<;>simp only[Avj] at hd<;>try cases hd
  simp only
  have hg:(getObj l.blk).run P w=.ok (.map xs p.2) w:=by simp[getObj,Sem.run,hblk]
  rw[Aa hg];rfl
 obtain⟨ti,hti,hr⟩:=Af hr
 obtain⟨_,_,k⟩:=ok.ty _ _ hti
 have hu:=k.und
 obtain⟨hd,hr⟩:=Av hr
 have hd:ti.desc=.string:=by cases hdd:ti.desc<;>rw[hdd] at hd<;>simp only[isStr] at hd<;>first|rfl|cases hd
 cases hr
 rw[hd] at hu
 obtain⟨str,rfl,hstr⟩:=hx
 obtain⟨s1,x1⟩:=s.alloc (.iter _ _ 0) (.stringIter str 0) 0 0 fun μ' hl=>⟨str,Gb _ _,hstr,rfl⟩
 refine⟨.pointer (some ⟨w.heap.size,0,none⟩),_,_,?_,s1,x1,⟨_,Mu.Cq _ _ _,rfl⟩⟩
 unfold Instr.range
 rw[Aa (Bh hu)]
 rfl
theorem Ase{E:Env}(ok:Cg P E)(s:Sim μ h w){xt a:TypeId}{x:AV}{b:Bool}{r:AV×Hp T}(hr:Vl E a x b h=some r){vx:Value}(hx:VR μ x vx):Fi P μ h w (Instr.typeAssert vx xt a b) r.1 r.2:=by
 cases x<;>simp only[Vl] at hr<;>try cases hr
 rename_i t v
 obtain⟨ti,hti,hr⟩:=Af hr
 obtain⟨_,_,k⟩:=ok.ty _ _ hti
 have hu:=k.und
 obtain⟨y,rfl,hy⟩:=hx
 have key:(Bool.rec none (some (Rx b v true,h)) (Nat.beq t a):Option (AV×Hp T))=some r→(∀ms,ti.desc≠.interface ms)→Fi P μ h w (Instr.typeAssert (.iface t y) xt a b) r.1 r.2:=fun hr hn=>by
  obtain⟨hb,hr2⟩:=Av hr
  cases hr2
  obtain rfl:=Bo hb
  have hv:VR μ (Rx b v true) (if b then .tuple #[y,.bool true] else y):=by
   cases b
   · exact hy
   · exact⟨_,rfl,_,_,rfl,hy,_,_,rfl,rfl,rfl⟩
  refine .here s ?_ hv
  unfold Instr.typeAssert
  rw[Aa (Bh hu)]
  cases hd:ti.desc<;>first|exact absurd hd (hn _)|(simp only[if_true];rfl)
 cases hd:ti.desc<;>rw[hd] at hr<;>first|(cases hr;done)|exact key hr (by rw[hd];intro ms e;cases e)
end
end Go.Den
