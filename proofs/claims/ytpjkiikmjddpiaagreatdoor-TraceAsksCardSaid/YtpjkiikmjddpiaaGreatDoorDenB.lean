/-
  A part of the proof: DenQ, DenQ2, DenQ3, DenQ4, DenW, DenX, DenX2, DenX3, DenX4, DenX5, DenX6.
-/
import Derived.Test.YtpjkiikmjddpiaaGreatDoorDenA
import Derived.Lib.ConvBytes
import Derived.Laws.BytesString
import Derived.Laws.Slices
/-
  '==' and the operators.
-/
namespace Go.Den
open Go.RowKit

theorem enc_inj:∀{a b:List UInt8},a.length=b.length→enc a=enc b→a=b
  |[],[],_,_=>rfl
  |[],_::_,h,_=>by simp at h
  |_::_,[],h,_=>by simp at h
  |x::a,y::b,hl,he=>by
    simp only[enc] at he
    have hx:=x.toNat_lt
    have hy:=y.toNat_lt
    have h1:x.toNat=y.toNat:=by omega
    have h2:enc a=enc b:=by omega
    rw[UInt8.toNat_inj.1 h1,enc_inj (by simpa using hl) h2]
theorem StrIs.eq{l c m d:Nat}{s t:ByteArray}(h:StrIs l c s)(k:StrIs m d t):(s.toList==t.toList)=(decide (l=m)&&decide (c=d)):=by
  obtain⟨rfl,rfl⟩:=h
  obtain⟨rfl,rfl⟩:=k
  rw[ByteArray.toList_eq,ByteArray.toList_eq]
  by_cases e:s.data.toList=t.data.toList
  · have hs:s.size=t.size:=by
      exact congrArg List.length e
    rw[e,hs];simp
  · have:¬(s.size=t.size∧enc s.data.toList=enc t.data.toList):=fun⟨h1,h2⟩=>e (enc_inj h1 h2)
    rw[show(s.data.toList==t.data.toList)=false from by simpa using e]
    rw[←Bool.decide_and,decide_eq_false this]
theorem ibeq_eq(a b:Int):ibeq a b=(a==b):=by
  cases a with
  |ofNat a=>cases b with
    |ofNat b=>
      show Nat.beq a b=_
      rw[natbeq,Bool.eq_iff_iff,decide_eq_true_iff,beq_iff_eq];exact⟨fun h=>by rw[h],fun h=>Int.ofNat.inj h⟩
    |negSucc b=>show false=_;symm;simp
  |negSucc a=>cases b with
    |ofNat b=>show false=_;symm;simp
    |negSucc b=>
      show Nat.beq a b=_
      rw[natbeq,Bool.eq_iff_iff];simp

section
variable{P:Program}{w:World}{μ:Mu}
theorem eqPl_ok{d:TypeDesc}{t:TypeId}{x y:AV}{vx vy:Value}{b:Bool}(hd:P.underlying t=some d)(hp:plainOk d x=true)(h:eqPl x y=some b)
    (hx:VR μ x vx) (hy:VR μ y vy) (n:Nat):(Op.equalIn (n+1) t vx vy).run P w=.ok b w:=by
  cases x with
  |bool a=>
    cases d<;>simp only[plainOk] at hp<;>try cases hp
    cases y<;>simp only[eqPl,eqBl] at h<;>try cases h
    cases hx;cases hy
    rw[run_equalIn_bool' w n t _ _ hd,beqB_eq]
  |int k a=>
    cases d<;>simp only[plainOk] at hp<;>try cases hp
    cases y<;>simp only[eqPl,eqInt] at h<;>try cases h
    cases hx;cases hy
    split at h
    · rename_i e;subst e;cases h
      rw[run_equalIn_int w n t _ _ _ _ hd,ibeq_eq]
    · cases h
  |str l c=>
    cases d<;>simp only[plainOk] at hp<;>try cases hp
    cases y<;>simp only[eqPl,eqStr] at h<;>try cases h
    obtain⟨s,rfl,hs⟩:=hx
    obtain⟨s',rfl,hs'⟩:=hy
    rw[run_equalIn_string w n t _ _ hd,hs.eq hs',band_eq,natbeq,natbeq]
  |_=>simp[plainOk] at hp

/-- a part of an aggregate -/
theorem part_ok{E:Env}(ok:EnvOk P E){t:TypeId}{cs:List AV}{off:Nat}{a:AV}(h:part E t cs off=some a){vs:Array Value}(hv:VRs μ cs vs.toList)(ho:cs.all AV.one=true):
    ∃v,(Go.part t vs off).run P w=.ok v w∧VR μ a v:=by
  obtain⟨i,hi,h⟩:=opt_inv h
  obtain⟨ti,z,k⟩:=ok.ty _ _ hi
  unfold Go.part
  rw[run_bind_ok k.ragg]
  cases ha:i.agg with
  |true=>
    rw[ha] at h
    have h:some (AV.agg (takeL i.size (dropL off cs)))=some a:=h
    cases h
    simp only[if_true]
    rw[run_bind_ok k.rsize,takeL_eq,dropL_eq]
    refine⟨_,rfl,vs.extract off (off+i.size),rfl,?_,?_⟩
    · simp only[Array.toList_extract,List.extract_eq_take_drop]
      rw[show off+i.size-off=i.size from by omega]
      exact(hv.drop off).take i.size
    · rw[List.all_eq_true] at ho ⊢
      intro x hx
      exact ho x (List.mem_of_mem_drop (List.mem_of_mem_take hx))
  |false=>
    rw[ha] at h
    have h:getL cs off=some a:=h
    rw[getL_eq] at h
    obtain⟨v,hv',hr⟩:=hv.get _ _ h
    simp only[Bool.false_eq_true,if_false]
    have:vs[off]? =some v:=by rw[←Array.getElem?_toList];exact hv'
    rw[this]
    exact⟨v,rfl,hr⟩
theorem eqFields_ok{E:Env}(ok:EnvOk P E){rec:TypeId→AV→AV→Option Bool}{d:Nat}
    (ih:∀(t:TypeId)(x y:AV)(b:Bool)(vx vy:Value),rec t x y=some b→VR μ x vx→VR μ y vy→(Op.equalIn d t vx vy).run P w=.ok b w)
    {xs ys:List AV} {vx vy:Array Value} (hx:VRs μ xs vx.toList) (hy:VRs μ ys vy.toList) (ox:xs.all AV.one=true) (oy:ys.all AV.one=true):
    ∀(fs:List Field)(b:Bool),noBlank fs=true→eqFields E rec xs ys fs=some b→(Op.eqFields d vx vy fs).run P w=.ok b w:=by
  intro fs
  induction fs with
  |nil=>intro b _ h;cases h;rfl
  |cons f fs IH=>
    intro b hn h
    simp only[noBlank,Bool.and_eq_true] at hn
    have hne : f.name ≠ "_" := by simpa using hn.1
    have h:(Option.rec none (fun a=>Option.rec none (fun b=>Option.rec none (fun t=>Bool.rec (some false) (eqFields E rec xs ys fs) t) (rec f.type a b)) (part E f.type ys f.offset)) (part E f.type xs f.offset):Option Bool)=some b:=h
    obtain⟨a,ha,h⟩:=opt_inv h
    obtain⟨a',ha',h⟩:=opt_inv h
    obtain⟨t,ht,h⟩:=opt_inv h
    obtain⟨va,ra,va'⟩:=part_ok (w:=w) ok ha hx ox
    obtain⟨vb,rb,vb'⟩:=part_ok (w:=w) ok ha' hy oy
    unfold Op.eqFields
    rw[if_pos hne,run_bind_ok ra,run_bind_ok rb,run_bind_ok (ih _ _ _ _ _ _ ht va' vb')]
    cases t with
    |false=>cases h;rfl
    |true=>exact IH b hn.2 h
theorem eqF_ok{E:Env}(ok:EnvOk P E):∀(n:Nat)(t:TypeId)(x y:AV)(b:Bool)(vx vy:Value),eqF E n t x y=some b→VR μ x vx→VR μ y vy→∀d,n≤d→(Op.equalIn d t vx vy).run P w=.ok b w:=by
  intro n
  induction n with
  |zero=>intro t x y b vx vy h;cases h
  |succ n ih=>
    intro t x y b vx vy h0 hx hy d hd
    obtain⟨d,rfl⟩:∃d',d=d'+1:=⟨d-1,by omega⟩
    obtain⟨i,hi,h⟩:=opt_inv (show(Option.rec none (fun ti=>eqTi E (eqF E n) ti x y) (E.ty t):Option Bool)=some b from h0)
    clear h0
    obtain⟨ti,z,k⟩:=ok.ty _ _ hi
    have plain:∀x,(Bool.rec none (eqPl x y) (plainOk i.desc x):Option Bool)=some b→VR μ x vx→(Op.equalIn (d+1) t vx vy).run P w=.ok b w:=fun x h hx=>by
      obtain⟨hp,h⟩:=bool_inv h
      exact eqPl_ok k.und hp h hx hy d
    cases x
    case agg xs=>
      clear plain
      have h:(Option.rec none (fun ys=>eqAgg E (eqF E n) i xs ys) (aggOf y):Option Bool)=some b:=h
      obtain⟨ys,hys,h⟩:=opt_inv h
      cases y<;>simp only[aggOf] at hys<;>cases hys
      obtain⟨vs,rfl,hvs,ox⟩:=hx
      obtain⟨us,rfl,hus,oy⟩:=hy
      unfold eqAgg at h
      obtain⟨hp,h⟩:=bool_inv h
      obtain⟨fs,hfs,h⟩:=opt_inv h
      obtain⟨hb,h⟩:=bool_inv h
      have hund:P.underlying t=some (.struct (P.fieldsOf t))∧(P.fieldsOf t).toList=fs:=by
        have:=k.und
        cases hd:i.desc<;>rw[hd] at hfs<;>simp only[structOf] at hfs<;>cases hfs
        rename_i fs'
        rw[hd] at this
        simp[Program.fieldsOf,this]
      rw[run_equalIn_struct w d t vs us hund.1 (k.plain hp).1,hund.2]
      exact eqFields_ok ok (fun t x y b vx vy h hx hy=>ih t x y b vx vy h hx hy d (by omega)) hvs hus ox oy fs b hb h
    all_goals (refine plain _ ?_ hx;exact h)
end
end Go.Den
/-
  The operators.
-/
namespace Go.Den
open Go.RowKit

theorem wrap_in(k:IntKind)(m:Nat)(h:m≤intMax k):k.wrap (Int.ofNat m)=Int.ofNat m:=by
  have e:Int.ofNat m=(m:Int):=rfl
  rw[e]
  cases k<;>simp[IntKind.wrap,IntKind.bits,IntKind.signed,intMax] at* <;>omega
theorem wrap_eq(k:IntKind)(n:Int):wrap k n=k.wrap n:=by
  cases n with
  |ofNat m=>
    show(Bool.rec (k.wrap (.ofNat m)) (.ofNat m) (Nat.ble m (intMax k)):Int)=_
    cases h:Nat.ble m (intMax k) with
    |false=>rfl
    |true=>exact(wrap_in k m (Nat.le_of_ble_eq_true h)).symm
  |negSucc m=>rfl
theorem iadd_eq(a b:Int):iadd a b=a+b:=by cases a<;>cases b<;>rfl
theorem isub_eq(a b:Int):isub a b=a-b:=by
  cases a with
  |negSucc a=>rfl
  |ofNat a=>cases b with
    |negSucc b=>rfl
    |ofNat b=>
      show(Bool.rec (.negSucc (Nat.sub (Nat.sub b a) 1)) (.ofNat (Nat.sub a b)) (Nat.ble b a):Int)=_
      have e1:Int.ofNat a=(a:Int):=rfl
      have e2:Int.ofNat b=(b:Int):=rfl
      cases h:Nat.ble b a with
      |true=>
        have:=Nat.le_of_ble_eq_true h
        show Int.ofNat (a-b)=_
        have e3:Int.ofNat (a-b)=((a-b:Nat):Int):=rfl
        omega
      |false=>
        have:¬b≤a:=fun h'=>by rw[Nat.ble_eq_true_of_le h'] at h;cases h
        show Int.negSucc (b-a-1)=_
        have e3:Int.negSucc (b-a-1)= -((b-a-1:Nat):Int)-1:=by rw[Int.negSucc_eq];omega
        omega
theorem iblt_eq(a b:Int):iblt a b=decide (a<b):=by
  cases a with
  |ofNat a=>cases b with
    |ofNat b=>
      show Nat.ble (a+1) b=_
      rw[natble,decide_eq_decide]
      have e1:Int.ofNat a=(a:Int):=rfl
      have e2:Int.ofNat b=(b:Int):=rfl
      omega
    |negSucc b=>symm;show decide _=false;simp;have e1:Int.ofNat a=(a:Int):=rfl;omega
  |negSucc a=>cases b with
    |ofNat b=>symm;show decide _=true;simp;have e1:Int.ofNat b=(b:Int):=rfl;omega
    |negSucc b=>
      show Nat.ble (b+1) a=_
      rw[natble,decide_eq_decide]
      omega
theorem ible_eq(a b:Int):ible a b=decide (a≤b):=by
  show(Bool.rec true false (iblt b a):Bool)=_
  rw[iblt_eq]
  by_cases h:b<a
  · rw[decide_eq_true h];symm;show decide _=false;simp;omega
  · rw[decide_eq_false h];symm;show decide _=true;simp;omega

/-! ### Strings -/
theorem enc_append:∀(a b:List UInt8),enc (a++b)=enc a+2^(8*a.length)*enc b
  |[],b=>by simp[enc]
  |x::a,b=>by
    simp only[List.cons_append,enc,enc_append a b,List.length_cons]
    rw[show 8*(a.length+1)=8*a.length+8 from by omega,Nat.pow_add]
    have:2^(8*a.length)*2^8*enc b=256*(2^(8*a.length)*enc b):=by
      rw[Nat.mul_comm (2^(8*a.length)) (2^8),Nat.mul_assoc]
    rw[this];omega
theorem enc_lt:∀(a:List UInt8),enc a<2^(8*a.length)
  |[]=>by simp[enc]
  |x::a=>by
    have:=enc_lt a
    have hx:=x.toNat_lt
    simp only[enc,List.length_cons]
    rw[show 8*(a.length+1)=8+8*a.length from by omega,Nat.pow_add]
    have:256*(enc a+1)≤256*2^(8*a.length):=Nat.mul_le_mul_left _ this
    omega
theorem strBytes_enc:∀(a:List UInt8),strBytes a.length (enc a)=a.map (·.toNat)
  |[]=>rfl
  |x::a=>by
    have hx:=x.toNat_lt
    show Nat.mod (enc (x::a)) 256::strBytes a.length (Nat.div (enc (x::a)) 256)=_
    have h1:Nat.mod (enc (x::a)) 256=x.toNat:=by show enc (x::a)%256=_;simp only[enc];omega
    have h2:Nat.div (enc (x::a)) 256=enc a:=by show enc (x::a) / 256=_;simp only[enc];omega
    rw[h1,h2,strBytes_enc a];rfl
theorem strLess_eq:∀(a b:List UInt8),strLess (a.map (·.toNat)) (b.map (·.toNat))=Op.bytesLess a b
  |[],[]=>rfl
  |[],_::_=>rfl
  |x::a,[]=>by simp only[Op.bytesLess];rfl
  |x::a,y::b=>by
    show(Bool.rec (Bool.rec false (strLess (a.map (·.toNat)) (b.map (·.toNat))) (Nat.beq x.toNat y.toNat)) true (Nat.ble (Nat.add x.toNat 1) y.toNat):Bool)=_
    rw[strLess_eq a b,natbeq,show Nat.add x.toNat 1=x.toNat+1 from rfl,natble]
    simp only[Op.bytesLess]
    by_cases h:x.toNat+1≤y.toNat
    · have hl:x<y:=UInt8.lt_iff_toNat_lt.2 (by omega)
      rw[decide_eq_true h];simp[hl]
    · have hl:¬x<y:=fun h'=>h (by have:=UInt8.lt_iff_toNat_lt.1 h';omega)
      rw[decide_eq_false h]
      by_cases he:x.toNat=y.toNat
      · rw[decide_eq_true he];simp[UInt8.toNat_inj.1 he]
      · have:¬x=y:=fun h'=>he (by rw[h'])
        rw[decide_eq_false he];simp[hl,this]
theorem StrIs.bytes{l c:Nat}{s:ByteArray}(h:StrIs l c s):strBytes l c=s.toList.map (·.toNat):=by
  obtain⟨rfl,rfl⟩:=h
  rw[ByteArray.toList_eq]
  exact strBytes_enc s.data.toList
theorem StrIs.append{l c m d:Nat}{s t:ByteArray}(h:StrIs l c s)(k:StrIs m d t):StrIs (Nat.add l m) (strCat l c d) (s++t):=by
  obtain⟨rfl,rfl⟩:=h
  obtain⟨rfl,rfl⟩:=k
  refine⟨by simp[ByteArray.size_append],?_⟩
  have:(s++t).data.toList=s.data.toList++t.data.toList:=by simp
  rw[this,enc_append]
  show enc s.data.toList+(enc t.data.toList <<< (8*s.size))=_
  rw[Nat.shiftLeft_eq,Nat.mul_comm (enc t.data.toList)]
  rfl
end Go.Den
/-
  The operators, of the interpreter and of the model.
-/
namespace Go.Den
open Go.RowKit

def isConst(o:Operand):Bool:=match o with
  |.const _=>true
  |_=>false
def isEq(op:BinOp):Bool:=match op with
  |.eql=>true
  |.neq=>true
  |_=>false
def isIfaceD(d:Option TypeDesc):Bool:=match d with
  |some (.interface _)=>true
  |_=>false
/-- '==' of interface values has a constant on a side -/
def okBin(P:Program)(op:BinOp)(t:TypeId)(x y:Operand):Bool:=!isEq op||isConst x||isConst y||!isIfaceD (P.underlying t)

theorem intMax_lt(k:IntKind):intMax k<2^k.bits:=by cases k<;>decide
theorem intMax_pow(k:IntKind):∃m,intMax k=2^m-1:=by
  cases k
  · exact⟨7,rfl⟩
  · exact⟨15,rfl⟩
  · exact⟨31,rfl⟩
  · exact⟨63,rfl⟩
  · exact⟨8,rfl⟩
  · exact⟨16,rfl⟩
  · exact⟨32,rfl⟩
  · exact⟨64,rfl⟩
theorem ofInt_toNat(n a:Nat)(h:a<2^n):(BitVec.ofInt n (Int.ofNat a)).toNat=a:=by
  show(BitVec.ofInt n ((a:Nat):Int)).toNat=a
  rw[BitVec.ofInt_natCast,BitVec.toNat_ofNat,Nat.mod_eq_of_lt h]
theorem bits_in(k:IntKind){a b c:Nat}(f:Nat→Nat→Nat)(hf:∀m,a<2^m→b<2^m→f a b<2^m)(ha:a≤intMax k)(hb:b≤intMax k)(hc:c=f a b):k.wrap (c:Int)=Int.ofNat (f a b):=by
  subst hc
  obtain⟨m,hm⟩:=intMax_pow k
  have hp:=Nat.two_pow_pos m
  have:=hf m (by omega) (by omega)
  exact wrap_in k _ (by omega)

section
variable{P:Program}{w:World}{μ:Mu}
theorem bitsA_ok{op:BinOp}{k:IntKind}{a b:Int}{r:AV}(h:bitsA op k a b=some r):∃v,(Op.intBits op k a b).run P w=.ok v w∧VR μ r v:=by
  cases a with
  |negSucc=>cases h
  |ofNat a=>
    cases b with
    |negSucc=>cases h
    |ofNat b=>
      obtain⟨hl,h⟩:=bool_inv (show(Bool.rec none (bits2 op k a b) (band (Nat.ble a (intMax k)) (Nat.ble b (intMax k))):Option AV)=some r from h)
      obtain⟨ha,hb⟩:=band_inv hl
      have ha:=ble_inv ha
      have hb:=ble_inv hb
      have hm:=intMax_lt k
      have ta:(BitVec.ofInt k.bits (Int.ofNat a)).toNat=a:=ofInt_toNat k.bits a (by omega)
      have tb:(BitVec.ofInt k.bits (Int.ofNat b)).toNat=b:=ofInt_toNat k.bits b (by omega)
      cases op<;>simp only[bits2] at h<;>cases h
      · refine⟨_,rfl,?_⟩
        show Value.int k _=Value.int k _
        rw[BitVec.toNat_and,ta,tb]
        refine congrArg (Value.int k) ?_
        exact bits_in k Nat.land (fun m h1 _=>Nat.lt_of_le_of_lt Nat.and_le_left h1) ha hb rfl
      · refine⟨_,rfl,?_⟩
        show Value.int k _=Value.int k _
        rw[BitVec.toNat_or,ta,tb]
        refine congrArg (Value.int k) ?_
        exact bits_in k Nat.lor (fun m h1 h2=>Nat.or_lt_two_pow h1 h2) ha hb rfl
      · refine⟨_,rfl,?_⟩
        show Value.int k _=Value.int k _
        rw[BitVec.toNat_xor,ta,tb]
        refine congrArg (Value.int k) ?_
        exact bits_in k Nat.xor (fun m h1 h2=>Nat.xor_lt_two_pow h1 h2) ha hb rfl
theorem binInt_ok{op:BinOp}{t:TypeId}{k j:IntKind}{a b:Int}{r:AV}(hk:sameKind op k j=true)(h:binInt op k a b=some r):∃v,(binOp op t (.int k a) (.int j b)).run P w=.ok v w∧VR μ r v:=by
  cases op
  case shl=>
    cases b with
    |negSucc=>cases h
    |ofNat b=>
      cases h
      refine⟨_,rfl,?_⟩
      rw[wrap_eq];rfl
  case shr=>
    cases b with
    |negSucc=>cases h
    |ofNat b=>cases h;exact⟨_,rfl,rfl⟩
  case andNot=>cases h
  all_goals
    obtain rfl:k=j:=by simpa[sameKind] using hk
    simp only[binOp,ne_eq,not_true_eq_false,if_false]
  case add=>cases h;refine⟨_,rfl,?_⟩;rw[wrap_eq,iadd_eq];rfl
  case sub=>cases h;refine⟨_,rfl,?_⟩;rw[wrap_eq,isub_eq];rfl
  case mul=>cases h;refine⟨_,rfl,?_⟩;rw[wrap_eq];rfl
  case quo=>
    obtain⟨h0,h⟩:=bool_inv' (show(Bool.rec (oint k (a.tdiv b)) none (ibeq b (.ofNat 0)):Option AV)=some r from h)
    rw[ibeq_eq] at h0
    have hb:¬b=0:=by simpa using h0
    cases h
    refine⟨.int k (k.wrap (a.tdiv b)),?_,by rw[wrap_eq];rfl⟩
    simp[Op.intDiv,hb]
  case rem=>
    obtain⟨h0,h⟩:=bool_inv' (show(Bool.rec (some (.int k (a.tmod b))) none (ibeq b (.ofNat 0)):Option AV)=some r from h)
    rw[ibeq_eq] at h0
    have hb:¬b=0:=by simpa using h0
    cases h
    refine⟨.int k (a.tmod b),?_,rfl⟩
    simp[Op.intDiv,hb]
  case and=>exact bitsA_ok h
  case or=>exact bitsA_ok h
  case xor=>exact bitsA_ok h
  case eql=>cases h;exact⟨_,rfl,by rw[ibeq_eq];rfl⟩
  case neq=>cases h;exact⟨_,rfl,by rw[bnot_eq,ibeq_eq];rfl⟩
  case lss=>cases h;exact⟨_,rfl,by rw[iblt_eq];rfl⟩
  case leq=>cases h;exact⟨_,rfl,by rw[ible_eq];rfl⟩
  case gtr=>cases h;exact⟨_,rfl,by rw[iblt_eq];rfl⟩
  case geq=>cases h;exact⟨_,rfl,by rw[ible_eq];rfl⟩
theorem binStr_ok{op:BinOp}{t:TypeId}{l c m d:Nat}{s u:ByteArray}{r:AV}(hs:StrIs l c s)(hu:StrIs m d u)(h:binStr op l c m d=some r):
    ∃v,(binOp op t (.string s) (.string u)).run P w=.ok v w∧VR μ r v:=by
  have heq:strEq l c m d=(s.toList==u.toList):=by rw[hs.eq hu];simp only[strEq,band_eq,natbeq]
  have hlt:strLess (strBytes l c) (strBytes m d)=Op.bytesLess s.toList u.toList:=by rw[hs.bytes,hu.bytes,strLess_eq]
  cases op<;>simp only[binStr] at h<;>try cases h
  case add=>
    obtain⟨hb,h⟩:=bool_inv h
    cases h
    have hb:=ble_inv hb
    have h1:=hs.1
    have h2:=hu.1
    refine⟨.string (s++u),?_,_,rfl,hs.append hu⟩
    have hb:s.size+u.size≤9223372036854775807:=by rw[←h1,←h2];exact hb
    show(Op.stringOp .add s u).run P w=_
    exact run_string_add_sum w s u hb
  case eql=>exact⟨_,rfl,by rw[heq];rfl⟩
  case neq=>exact⟨_,rfl,by rw[heq,bnot_eq];rfl⟩
  case lss=>exact⟨_,rfl,by rw[hlt];rfl⟩
  case geq=>exact⟨_,rfl,by rw[hlt,bnot_eq];rfl⟩
end
end Go.Den
/-
  '==' of all, and the operators together.
-/
namespace Go.Den
open Go.RowKit

section
variable{P:Program}{w:World}{μ:Mu}
theorem eqT_ok{E:Env}(ok:EnvOk P E){d:TypeDesc}{t:TypeId}{x y:AV}{vx vy:Value}{b:Bool}(hd:P.underlying t=some d)(h:eqT E d x y=some b)
    (hx:VR μ x vx) (hy:VR μ y vy) (n:Nat):(Op.equalIn (n+1) t vx vy).run P w=.ok b w:=by
  cases d<;>simp only[eqT] at h<;>try cases h
  case pointer e=>
    cases x<;>simp only at h<;>try cases h
    case nilp=>
      cases hx
      cases y<;>simp only[isNilp] at h<;>cases h
      · cases hy;simp[Op.equalIn,run_underlying hd]
      · obtain⟨l,_,rfl⟩:=hy;simp[Op.equalIn,run_underlying hd]
    case ptr a i=>
      obtain⟨l,hl,rfl⟩:=hx
      cases y<;>simp only[eqPtr] at h<;>try cases h
      case nilp=>cases hy;simp[Op.equalIn,run_underlying hd]
      case ptr b' j=>
        obtain⟨l',hl',rfl⟩:=hy
        obtain⟨hb,h⟩:=bool_inv h
        obtain⟨ei,he,h⟩:=opt_inv h
        obtain⟨h1,h⟩:=bool_inv h
        cases h
        have:=Go.Den.P.beq_eq hb
        subst this
        rw[hl] at hl';cases hl'
        obtain⟨ti,z,k⟩:=ok.ty _ _ he
        have hs:(sizeOf e).run P w=.ok ei.size w:=k.rsize
        have h1:=ble_inv h1
        simp only[Op.equalIn,Sem.run_bind,run_underlying hd,Result.andThen_ok,hs]
        rw[if_pos (by omega)]
        simp only[sameAddr,beq_self_eq_true,if_true]
        show Result.ok _ w=_
        rw[natbeq]
        congr 1
        rw[Bool.eq_iff_iff];simp
  case interface ms=>
    cases x<;>simp only at h<;>try cases h
    case nili=>
      cases hx
      cases y<;>simp only[isNili] at h<;>cases h
      · obtain⟨v,rfl,_⟩:=hy;simp[Op.equalIn,run_underlying hd]
      · cases hy;simp[Op.equalIn,run_underlying hd]
    case iface u v=>
      obtain⟨v,rfl,_⟩:=hx
      cases y<;>simp only at h<;>try cases h
      cases hy;simp[Op.equalIn,run_underlying hd]
  case slice e=>
    cases x<;>simp only at h<;>try cases h
    case nils=>
      cases hx
      cases y<;>simp only[isNils] at h<;>cases h
      · cases hy;simp[Op.equalIn,run_underlying hd]
      · obtain⟨a,cap,rfl,_⟩:=hy;simp[Op.equalIn,run_underlying hd]
    case slice=>
      obtain⟨a,cap,rfl,_⟩:=hx
      cases y<;>simp only at h<;>try cases h
      cases hy;simp[Op.equalIn,run_underlying hd]
  case map e=>
    cases x<;>simp only at h<;>try cases h
    case nilm=>
      cases hx
      cases y<;>simp only[isNilm] at h<;>cases h
      · cases hy;simp[Op.equalIn,run_underlying hd]
      · obtain⟨l,_,rfl⟩:=hy;simp[Op.equalIn,run_underlying hd]
    case map=>
      obtain⟨l,_,rfl⟩:=hx
      cases y<;>simp only at h<;>try cases h
      cases hy;simp[Op.equalIn,run_underlying hd]
  case func=>
    cases x<;>simp only at h<;>try cases h
    case nilf=>
      cases hx
      cases y<;>simp only[isNilf] at h<;>cases h
      · obtain⟨_,_,_,rfl,_⟩:=hy;simp[Op.equalIn,run_underlying hd]
      · cases hy;simp[Op.equalIn,run_underlying hd]
    case func=>
      obtain⟨_,_,_,rfl,_⟩:=hx
      cases y<;>simp only at h<;>try cases h
      cases hy;simp[Op.equalIn,run_underlying hd]
theorem eqA_ok{E:Env}(ok:EnvOk P E){t:TypeId}{x y:AV}{vx vy:Value}{b:Bool}(h:eqA E t x y=some b)(hx:VR μ x vx)(hy:VR μ y vy):(Op.equal t vx vy).run P w=.ok b w:=by
  have other:∀x,(Option.rec none (fun ti=>eqT E ti.desc x y) (E.ty t):Option Bool)=some b→VR μ x vx→(Op.equal t vx vy).run P w=.ok b w:=fun x h hx=>by
    obtain⟨i,hi,h⟩:=opt_inv h
    obtain⟨ti,z,k⟩:=ok.ty _ _ hi
    exact eqT_ok ok k.und h hx hy 9999
  cases x
  case bool=>exact eqF_ok ok 5 _ _ _ _ _ _ h hx hy 10000 (by decide)
  case agg=>exact eqF_ok ok 5 _ _ _ _ _ _ h hx hy 10000 (by decide)
  all_goals (refine other _ ?_ hx;exact h)

theorem eqA_top{E:Env}{t:TypeId}{y:AV}{b:Bool}(h:eqA E t .top y=some b):False:=by
  obtain⟨i,_,h⟩:=opt_inv (show(Option.rec none (fun ti=>eqT E ti.desc .top y) (E.ty t):Option Bool)=some b from h)
  cases hd:i.desc<;>rw[hd] at h<;>simp only[eqT] at h<;>cases h

def noNum(v:Value):Prop:=match v with
  |.int _ _=>False
  |.float _ _=>False
  |.complex _ _ _=>False
  |.string _=>False
  |_=>True
theorem binOp_eql{t:TypeId}{x y:Value}(h:noNum x):binOp .eql t x y=(do pure (.bool (←Op.equal t x y))):=by
  cases x<;>first|exact h.elim|(cases y<;>rfl)
theorem binOp_neq{t:TypeId}{x y:Value}(h:noNum x):binOp .neq t x y=(do pure (.bool (!(←Op.equal t x y)))):=by
  cases x<;>first|exact h.elim|(cases y<;>rfl)
theorem guard_ok{E:Env}(ok:EnvOk P E){op:BinOp}{t:TypeId}{ox oy:Operand}{x y:AV}{vx vy:Value}{b:Bool}(hc:okBin P op t ox oy=true)(hop:isEq op=true)(h:eqA E t x y=some b)(hx:VR μ x vx)(hy:VR μ y vy):
    (eqGuard op t ox oy vx vy).run P w=.ok () w:=by
  cases x
  case nili=>
    cases hx
    obtain⟨i,hi,h⟩:=opt_inv (show(Option.rec none (fun ti=>eqT E ti.desc .nili y) (E.ty t):Option Bool)=some b from h)
    obtain⟨ti,z,k⟩:=ok.ty _ _ hi
    cases hd:i.desc<;>rw[hd] at h<;>simp only[eqT] at h<;>try cases h
    cases y<;>simp only[isNili] at h<;>cases h
    · obtain⟨v,rfl,_⟩:=hy;rw[eqGuard_nil_iface];rfl
    · cases hy
      have hu:=k.und
      rw[hd] at hu
      simp only[okBin,hop,hu,isIfaceD] at hc
      cases ox with
      |const c=>rw[eqGuard_nil_constL];rfl
      |_=>
        cases oy with
        |const c=>rw[eqGuard_nil_constR];rfl
        |_=>simp[isConst] at hc
  case agg xs=>
    obtain⟨vs,rfl,_⟩:=hx
    obtain⟨i,hi,h⟩:=opt_inv (show(Option.rec none (fun ti=>eqTi E (eqF E 4) ti (.agg xs) y) (E.ty t):Option Bool)=some b from h)
    obtain⟨ti,z,k⟩:=ok.ty _ _ hi
    obtain⟨ys,hys,h2⟩:=opt_inv (show(Option.rec none (fun ys=>eqAgg E (eqF E 4) i xs ys) (aggOf y):Option Bool)=some b from h)
    clear h
    cases y<;>simp only[aggOf] at hys<;>cases hys
    obtain⟨us,rfl,_⟩:=hy
    unfold eqAgg at h2
    obtain⟨hp,_⟩:=bool_inv h2
    exact run_eqGuard_agg w op t ox oy vs us (k.plain hp).2
  case bool=>cases hx;rw[eqGuard_at_bool];rfl
  case int=>cases hx;rw[eqGuard_at_int];rfl
  case str=>obtain⟨_,rfl,_⟩:=hx;rw[eqGuard_at_string];rfl
  case nilp=>cases hx;rw[eqGuard_at_pointer];rfl
  case ptr=>obtain⟨_,_,rfl⟩:=hx;rw[eqGuard_at_pointer];rfl
  case nils=>cases hx;rw[eqGuard_at_slice];rfl
  case slice=>obtain⟨_,_,rfl,_⟩:=hx;rw[eqGuard_at_slice];rfl
  case nilm=>cases hx;rw[eqGuard_at_map];rfl
  case map=>obtain⟨_,_,rfl⟩:=hx;rw[eqGuard_at_map];rfl
  case nilf=>cases hx;rw[eqGuard_at_nilFunc];rfl
  case func=>obtain⟨_,_,_,rfl,_⟩:=hx;rw[eqGuard_at_func];rfl
  case iface=>obtain⟨_,rfl,_⟩:=hx;rw[eqGuard_at_iface];rfl
  case tuple=>obtain⟨_,rfl,_⟩:=hx;rw[eqGuard_at_tuple];rfl
  case top=>exact(eqA_top h).elim
theorem binA_ok{E:Env}(ok:EnvOk P E){op:BinOp}{t:TypeId}{ox oy:Operand}{x y:AV}{vx vy:Value}{r:AV}(hc:okBin P op t ox oy=true)(h:binA E op t x y=some r)(hx:VR μ x vx)(hy:VR μ y vy):
    ∃v,(do eqGuard op t ox oy vx vy;binOp op t vx vy:Sem Value).run P w=.ok v w∧VR μ r v:=by
  have other:∀x,binOther E op t x y=some r→VR μ x vx→noNum vx→∃v,(do eqGuard op t ox oy vx vy;binOp op t vx vy:Sem Value).run P w=.ok v w∧VR μ r v:=fun x h hx hn=>by
    cases op<;>simp only[binOther] at h<;>try cases h
    case eql=>
      obtain⟨b,hb,h⟩:=opt_inv h
      cases h
      refine⟨_,?_,rfl⟩
      rw[run_bind_ok (guard_ok ok hc rfl hb hx hy),binOp_eql hn,run_bind_ok (eqA_ok ok hb hx hy)];rfl
    case neq=>
      obtain⟨b,hb,h⟩:=opt_inv h
      cases h
      refine⟨_,?_,by rw[bnot_eq];rfl⟩
      rw[run_bind_ok (guard_ok ok hc rfl hb hx hy),binOp_neq hn,run_bind_ok (eqA_ok ok hb hx hy)];rfl
  cases x
  case int k a=>
    cases hx
    have h:binIntV op k a y=some r:=h
    cases y<;>simp only[binIntV] at h<;>try cases h
    cases hy
    obtain⟨hk,h⟩:=bool_inv h
    obtain⟨v,hv,hr⟩:=binInt_ok (t:=t) hk h
    refine⟨v,?_,hr⟩
    rw[eqGuard_at_int];exact hv
  case str l c=>
    obtain⟨s,rfl,hs⟩:=hx
    have h:binStrV op l c y=some r:=h
    cases y<;>simp only[binStrV] at h<;>try cases h
    obtain⟨u,rfl,hu⟩:=hy
    obtain⟨v,hv,hr⟩:=binStr_ok (t:=t) hs hu h
    refine⟨v,?_,hr⟩
    rw[eqGuard_at_string];exact hv
  case bool=>refine other _ h hx ?_;cases hx;trivial
  case nilp=>refine other _ h hx ?_;cases hx;trivial
  case nils=>refine other _ h hx ?_;cases hx;trivial
  case nilm=>refine other _ h hx ?_;cases hx;trivial
  case nilf=>refine other _ h hx ?_;cases hx;trivial
  case nili=>refine other _ h hx ?_;cases hx;trivial
  case ptr=>refine other _ h hx ?_;obtain⟨_,_,rfl⟩:=hx;trivial
  case slice=>refine other _ h hx ?_;obtain⟨_,_,rfl,_⟩:=hx;trivial
  case map=>refine other _ h hx ?_;obtain⟨_,_,rfl⟩:=hx;trivial
  case func=>refine other _ h hx ?_;obtain⟨_,_,_,rfl,_⟩:=hx;trivial
  case iface=>refine other _ h hx ?_;obtain⟨_,rfl,_⟩:=hx;trivial
  case agg=>refine other _ h hx ?_;obtain⟨_,rfl,_⟩:=hx;trivial
  case tuple=>refine other _ h hx ?_;obtain⟨_,rfl,_⟩:=hx;trivial
  case top=>
    have h:binOther E op t .top y=some r:=h
    cases op<;>simp only[binOther] at h<;>try cases h
    case eql=>obtain⟨b,hb,_⟩:=opt_inv h;exact(eqA_top hb).elim
    case neq=>obtain⟨b,hb,_⟩:=opt_inv h;exact(eqA_top hb).elim
theorem okBin_of{E:Env}(ok:EnvOk P E){op:BinOp}{t:TypeId}{ox oy:Operand}(h:askN E op t ox oy=false):okBin P op t ox oy=true:=by
  unfold askN at h
  have e1:isAsk op=isEq op:=by cases op<;>rfl
  have e2:∀x,isCon x=isConst x:=fun x=>by cases x<;>rfl
  rw[e1,e2,e2,band_eq,band_eq,band_eq,bnot_eq,bnot_eq] at h
  unfold okBin
  cases hop:isEq op
  · rfl
  cases hx:isConst ox
  · cases hy:isConst oy
    · rw[hop,hx,hy] at h
      have h:(Option.rec true (fun ti=>isIfc ti.desc) (E.ty t):Bool)=false:=h
      cases hi:E.ty t with
      |none=>rw[hi] at h;cases h
      |some i=>
        rw[hi] at h
        have h:isIfc i.desc=false:=h
        obtain⟨ti,z,k⟩:=ok.ty _ _ hi
        have hu:=k.und
        rw[hu]
        show(false||false||false||!isIfaceD (some i.desc))=true
        cases hd:i.desc<;>first|rfl|(rw[hd] at h;cases h)
    · simp
  · simp
theorem eqIf_ok'{t:TypeId}{ms:Array (String×TypeId)}(ht:P.underlying t=some (.interface ms)){op:BinOp}{ox oy:Operand}{x y:AV}{vx vy:Value}{b:Bool}(h:eqIf x y=some b)(hx:VR μ x vx)(hy:VR μ y vy)(n:Nat):
    (eqGuard op t ox oy vx vy).run P w=.ok () w∧(Op.equalIn (n+1) t vx vy).run P w=.ok b w∧noNum vx:=by
  cases x<;>simp only[eqIf] at h<;>try cases h
  case nili=>
    cases hx
    cases y<;>simp only at h<;>cases h
    obtain⟨v,rfl,_⟩:=hy
    refine⟨by rw[eqGuard_nil_iface];rfl,?_,trivial⟩
    simp[Op.equalIn,run_underlying ht]
  case iface tx a=>
    obtain⟨v,rfl,_⟩:=hx
    refine⟨by rw[eqGuard_at_iface];rfl,?_,trivial⟩
    cases y<;>simp only at h<;>try cases h
    case nili=>
      cases hy
      simp[Op.equalIn,run_underlying ht]
    case iface ty c=>
      obtain⟨u,rfl,_⟩:=hy
      have hne:tx≠ty:=fun e=>by
        subst e
        rw[Nat.beq_refl] at h;cases h
      have hb:Nat.beq tx ty=false:=by rw[natbeq];exact decide_eq_false hne
      rw[hb] at h
      cases h
      simp[Op.equalIn,run_underlying ht,hne]
theorem eqIf_ok{t:TypeId}{ms:Array (String×TypeId)}(ht:P.underlying t=some (.interface ms)){op:BinOp}{ox oy:Operand}{x y:AV}{vx vy:Value}{b:Bool}(h:eqIf x y=some b)(hx:VR μ x vx)(hy:VR μ y vy):
    (eqGuard op t ox oy vx vy).run P w=.ok () w∧(Op.equal t vx vy).run P w=.ok b w∧noNum vx:=eqIf_ok' ht h hx hy 9999
theorem binG_ok{E:Env}(ok:EnvOk P E){op:BinOp}{t:TypeId}{ox oy:Operand}{x y:AV}{vx vy:Value}{r:AV}(h:binG E op t ox oy x y=some r)(hx:VR μ x vx)(hy:VR μ y vy):
    ∃v,(do eqGuard op t ox oy vx vy;binOp op t vx vy:Sem Value).run P w=.ok v w∧VR μ r v:=by
  unfold binG at h
  cases ha:askN E op t ox oy with
  |false=>rw[ha] at h;exact binA_ok ok (okBin_of ok ha) h hx hy
  |true=>
    rw[ha] at h
    have h:binN E op t x y=some r:=h
    unfold binN at h
    obtain⟨i,hi,h⟩:=opt_inv h
    obtain⟨hd,h⟩:=bool_inv h
    obtain⟨ti,z,k⟩:=ok.ty _ _ hi
    have hu:=k.und
    obtain⟨ms,hms⟩:∃ms,i.desc=.interface ms:=by cases hdd:i.desc<;>rw[hdd] at hd<;>first|exact⟨_,rfl⟩|cases hd
    rw[hms] at hu
    cases op<;>simp only at h<;>try cases h
    case eql=>
      obtain⟨b,hb,h⟩:=opt_inv h
      cases h
      obtain⟨g1,g2,g3⟩:=eqIf_ok (w:=w) (op:=.eql) (ox:=ox) (oy:=oy) hu hb hx hy
      refine⟨_,?_,rfl⟩
      rw[run_bind_ok g1,binOp_eql g3,run_bind_ok g2];rfl
    case neq=>
      obtain⟨b,hb,h⟩:=opt_inv h
      cases h
      obtain⟨g1,g2,g3⟩:=eqIf_ok (w:=w) (op:=.neq) (ox:=ox) (oy:=oy) hu hb hx hy
      refine⟨_,?_,by rw[bnot_eq];rfl⟩
      rw[run_bind_ok g1,binOp_neq g3,run_bind_ok g2];rfl
theorem unA_ok{op:UnOp}{x:AV}{vx:Value}{r:AV}(h:unA op x=some r)(hx:VR μ x vx):∃v,(Op.unary op vx).run P w=.ok v w∧VR μ r v:=by
  cases op<;>cases x<;>simp only[unA] at h<;>cases h<;>cases hx
  · exact⟨_,rfl,rfl⟩
  · exact⟨_,rfl,rfl⟩
  · exact⟨_,rfl,rfl⟩
end
end Go.Den
/-
  Operations upon memory.
-/
namespace Go.Den
open Go.RowKit

section
variable{T:Type}{P:Program}{w:World}{μ:Mu}{h:Hp T}
theorem alloc_new(w:World)(o:Obj):(w.alloc o).heap[w.heap.size]? =some o:=by
  simp[World.alloc,-World.alloc_eq]
/-- a new row -/
theorem Sim.newRow(s:Sim μ h w)(e:TypeId)(t:Tm)(n:Nat)(whole:Bool)(vs:Array Value)(hc:∀μ',Mu.le μ μ'→CellsR μ' (tget t) n ⟨w.heap.size,0,vs.size⟩ vs)(hw:whole=true→n=vs.size):
    ∃μ',Sim μ' (h.new (.row t n 0 e whole)) (w.alloc (.cells vs e))∧Ext' μ h w μ' (h.new (.row t n 0 e whole)) (w.alloc (.cells vs e))∧μ' h.next=some ⟨w.heap.size,0,vs.size⟩:=by
  obtain⟨h1,h2⟩:=s.alloc (.row t n 0 e whole) (.cells vs e) vs.size 0 fun μ' hl=>
    ⟨vs,(0,0),by rw[alloc_new],hc μ' hl,fun e=>⟨rfl,hw e⟩,fun _ i _ _=>by simp⟩
  exact⟨_,h1,h2,Mu.set_same _ _ _⟩
theorem Sim.newRowOf(s:Sim μ h w)(e:TypeId){as:List AV}{vs:Array Value}(hv:VRs μ as vs.toList)(ho:as.all AV.one=true):
    ∃μ',Sim μ' (h.newRow e as) (w.alloc (.cells vs e))∧Ext' μ h w μ' (h.newRow e as) (w.alloc (.cells vs e))∧μ' h.next=some ⟨w.heap.size,0,vs.size⟩:=by
  have hl:=hv.length
  have:=s.newRow e (tlist as 0 .e) (len as) true vs (fun μ' hle=>by
    have:=CellsR.new (hv.mono hle) ho w.heap.size
    rw[len_eq]
    simpa using this) (fun _=>by rw[len_eq];simpa using hl.symm)
  exact this
/-- a step that lays one block: what it answers, by the block's name, and what the block is -/
def Fresh(P:Program)(μ:Mu)(sem:Sem Value)(u:Go.Den.P→AV)(ob:Ob T):Prop:=
  ∀w,∃v obj sz,sem.run P w=.ok v (w.alloc obj)∧∀μ',Mu.le μ μ'→ObR μ' (w.alloc obj) ⟨w.heap.size,0,sz⟩ ob∧∀p,μ' p=some ⟨w.heap.size,0,sz⟩→VR μ' (u p) v
theorem Fresh.does{sem:Sem Value}{u:Go.Den.P→AV}{ob:Ob T}(f:Fresh P μ sem u ob)(s:Sim μ h w):Does P μ h w sem (u h.next) (h.new ob):=by
  obtain⟨v,obj,sz,hr,hh⟩:=f w
  obtain⟨s1,x1⟩:=s.alloc ob obj sz 0 fun μ' hle=>(hh μ' hle).1
  exact⟨v,_,_,hr,s1,x1,(hh _ x1.le).2 _ (Mu.set_same _ _ _)⟩
theorem Fresh.row{sem:Sem Value}{u:Go.Den.P→AV}{e:TypeId}{t:Tm}{n:Nat}{whole:Bool}{vs:Array Value}(hc:∀g μ',Mu.le μ μ'→CellsR μ' (tget t) n ⟨g,0,vs.size⟩ vs)(hw:whole=true→n=vs.size)(v:Nat→Value)
    (hv:∀g μ' p,μ' p=some ⟨g,0,vs.size⟩→VR μ' (u p) (v g)) (hr:∀w,sem.run P w=.ok (v w.heap.size) (w.alloc (.cells vs e))):Fresh (T:=T) P μ sem u (.row t n 0 e whole):=fun w=>
  ⟨_,_,vs.size,hr w,fun μ' hle=>⟨⟨vs,(0,0),by rw[alloc_new],hc _ μ' hle,fun e=>⟨rfl,hw e⟩,fun _ i _ _=>by simp⟩,fun p hp=>hv _ _ _ hp⟩⟩
theorem run_newRow(e:TypeId)(vs:Array Value):(newRow e vs).run P w=.ok ⟨w.heap.size,0,none⟩ (w.alloc (.cells vs e)):=rfl

theorem exAlloc_fresh{E:Env}(ok:EnvOk P E){e:TypeId}{i:TI}(hi:E.ty e=some i)(μ:Mu):Fresh (T:=T) P μ (Instr.alloc e true (.tuple #[])) (fun p=>.ptr p 0) (rowOf e i.zero):=by
  obtain⟨ti,z,k⟩:=ok.ty _ _ hi
  refine Fresh.row (vs:=z.cells) (fun g μ' hle=>?_) (fun _=>?_) (fun g=>.pointer (some ⟨g,0,none⟩)) (fun g μ' p hp=>⟨_,hp,rfl⟩) fun w=>?_
  · have:=CellsR.new ((k.cells μ).mono hle) k.ones g
    rw[len_eq]
    simpa using this
  · rw[len_eq];simpa using(k.cells μ).length.symm
  · unfold Instr.alloc
    rw[run_bind_ok k.rzero]
    rfl
theorem exAlloc_ok{E:Env}(ok:EnvOk P E)(s:Sim μ h w){e:TypeId}{r:AV×Hp T}(hr:exAlloc e (E.ty e) h=some r):Does P μ h w (Instr.alloc e true (.tuple #[])) r.1 r.2:=by
  obtain⟨i,hi,hr⟩:=opt_inv hr
  cases hr
  exact(exAlloc_fresh ok hi μ).does s
theorem box_ok(s:Sim μ h w)(e:TypeId){a:AV}{v:Value}(hv:VR μ a v)(hn:Nat.ble 1 (len a.cells)=true):Does P μ h w (Instr.box e v) (.ptr h.next 0) (h.new (rowOf e a.cells)):=by
  have hn:=ble_inv hn
  rw[len_eq] at hn
  have hne:a.cells≠[]:=fun e=>by rw[e] at hn;simp at hn
  obtain⟨hc,ho⟩:=hv.cells hne
  obtain⟨μ',s',x',hm⟩:=s.newRowOf e hc ho
  refine⟨.pointer (some ⟨w.heap.size,0,none⟩),_,μ',rfl,s',x',?_⟩
  exact⟨_,hm,rfl⟩
theorem box_fresh(e:TypeId){a:AV}{v:Value}(hv:VR μ a v)(hn:Nat.ble 1 (len a.cells)=true):Fresh (T:=T) P μ (Instr.box e v) (fun p=>.ptr p 0) (rowOf e a.cells):=by
  have hn:=ble_inv hn
  rw[len_eq] at hn
  have hne:a.cells≠[]:=fun e=>by rw[e] at hn;simp at hn
  obtain⟨hc,ho⟩:=hv.cells hne
  refine Fresh.row (vs:=v.cells) (fun g μ' hle=>?_) (fun _=>?_) (fun g=>.pointer (some ⟨g,0,none⟩)) (fun g μ' p hp=>⟨_,hp,rfl⟩) fun w=>rfl
  · have:=CellsR.new (hc.mono hle) ho g
    rw[len_eq]
    simpa using this
  · rw[len_eq];simpa using hc.length.symm

/-! ### Loads and stores -/
theorem run_sure{v:Value}{b:Nat}{o:Nat}(h:v=.pointer (some ⟨b,o,none⟩)):(Instr.sureAddr v).run P w=.ok ⟨b,o,none⟩ w:=by subst h;rfl
variable{α:Type}{good:α→Prop}
theorem ldCell_ok{C:Cx α}{h:Hp C.I.T}(ok:EnvOk P C.E)(hbad:¬good C.bad)(s:Sim μ h w){k:K α C.I.T}{b:Go.Den.P}{off:Nat}{t:TypeId}{i:TI}(hi:C.E.ty t=some i)(hg:good (ldCell C h k b off i)){v:Value}(hv:VR μ (.ptr b off) v):
    ∃a u,(Instr.loadAt t v).run P w=.ok u w∧VR μ a u∧good (k a h):=by
  obtain⟨ti,z,ty⟩:=ok.ty _ _ hi
  obtain⟨l,hl,rfl⟩:=hv
  unfold Instr.loadAt
  unfold ldCell at hg
  cases ha:i.agg with
  |true=>
    rw[ha] at hg
    have hg:good (h.readK b off i.size C.bad (fun l=>k (.agg l) h)):=hg
    obtain⟨l',cs,e,fz,as,hl',hb,_,hle,hv,ho,hlen,hg⟩:=s.read hbad hl hg
    rw[hl] at hl';cases hl'
    have hag:VR μ (.agg as) (.agg (cs.extract (l.off+off) (l.off+off+i.size))):=⟨_,rfl,hv,ho⟩
    refine⟨_,_,?_,hag,hg⟩
    rw[run_bind_ok (run_sure rfl)]
    unfold loadVar
    rw[run_bind_ok ty.ragg,ha]
    simp only[if_true]
    rw[run_bind_ok ty.rsize,run_bind_ok (run_loadCells hb _ hle)]
    rfl
  |false=>
    rw[ha] at hg
    have hg:good (h.read1K b off C.bad (fun v=>k v h)):=hg
    obtain⟨l',v,a,hl',hc,hv,ho,hg⟩:=s.read1 hbad hl hg
    rw[hl] at hl';cases hl'
    refine⟨a,v,?_,hv,hg⟩
    rw[run_bind_ok (run_sure rfl)]
    unfold loadVar
    rw[run_bind_ok ty.ragg,ha]
    simp only[Bool.false_eq_true,if_false]
    exact run_load_cell hc
theorem stCell_ok{C:Cx α}{h:Hp C.I.T}(ok:EnvOk P C.E)(hbad:¬good C.bad)(s:Sim μ h w){k:K α C.I.T}{b:Go.Den.P}{off:Nat}{t:TypeId}{i:TI}(hi:C.E.ty t=some i){a:AV}(hg:good (stCell C h k b off a i)){v x:Value}(hv:VR μ (.ptr b off) v)(hx:VR μ a x):
    ∃w' h',(Instr.storeAt t v x).run P w=.ok () w'∧Sim μ h' w'∧Ext' μ h w μ h' w'∧good (k .undef h'):=by
  obtain⟨ti,z,ty⟩:=ok.ty _ _ hi
  obtain⟨l,hl,rfl⟩:=hv
  unfold Instr.storeAt
  unfold stCell at hg
  obtain⟨hb,hg⟩:=inv_bool hbad hg
  obtain⟨h1,h2⟩:=band_inv hb
  have h1:=beq_inv h1
  have h2:=ble_inv h2
  rw[len_eq] at h1
  have hne:a.cells≠[]:=fun e=>by rw[e] at h1;simp at h1;omega
  obtain⟨hc,ho⟩:=hx.cells hne
  obtain⟨l',w',h',hl',hr,s',x',hg⟩:=s.write (Pr:=P) hbad hl hg hc ho
  rw[hl] at hl';cases hl'
  refine⟨w',h',?_,s',x',hg⟩
  rw[run_bind_ok (run_sure rfl)]
  unfold storeVar
  rw[run_bind_ok ty.rsize]
  have:=hc.length
  simp only[Array.length_toList] at this
  rw[if_neg (by omega)]
  exact hr

/-! ### Addresses -/
theorem structOf_desc{d:TypeDesc}{fs:List Field}(h:structOf d=some fs):∃a,d=.struct a∧a.toList=fs:=by
  cases d<;>simp only[structOf] at h<;>cases h
  exact⟨_,rfl,rfl⟩
theorem fieldOff_inv{fs:List Field}{i:Nat}{p:Nat×TypeId}(h:fieldOff fs i=some p):∃f,fs[i]? =some f∧p=(f.offset,f.type):=by
  obtain⟨f,hf,h⟩:=opt_inv h
  rw[getL_eq] at hf
  cases h;exact⟨f,hf,rfl⟩
theorem fieldAt_ok{E:Env}(ok:EnvOk P E){t:TypeId}{i o:Nat}(ho:fldOff E t i=some o){b:Go.Den.P}{off:Nat}{v:Value}(hv:VR μ (.ptr b off) v):
    ∃u,(Instr.fieldAt t v i).run P w=.ok u w∧VR μ (.ptr b (Nat.add off o)) u:=by
  obtain⟨l,hl,rfl⟩:=hv
  obtain⟨ti,hti,ho⟩:=opt_inv ho
  obtain⟨_,z,ty⟩:=ok.ty _ _ hti
  have hu:=ty.rund (P:=P) (w:=w)
  cases hd:ti.desc<;>rw[hd] at ho<;>simp only at ho<;>try cases ho
  rename_i fs
  obtain⟨p,hp,ho⟩:=opt_inv ho
  obtain⟨fi,hfi,ho⟩:=opt_inv ho
  obtain⟨h1,ho⟩:=bool_inv ho
  cases ho
  obtain⟨f,hf,rfl⟩:=fieldOff_inv hp
  obtain⟨_,_,fty⟩:=ok.ty _ _ hfi
  have h1:=ble_inv h1
  refine⟨.pointer (some ⟨l.blk,l.off+off+f.offset,none⟩),?_,l,hl,by rw[show Nat.add off f.offset=off+f.offset from rfl,Nat.add_assoc]⟩
  unfold Instr.fieldAt
  rw[run_bind_ok hu,hd]
  have hf:fs[i]? =some f:=by rw[←Array.getElem?_toList];exact hf
  simp only[hf]
  rw[run_bind_ok (run_sure rfl)]
  unfold fieldPlace
  have:(if fi.size=0 then partAt ⟨l.blk,l.off+off,none⟩ f.offset f.byteOffset else pure ((⟨l.blk,l.off+off,none⟩:Addr).add f.offset):Sem Addr)=pure ⟨l.blk,l.off+off+f.offset,none⟩:=by
    rw[if_neg (by omega),add_none]
  simp only[Sem.run_bind,fty.rsize,Result.andThen_ok,this]
  rfl
theorem natOf_inv{a:AV}{n:Nat}(h:natOf a=some n){v:Value}(hv:VR μ a v):∃k,v=.int k (n:Int):=by
  cases a<;>simp only[natOf] at h<;>try cases h
  rename_i k m
  cases m<;>simp only at h<;>cases h
  cases hv
  exact⟨k,rfl⟩
theorem arrOf_inv{E:Env}(ok:EnvOk P E){t:TypeId}{p:Nat×TypeId}(h:arrOf E t=some p):P.underlying t=some (.array p.1 p.2):=by
  obtain⟨ti,hti,h⟩:=opt_inv h
  obtain⟨_,z,ty⟩:=ok.ty _ _ hti
  have hu:=ty.und
  cases hd:ti.desc<;>rw[hd] at h<;>simp only at h<;>try cases h
  rw[hu,hd]
theorem withElem_inv{E:Env}(ok:EnvOk P E){t:TypeId}{k:TypeId→TI→Option (AV×Hp T)}{r:AV×Hp T}(h:withElem E t k=some r):
    ∃e i,P.underlying t=some (.slice e)∧E.ty e=some i∧k e i=some r:=by
  obtain⟨e,he,h⟩:=opt_inv h
  obtain⟨i,hi,h⟩:=opt_inv h
  obtain⟨ti,hti,he⟩:=opt_inv he
  obtain⟨_,z,ty⟩:=ok.ty _ _ hti
  have hu:=ty.und
  cases hd:ti.desc<;>rw[hd] at he<;>simp only at he<;>cases he
  exact⟨e,i,by rw[hu,hd],hi,h⟩
theorem withElem_inv'{E:Env}(ok:EnvOk P E){t:TypeId}{k:TypeId→TI→Option (AV×Hp T)}{r:AV×Hp T}(h:withElem E t k=some r):
    ∃e i,P.underlying t=some (.slice e)∧E.ty e=some i∧k e i=some r∧∀k':TypeId→TI→Option (AV×Hp T),withElem E t k'=k' e i:=by
  obtain⟨e,he,h⟩:=opt_inv h
  obtain⟨i,hi,h⟩:=opt_inv h
  have hall:∀k':TypeId→TI→Option (AV×Hp T),withElem E t k'=k' e i:=fun k'=>by
    unfold withElem;rw[he]
    show(Option.rec none (fun ti=>k' e ti) (E.ty e):Option (AV×Hp T))=_
    rw[hi]
  obtain⟨ti,hti,he⟩:=opt_inv he
  obtain⟨_,z,ty⟩:=ok.ty _ _ hti
  have hu:=ty.und
  cases hd:ti.desc<;>rw[hd] at he<;>simp only at he<;>cases he
  exact⟨e,i,by rw[hu,hd],hi,h,hall⟩
theorem indexAt_ok{E:Env}(ok:EnvOk P E)(s:Sim μ h w){t:TypeId}{x y:AV}{r:AV×Hp T}(hr:exIndexAddr E t x (natOf y) h=some r){vx vy:Value}(hx:VR μ x vx)(hy:VR μ y vy):
    Does P μ h w (Instr.indexAt t vx vy) r.1 r.2:=by
  obtain⟨i,hi,hr⟩:=opt_inv hr
  obtain⟨k,rfl⟩:=natOf_inv hi hy
  cases x with
  |slice b off n sz tg=>
    obtain⟨e,ei,hu,he,hr⟩:=withElem_inv ok hr
    obtain⟨_,_,ety⟩:=ok.ty _ _ he
    obtain⟨hc,hr⟩:=bool_inv hr
    obtain⟨h1,h2⟩:=band_inv hc
    have h1:i+1≤n:=ble_inv h1
    have h2:ei.size=sz:=beq_inv h2
    cases hr
    obtain⟨a,cap,rfl,hn,_,hl⟩:=hx
    obtain⟨l,hm,rfl,hb⟩:=hl.resolve_left (by omega)
    refine .here s ?_ ⟨l,hm,rfl⟩
    unfold Instr.indexAt
    simp only[Sem.run_bind,asIntOf,Sem.run_pure,Result.andThen_ok,run_und hu]
    rw[if_pos (by constructor<;>omega)]
    simp only[Sem.run_bind,ety.rsize,Result.andThen_ok,Sem.run_pure,Int.toNat_natCast,add_none,h2]
    rw[show Nat.add off (Nat.mul i sz)=off+i*sz from rfl,Nat.add_assoc]
  |ptr b off=>
    obtain⟨p,hp,hr⟩:=opt_inv hr
    obtain⟨h1,hr⟩:=bool_inv hr
    obtain⟨ei,he,hr⟩:=opt_inv hr
    cases hr
    obtain⟨_,_,ety⟩:=ok.ty _ _ he
    have h1:i+1≤p.1:=ble_inv h1
    have hu:=arrOf_inv ok hp
    obtain⟨l,hl,rfl⟩:=hx
    refine .here s ?_ ⟨l,hl,rfl⟩
    unfold Instr.indexAt
    simp only[Sem.run_bind,asIntOf,Sem.run_pure,Result.andThen_ok,run_und hu,Instr.sureAddr]
    rw[if_pos (by constructor<;>omega)]
    simp only[Sem.run_bind,ety.rsize,Result.andThen_ok,Sem.run_pure,Int.toNat_natCast,add_none]
    rw[show Nat.add off (Nat.mul i ei.size)=off+i*ei.size from rfl,Nat.add_assoc]
  |_=>cases hr
end
end Go.Den
/-
  Aggregates, slices, conversions, interface values.
-/
namespace Go.Den
open Go.RowKit

/-! ### Building -/
theorem foldl_splice(l:List Value):∀(k off:Nat)(cs:Array Value),(l.zipIdx k).foldl (fun cs (p:Value×Nat)=>cs.setIfInBounds (off+p.2) p.1) cs=splice cs (off+k) l:=by
  induction l with
  |nil=>intro k off cs;rfl
  |cons v l ih=>intro k off cs;rw[List.zipIdx_cons,List.foldl_cons,ih,splice,Nat.add_assoc]
inductive PartsR (μ:Mu):List (Nat×AV)→List (Nat×Value)→Prop
  |nil:PartsR μ [] []
  |cons {i:Nat} {a:AV} {v:Value} {ps:List (Nat×AV)} {vs:List (Nat×Value)}:VR μ a v→PartsR μ ps vs→PartsR μ ((i,a)::ps) ((i,v)::vs)
section
variable{T:Type}{P:Program}{w:World}{μ:Mu}{h:Hp T}
theorem fill_ok{place pl:Nat→Option (Nat×Nat)}(hpl:∀i q,place i=some q→pl i=some q){m:Nat}{ps:List (Nat×AV)}{vs:List (Nat×Value)}(hp:PartsR μ ps vs):
    ∀(t:Tm)(cs:Array Value)(t':Tm),CellsR μ (tget t) m ⟨0,0,cs.size⟩ cs→cs.size=m→fillL place m ps t=some t'→∃cs',Instr.fill pl cs vs=some cs'∧CellsR μ (tget t') m ⟨0,0,cs'.size⟩ cs'∧cs'.size=m:=by
  induction hp with
  |nil=>intro t cs t' hc hs h;cases h;exact⟨cs,rfl,hc,hs⟩
  |@cons i a v ps vs hv hp ih=>
    intro t cs t' hc hs h
    have h:(Option.rec none (fun q=>Bool.rec none (fillL place m ps (tlist a.cells q.1 t)) (band (band (Nat.beq (len a.cells) q.2) (Nat.ble 1 q.2)) (Nat.ble (Nat.add q.1 (len a.cells)) m))) (place i):Option Tm)=some t':=h
    obtain⟨q,hq,h⟩:=opt_inv h
    obtain⟨hb,h⟩:=bool_inv h
    obtain⟨hb,h3⟩:=band_inv hb
    obtain⟨h1,h2⟩:=band_inv hb
    have h1:=beq_inv h1
    have h2:=ble_inv h2
    have h3:q.1+len a.cells≤m:=ble_inv h3
    rw[len_eq] at h1 h3
    have hne:a.cells≠[]:=fun e=>by rw[e] at h1;simp at h1;omega
    obtain⟨hcs,ho⟩:=hv.cells hne
    have hlen:=hcs.length
    simp only[Array.length_toList] at hlen
    have hst:=hc.store q.1 hcs ho (by omega)
    obtain⟨cs',hf,hc',hs'⟩:=ih (tlist a.cells q.1 t) (splice cs (0+q.1) v.cells.toList) t' (by simpa using hst) (by simpa using hs) h
    refine⟨cs',?_,hc',hs'⟩
    obtain⟨off,size⟩:=q
    unfold Instr.fill
    rw[hpl _ _ hq]
    simp only
    rw[if_neg (by simp at *;omega)]
    rw[←hf]
    congr 1
    rw[←Array.foldl_toList,Array.toList_zipIdx]
    have:=foldl_splice v.cells.toList 0 off cs
    simp only[Nat.zero_add] at*
    exact this
theorem CellsR.all{c:Nat→AV}{m:Nat}{cs:Array Value}(r:CellsR μ c m ⟨0,0,cs.size⟩ cs)(hs:cs.size=m):VRs μ (funCells c m 0) cs.toList∧(funCells c m 0).all AV.one=true:=by
  have h1:=r.extract 0 m (by omega)
  have h2:=r.ones 0 m (by omega)
  simp only[Nat.zero_add] at h1
  rw[show cs.extract 0 m=cs from by rw[←hs];simp] at h1
  exact⟨h1,h2⟩
theorem run_places{fs:List Field}(h:∀f∈fs,∃ti,P.info? f.type=some ti):(fs.mapM fun f=>do pure (f.offset,←sizeOf f.type):Sem (List (Nat×Nat))).run P w=.ok (fs.map fun f=>(f.offset,P.cellsOf f.type)) w:=by
  induction fs with
  |nil=>rfl
  |cons f fs ih=>
    obtain⟨ti,hti⟩:=h f (by simp)
    have hs:(sizeOf f.type).run P w=.ok (P.cellsOf f.type) w:=by
      unfold sizeOf;rw[run_bind_ok (run_info hti)];simp[Program.cellsOf,hti]
    have ih:=ih fun g hg=>h g (by simp[hg])
    rw[List.mapM_cons,run_bind_ok (show(do pure (f.offset,←sizeOf f.type):Sem (Nat×Nat)).run P w=.ok (f.offset,P.cellsOf f.type) w from by rw[run_bind_ok hs];rfl),run_bind_ok ih]
    rfl
theorem build_ok{E:Env}(ok:EnvOk P E)(s:Sim μ h w){t:TypeId}{ps:List (Nat×AV)}{vs:Array (Nat×Value)}(hp:PartsR μ ps vs.toList){r:AV×Hp T}(hr:exBuild E (E.ty t) ps h=some r):
    Does P μ h w (Instr.build t vs) r.1 r.2:=by
  obtain⟨i,hi,hr⟩:=opt_inv hr
  obtain⟨ti,z,k⟩:=ok.ty _ _ hi
  have hzl:=(k.cells μ).length
  simp only[Array.length_toList] at hzl
  have hc0:CellsR μ (tget (tlist i.zero 0 .e)) (len i.zero) ⟨0,0,z.cells.size⟩ z.cells:=by
    have:=CellsR.new (k.cells μ) k.ones 0
    rw[len_eq];simpa using this
  have fin:∀{place pl:Nat→Option (Nat×Nat)},(∀i q,place i=some q→pl i=some q)→aggOut (len i.zero) h (fillL place (len i.zero) ps (tlist i.zero 0 .e))=some r→∃cs,Instr.fill pl z.cells vs.toList=some cs∧VR μ r.1 (.agg cs)∧r.2=h:=by
    intro place pl hpl hr
    obtain⟨t',ht',hr⟩:=opt_inv hr
    cases hr
    obtain⟨cs,hf,hc,hs⟩:=fill_ok hpl hp _ _ t' hc0 (by rw[len_eq];exact hzl) ht'
    have:=hc.all hs
    refine⟨cs,hf,?_,rfl⟩
    rw[getCells_fun]
    exact⟨cs,rfl,this.1,this.2⟩
  unfold Instr.build
  unfold exBuildD at hr
  cases hd:i.desc<;>rw[hd] at hr<;>simp only at hr<;>try cases hr
  case struct fs=>
    have hpl:∀j q,placeS E fs.toList j=some q→((fs.map fun f=>(f.offset,P.cellsOf f.type))[j]? :Option (Nat×Nat))=some q:=by
      intro j q hq
      obtain⟨p,hp,hq⟩:=opt_inv hq
      obtain⟨fi,hfi,hq⟩:=opt_inv hq
      cases hq
      obtain⟨f,hf,rfl⟩:=fieldOff_inv hp
      obtain⟨_,_,fk⟩:=ok.ty _ _ hfi
      have hf':fs[j]? =some f:=by rw[←Array.getElem?_toList];exact hf
      simp[hf',Program.cellsOf,fk.info,fk.size]
    obtain⟨cs,hf,hv,h2⟩:=fin hpl hr
    rw[h2]
    refine .here s ?_ hv
    rw[run_bind_ok k.rzero]
    simp only
    rw[run_bind_ok k.rund,hd]
    simp only
    rw[Array.mapM_eq_mapM_toList]
    have:=run_places (P:=P) (w:=w) (fs:=fs.toList) fun f hf=>by
      obtain⟨j,hj⟩:=ok.flds _ _ _ hi hd f hf
      obtain⟨ti,_,fk⟩:=ok.ty _ _ hj
      exact⟨ti,fk.info⟩
    rw[run_bind_ok (show(List.toArray <$> (fs.toList.mapM fun f=>do pure (f.offset,←sizeOf f.type)):Sem (Array (Nat×Nat))).run P w=.ok (fs.map fun f=>(f.offset,P.cellsOf f.type)) w from by
      rw[map_eq_pure_bind,run_bind_ok this]
      simp only[Sem.run_pure]
      congr 1
      apply Array.ext';simp)]
    rw[hf]
    rfl
  case array n e=>
    obtain⟨ei,hei,hr⟩:=opt_inv hr
    obtain⟨_,_,ek⟩:=ok.ty _ _ hei
    obtain⟨cs,hf,hv,h2⟩:=fin (place:=placeA ei.size) (pl:=fun i=>some (i*ei.size,ei.size)) (fun j q hq=>hq) hr
    rw[h2]
    refine .here s ?_ hv
    rw[run_bind_ok k.rzero]
    simp only
    rw[run_bind_ok k.rund,hd]
    simp only
    rw[run_bind_ok ek.rsize,hf]
    rfl
end
end Go.Den
/-
  Slices that are made.
-/
namespace Go.Den
open Go.RowKit

theorem repl_zero(z:List AV):repl z 0=[]:=rfl
theorem repl_succ(z:List AV)(n:Nat):repl z (n+1)=z++repl z n:=by
  show appL z (repl z n)=_
  rw[appL_eq]
def cyc(zs:Array Value)(n:Nat):Array Value:=(Array.range n).map (zs[·%zs.size]!)
theorem cyc_toList(zs:Array Value)(n:Nat):(cyc zs n).toList=(List.range n).map (zs[·%zs.size]!):=by simp[cyc]
theorem cyc_none(xs zs:Array Value){n:Nat}(h:n=0):(Array.range n).map (xs[·%xs.size]!)=cyc zs n:=by
  subst h;apply Array.ext';simp[cyc]
theorem cyc_succ(zs:Array Value)(n:Nat):(cyc zs (zs.size+n)).toList=zs.toList++(cyc zs n).toList:=by
  rw[cyc_toList,cyc_toList,List.range_add,List.map_append]
  congr 1
  · apply List.ext_getElem
    · simp
    · intro i h1 h2
      simp at h1
      simp[Nat.mod_eq_of_lt h1,h1]
  · rw[List.map_map]
    apply List.map_congr_left
    intro i _
    simp
theorem repl_ok{μ:Mu}{z:List AV}{zs:Array Value}(h:VRs μ z zs.toList):∀n,VRs μ (repl z n) (cyc zs (n*zs.size)).toList:=by
  intro n
  induction n with
  |zero=>rw[Nat.zero_mul,cyc_toList];exact(rfl:([]:List Value)=[])
  |succ n ih=>
    rw[repl_succ,Nat.succ_mul,Nat.add_comm,cyc_succ]
    exact h.append ih
theorem repl_ones{z:List AV}(h:z.all AV.one=true):∀n,(repl z n).all AV.one=true:=by
  intro n
  induction n with
  |zero=>rfl
  |succ n ih=>rw[repl_succ,List.all_append,h,ih];rfl
theorem length_repl(z:List AV)(n:Nat):(repl z n).length=n*z.length:=by
  induction n with
  |zero=>simp[repl_zero]
  |succ n ih=>rw[repl_succ,List.length_append,ih,Nat.succ_mul,Nat.add_comm]
section
variable{T:Type}{P:Program}{w:World}{μ:Mu}{h:Hp T}
/-- a slice over all of a new row -/
theorem slice_new{μ':Mu}{b:Go.Den.P}{g n c sz:Nat}{tg:Bool}(hm:μ' b=some ⟨g,0,c*sz⟩)(hn:n≤c)(ht:tg=true→c=n):VR μ' (.slice b 0 n sz tg) (.slice (some ⟨g,0,none⟩) n c):=
  ⟨_,c,rfl,hn,⟨ht,_,hm⟩,.inr ⟨_,hm,by simp,by simp⟩⟩
theorem buildSlice_fresh{E:Env}(ok:EnvOk P E){t:TypeId}{n:Nat}{ps:List (Nat×AV)}{r:AV×Hp T}(hr:withElem E t (fun e ei=>exBuildSlice n ps h e ei)=some r):
    ∃(u:Go.Den.P→AV)(ob:Ob T),r=(u h.next,h.new ob)∧(∀h':Hp T,withElem E t (fun e ei=>exBuildSlice n ps h' e ei)=some (u h'.next,h'.new ob))∧∀{μ:Mu}{vs:Array (Nat×Value)},PartsR μ ps vs.toList→Fresh P μ (Instr.buildSlice t n vs) u ob:=by
  obtain⟨e,ei,hu,he,hr,hall⟩:=withElem_inv' ok hr
  obtain⟨ti,z,k⟩:=ok.ty _ _ he
  unfold exBuildSlice at hr
  obtain⟨hb,hr⟩:=bool_inv hr
  have hb0:=hb
  obtain⟨t',ht',hr⟩:=opt_inv hr
  cases hr
  obtain⟨h1,hb⟩:=band_inv hb
  obtain⟨h2,h3⟩:=band_inv hb
  have h1:=beq_inv h1
  have h2:=ble_inv h2
  have h3:n*ei.size≤16777216:=ble_inv h3
  rw[len_eq] at h1
  refine⟨fun p=>.slice p 0 n ei.size true,.row t' (Nat.mul n ei.size) 0 e true,rfl,fun h'=>?_,fun{μ vs} hp=>?_⟩
  · rw[hall]
    unfold exBuildSlice
    rw[hb0,ht']
  have hzl:=(k.cells μ).length
  simp only[Array.length_toList] at hzl
  have hz:z.cells.size=ei.size:=by omega
  have hrep:=repl_ok (k.cells μ) n
  rw[hz] at hrep
  have hlen:=hrep.length
  rw[length_repl,h1] at hlen
  have hc0:CellsR μ (tget (tlist (repl ei.zero n) 0 .e)) (Nat.mul n ei.size) ⟨0,0,(cyc z.cells (n*ei.size)).size⟩ (cyc z.cells (n*ei.size)):=by
    have:=CellsR.new hrep (repl_ones k.ones n) 0
    rw[length_repl,h1] at this
    simpa using this
  obtain⟨cs,hf,hc,hs⟩:=fill_ok (place:=placeA ei.size) (pl:=fun i=>some (i*ei.size,ei.size)) (fun j q hq=>hq) hp _ _ t' hc0 hlen ht'
  refine Fresh.row (vs:=cs) (fun g μ' hl=>?_) (fun _=>hs.symm) (fun g=>.slice (some ⟨g,0,none⟩) n n) (fun g μ' p hm=>slice_new (g:=g) (c:=n) (by rw[hm,hs];rfl) (Nat.le_refl _) (fun _=>rfl)) fun w=>?_
  · obtain⟨a1,a2,a3⟩:=hc.mono hl
    exact⟨rfl,a2,a3⟩
  unfold Instr.buildSlice
  rw[run_bind_ok (run_und hu)]
  simp only
  rw[run_bind_ok k.rsize]
  have hcy:(Array.range (n*ei.size)).map ((if n*ei.size=0 then #[] else z.cells)[·%(if n*ei.size=0 then #[] else z.cells).size]!)=cyc z.cells (n*ei.size):=by
    split
    · rename_i h0;exact cyc_none _ _ h0
    · rfl
  rw[if_neg (by omega)]
  by_cases h0:n*ei.size=0
  · rw[if_pos h0]
    rw[if_pos h0] at hcy
    simp only[Sem.run_bind,Sem.run_pure,Result.andThen_ok,hcy,hf]
    rfl
  · rw[if_neg h0]
    rw[if_neg h0] at hcy
    simp only[Sem.run_bind,Sem.run_pure,Result.andThen_ok,k.rzero,hcy,hf]
    rfl
theorem buildSlice_ok{E:Env}(ok:EnvOk P E)(s:Sim μ h w){t:TypeId}{n:Nat}{ps:List (Nat×AV)}{vs:Array (Nat×Value)}(hp:PartsR μ ps vs.toList){r:AV×Hp T}(hr:withElem E t (fun e ei=>exBuildSlice n ps h e ei)=some r):
    Does P μ h w (Instr.buildSlice t n vs) r.1 r.2:=by
  obtain⟨u,ob,rfl,_,hf⟩:=buildSlice_fresh ok hr
  exact(hf hp).does s
theorem wrap_nat{m:Nat}(h:m≤9223372036854775807):IntKind.i64.wrap (m:Int)=(m:Int):=wrap_in .i64 m h
theorem run_askRoom(n:Nat):(askRoom n).run P w=.ok () w:=by unfold askRoom;split<;>rfl
theorem makeSlice_fresh{E:Env}(ok:EnvOk P E){t:TypeId}{x y:AV}{r:AV×Hp T}(hr:withElem E t (fun e ei=>exMakeSlice (natOf x) (natOf y) h e ei)=some r):
    ∃(u:Go.Den.P→AV)(ob:Ob T),r=(u h.next,h.new ob)∧(∀h':Hp T,withElem E t (fun e ei=>exMakeSlice (natOf x) (natOf y) h' e ei)=some (u h'.next,h'.new ob))∧∀{μ:Mu}{vx vy:Value},VR μ x vx→VR μ y vy→Fresh P μ (Instr.makeSlice t vx vy) u ob:=by
  obtain⟨e,ei,hu,he,hr,hall⟩:=withElem_inv' ok hr
  obtain⟨ti,z,k⟩:=ok.ty _ _ he
  unfold exMakeSlice mk2 at hr
  obtain⟨l,hl,hr⟩:=opt_inv hr
  obtain⟨c,hc,hr⟩:=opt_inv hr
  obtain⟨hb,hr⟩:=bool_inv hr
  have hb0:=hb
  cases hr
  obtain⟨h1,hb⟩:=band_inv hb
  obtain⟨hb,hb'⟩:=band_inv hb
  obtain⟨h2,h3⟩:=band_inv hb
  obtain⟨h4,h5⟩:=band_inv hb'
  have h1:=ble_inv h1
  have h2:=beq_inv h2
  have h3:=ble_inv h3
  have h4:=ble_inv h4
  have h5:c*ei.bytes≤140737488355328:=ble_inv h5
  rw[len_eq] at h2
  refine⟨fun p=>.slice p 0 l ei.size (Nat.beq l c),.row (tlist (repl ei.zero c) 0 .e) (Nat.mul c ei.size) 0 e true,rfl,fun h'=>?_,fun{μ vx vy} hx hy=>?_⟩
  · rw[hall]
    unfold exMakeSlice mk2
    rw[hl,hc]
    show(Bool.rec none _ _:Option (AV×Hp T))=_
    rw[hb0]
  obtain⟨kx,rfl⟩:=natOf_inv hl hx
  obtain⟨ky,rfl⟩:=natOf_inv hc hy
  have hzl:=(k.cells μ).length
  simp only[Array.length_toList] at hzl
  have hz:z.cells.size=ei.size:=by omega
  have hrep:=repl_ok (k.cells μ) c
  rw[hz] at hrep
  have hlen:=hrep.length
  rw[length_repl,h2] at hlen
  refine Fresh.row (vs:=cyc z.cells (c*ei.size)) (fun g μ' hl=>?_) (fun _=>hlen.symm) (fun g=>.slice (some ⟨g,0,none⟩) l c) (fun g μ' p hm=>slice_new (g:=g) (c:=c) (by rw[hm];congr 2) h1 (fun h=>(beq_inv h).symm)) fun w=>?_
  · have:=CellsR.new (hrep.mono hl) (repl_ones k.ones c) g
    rw[length_repl,h2] at this
    simpa using this
  unfold Instr.makeSlice
  rw[run_bind_ok (run_und hu)]
  simp only
  have hi:∀(kk:IntKind)(n:Int),(asInt (.int kk n)).run P w=.ok n w:=fun _ _=>rfl
  rw[run_bind_ok (hi _ _),run_bind_ok (hi _ _),run_bind_ok (run_info k.info)]
  have hl':l≤9223372036854775807:=by omega
  have hc':c≤9223372036854775807:=by omega
  have hbig:¬((ti.bytes:Int)*(c:Int)>2^48):=by
    rw[k.bytes]
    have:((c*ei.bytes:Nat):Int)≤140737488355328:=by omega
    rw[Int.natCast_mul] at this
    rw[Int.mul_comm];omega
  simp only[wrap_nat hl',wrap_nat hc']
  rw[if_neg (by simp only[Bool.or_eq_true,decide_eq_true_eq];omega)]
  rw[Sem.run_bind]
  show Result.andThen ((askRoom _).run P w) _=_
  rw[run_askRoom,Result.andThen_ok]
  simp only[Int.toNat_natCast]
  rw[run_bind_ok k.rsize]
  by_cases h0:c*ei.size=0
  · rw[if_pos h0]
    rw[run_bind_ok (run_pure (a:=(#[]:Array Value)))]
    have:(Array.range (c*ei.size)).map ((#[]:Array Value)[·%(#[]:Array Value).size]!)=cyc z.cells (c*ei.size):=cyc_none _ _ h0
    rw[this];rfl
  · rw[if_neg h0]
    simp only[Sem.run_bind,k.rzero,Result.andThen_ok,Sem.run_pure]
    rfl
theorem makeSlice_ok{E:Env}(ok:EnvOk P E)(s:Sim μ h w){t:TypeId}{x y:AV}{vx vy:Value}(hx:VR μ x vx)(hy:VR μ y vy){r:AV×Hp T}(hr:withElem E t (fun e ei=>exMakeSlice (natOf x) (natOf y) h e ei)=some r):
    Does P μ h w (Instr.makeSlice t vx vy) r.1 r.2:=by
  obtain⟨u,ob,rfl,_,hf⟩:=makeSlice_fresh ok hr
  exact(hf hx hy).does s
end
end Go.Den
/-
  Strings and slicing.
-/
namespace Go.Den
open Go.RowKit

theorem enc_div:∀(i:Nat)(a:List UInt8),enc a / 2^(8*i)=enc (a.drop i)
  |0,a=>by simp
  |i+1,[]=>by simp[enc]
  |i+1,x::a=>by
    have hx:=x.toNat_lt
    rw[show 8*(i+1)=8+8*i from by omega,Nat.pow_add,←Nat.div_div_eq_div_mul]
    have:enc (x::a) / 2^8=enc a:=by simp only[enc];omega
    rw[this,List.drop_succ_cons]
    exact enc_div i a
theorem enc_mod:∀(i:Nat)(a:List UInt8),enc a%2^(8*i)=enc (a.take i)
  |0,a=>by simp[enc,Nat.mod_one]
  |i+1,[]=>by simp[enc]
  |i+1,x::a=>by
    have hx:=x.toNat_lt
    have ih:=enc_mod i a
    rw[show 8*(i+1)=8+8*i from by omega,Nat.pow_add,Nat.mod_mul]
    have h1:enc (x::a) / 2^8=enc a:=by simp only[enc];omega
    have h2:enc (x::a)%2^8=x.toNat:=by simp only[enc];omega
    rw[h1,h2,ih];rfl
theorem StrIs.get{l c:Nat}{s:ByteArray}(h:StrIs l c s){i:Nat}(hi:i<l):s[i]? =some (UInt8.ofNat (strGet c i))∧strGet c i<256:=by
  obtain⟨rfl,rfl⟩:=h
  have hlt:i<s.data.toList.length:=hi
  have e:strGet (enc s.data.toList) i=(s.data.toList[i]).toNat:=by
    show(enc s.data.toList >>> (8*i))%256=_
    rw[Nat.shiftRight_eq_div_pow,enc_div,List.drop_eq_getElem_cons hlt]
    have:=(s.data.toList[i]).toNat_lt
    simp only[enc];omega
  rw[e]
  refine⟨?_,UInt8.toNat_lt _⟩
  have:s[i]? =some (s[i]'hi):=getElem?_pos s i hi
  rw[this]
  congr 1
  rw[UInt8.ofNat_toNat]
  rfl
theorem StrIs.cut{l c:Nat}{s:ByteArray}(h:StrIs l c s){lo hi:Nat}(h1:lo≤hi)(h2:hi≤l):StrIs (Nat.sub hi lo) (strCut c lo hi) (s.extract lo hi):=by
  obtain⟨rfl,rfl⟩:=h
  have hd:(s.extract lo hi).data.toList=(s.data.toList.drop lo).take (hi-lo):=by
    rw[ByteArray.data_extract,Array.toList_extract,List.extract_eq_take_drop]
  refine⟨?_,?_⟩
  · show hi-lo=_
    rw[ByteArray.size_extract];omega
  · show(enc s.data.toList >>> (8*lo))%2^(8*(hi-lo))=_
    rw[Nat.shiftRight_eq_div_pow,enc_div,enc_mod,hd]
theorem StrIs.empty:StrIs 0 0 ByteArray.empty:=⟨rfl,rfl⟩
theorem StrIs.ofBytes(l:List UInt8):StrIs l.length (strFold (l.map (·.toNat))) ⟨⟨l⟩⟩:=by
  refine⟨rfl,?_⟩
  show _=enc l
  induction l with
  |nil=>rfl
  |cons x l ih=>simp only[enc,←ih];rfl
theorem strOf_ok(μ:Mu)(l:List UInt8):VR μ (strOf (l.map (·.toNat))) (.string ⟨⟨l⟩⟩):=by
  refine⟨_,rfl,?_⟩
  rw[len_eq,List.length_map]
  exact StrIs.ofBytes l
theorem bytesOf_ok(μ:Mu)(s:ByteArray):VR μ (bytesOf s) (.string s):=strOf_ok μ s.data.toList
theorem byteCells_ok(μ:Mu)(s:ByteArray):VRs μ (byteCells s.size (enc s.data.toList)) (s.data.toList.map fun b=>Value.int .u8 b.toNat):=by
  obtain⟨⟨l⟩⟩:=s
  show VRs μ (byteCells l.length (enc l)) (l.map _)
  induction l with
  |nil=>exact(rfl:([]:List Value)=[])
  |cons x l ih=>
    have hx:=x.toNat_lt
    show VRs μ (.int .u8 (.ofNat (Nat.mod (enc (x::l)) 256))::byteCells l.length (Nat.div (enc (x::l)) 256)) _
    have h1:Nat.mod (enc (x::l)) 256=x.toNat:=by show enc (x::l)%256=_;simp only[enc];omega
    have h2:Nat.div (enc (x::l)) 256=enc l:=by show enc (x::l) / 256=_;simp only[enc];omega
    rw[h1,h2]
    exact⟨_,_,rfl,rfl,ih⟩
theorem byteCells_ones(n:Nat):∀c,(byteCells n c).all AV.one=true:=by
  induction n with
  |zero=>intro c;rfl
  |succ n ih=>intro c;show List.all (_::byteCells n (Nat.div c 256)) AV.one=true;rw[List.all_cons,ih];rfl
theorem length_byteCells(n:Nat):∀c,(byteCells n c).length=n:=by
  induction n with
  |zero=>intro c;rfl
  |succ n ih=>intro c;show(byteCells n _).length+1=_;rw[ih]
theorem byteOfCell_inv{c:AV}{n:Nat}(hn:byteOfCell c=some n):c=.int .u8 (.ofNat n):=by
  cases c<;>simp only[byteOfCell] at hn<;>try cases hn
  rename_i k m
  cases k<;>simp only at hn<;>try cases hn
  cases m<;>simp only at hn<;>cases hn
  rfl
theorem cellBytes_ok{μ:Mu}:∀{cs:List AV}{l:List Nat}{vs:List Value},cellBytes cs=some l→VRs μ cs vs→∃bs:List UInt8,l=bs.map (·.toNat)∧vs=bs.map fun b=>Value.int .u8 b.toNat
  |[],l,vs,h,hv=>by cases h;cases(show vs=[] from hv);exact⟨[],rfl,rfl⟩
  |c::cs,l,vs,h,hv=>by
    have h:(Option.rec none (fun n=>Option.rec none (fun l=>Bool.rec none (some (n::l)) (Nat.ble n 255)) (cellBytes cs)) (byteOfCell c):Option (List Nat))=some l:=h
    obtain⟨n,hn,h⟩:=opt_inv h
    obtain⟨l',hl',h⟩:=opt_inv h
    obtain⟨hb,h⟩:=bool_inv h
    cases h
    have hb:=ble_inv hb
    obtain⟨v,vs,rfl,hv1,hv2⟩:=hv
    obtain⟨bs,rfl,rfl⟩:=cellBytes_ok hl' hv2
    have:=byteOfCell_inv hn
    subst this
    have hv1:v=.int .u8 (Int.ofNat n):=hv1
    refine⟨UInt8.ofNat n::bs,?_,?_⟩
    · simp;omega
    · rw[hv1];simp
      omega
end Go.Den
/-
  Slicing, conversions, interface values.
-/
namespace Go.Den
open Go.RowKit

section
variable{T:Type}{P:Program}{w:World}{μ:Mu}{h:Hp T}

/-- a bound, as the interpreter and the model have it -/
def BndR(μ:Mu)(a:Option AV)(v:Option Value):Prop:=match a,v with
  |none,none=>True
  |some a,some v=>VR μ a v
  |_,_=>False
noncomputable def bnd (a:Option AV):Option (Option Nat):=a.map natOf
theorem run_bound{k:IntKind}{i y:Nat}{c:BoundsCode}(h:i≤y):(Instr.sliceBound (.int k (i:Int)) y c).run P w=.ok i w:=by
  rw[run_sliceBound (h0:=by omega) (h1:=by omega)];rfl
theorem bounds_ok(sl:Bool){n cap:Nat}{alo ahi amx:Option AV}{lo hi mx:Option Value}(rl:BndR μ alo lo)(rh:BndR μ ahi hi)(rm:BndR μ amx mx)(hs:mx.isSome=true→hi.isSome=true)
    {l h':Nat} {m:Option Nat} (hl:bound 0 (bnd alo)=some l) (hh:bound n (bnd ahi)=some h') (hm:maxOf (bnd amx)=some m)
    (h1:l≤h') (h2:h'≤n) (h3:n≤cap) (h4:∀k,m=some k→k=h'):
    (Instr.sliceBounds sl n cap lo hi mx).run P w=.ok (l,h',m.getD cap) w:=by
  have nat:∀{a:AV}{v:Value}{k:Nat},natOf a=some k→VR μ a v→∃kk,v=.int kk (k:Int):=fun e r=>natOf_inv e r
  have lowv:(lo=none∧l=0)∨∃kk,lo=some (.int kk (l:Int)):=by
    cases alo with
    |none=>
      cases lo<;>simp only[BndR] at rl
      exact .inl ⟨rfl,by simpa[bnd,bound] using hl.symm⟩
    |some a=>
      cases lo<;>simp only[BndR] at rl
      have:natOf a=some l:=by simpa[bnd,bound] using hl
      obtain⟨kk,rfl⟩:=nat this rl
      exact .inr ⟨kk,rfl⟩
  have highv:(hi=none∧h'=n)∨∃kk,hi=some (.int kk (h':Int)):=by
    cases ahi with
    |none=>
      cases hi<;>simp only[BndR] at rh
      exact .inl ⟨rfl,by simpa[bnd,bound] using hh.symm⟩
    |some a=>
      cases hi<;>simp only[BndR] at rh
      have:natOf a=some h':=by simpa[bnd,bound] using hh
      obtain⟨kk,rfl⟩:=nat this rh
      exact .inr ⟨kk,rfl⟩
  have maxv:(mx=none∧m=none)∨∃kk,mx=some (.int kk (h':Int))∧m=some h':=by
    cases amx with
    |none=>
      cases mx<;>simp only[BndR] at rm
      exact .inl ⟨rfl,by simpa[bnd,maxOf] using hm.symm⟩
    |some am=>
      cases mx<;>simp only[BndR] at rm
      have hmk:∃k,natOf am=some k∧m=some k:=by
        cases hk:natOf am with
        |none=>simp[bnd,maxOf,hk] at hm
        |some k=>exact⟨k,rfl,by simpa[bnd,maxOf,hk] using hm.symm⟩
      obtain⟨k,hk,rfl⟩:=hmk
      have:=h4 k rfl
      subst this
      obtain⟨kk,rfl⟩:=nat hk rm
      exact .inr ⟨kk,rfl,rfl⟩
  clear rl rh rm hm hl hh
  unfold Instr.sliceBounds
  have c1:∀(kk:IntKind)(c:BoundsCode),(Instr.sliceBound (.int kk (l:Int)) h' c).run P w=.ok l w:=fun _ _=>run_bound h1
  have c2:∀(kk:IntKind)(c:BoundsCode),(Instr.sliceBound (.int kk (h':Int)) cap c).run P w=.ok h' w:=fun _ _=>run_bound (by omega)
  have c3:∀(kk:IntKind)(c:BoundsCode),(Instr.sliceBound (.int kk (h':Int)) h' c).run P w=.ok h' w:=fun _ _=>run_bound (Nat.le_refl _)
  obtain⟨rfl,rfl⟩|⟨kl,rfl⟩:=lowv<;>obtain⟨rfl,rfl⟩|⟨kh,rfl⟩:=highv<;>obtain⟨rfl,rfl⟩|⟨km,rfl,rfl⟩:=maxv
  · rfl
  · simp at hs
  · simp only[Sem.run_bind,Sem.run_pure,Result.andThen_ok,c2];rfl
  · simp only[Sem.run_bind,Sem.run_pure,Result.andThen_ok,c2,c3];rfl
  · simp only[Sem.run_bind,Sem.run_pure,Result.andThen_ok,c1];rfl
  · simp at hs
  · simp only[Sem.run_bind,Sem.run_pure,Result.andThen_ok,c1,c2];rfl
  · simp only[Sem.run_bind,Sem.run_pure,Result.andThen_ok,c1,c2,c3];rfl
/-- a piece of a row -/
theorem cutRow_ok{b:Go.Den.P}{o n sz:Nat}{t:Bool}{l h':Nat}{m:Option Nat}{r:AV}(hr:cutRow b o n sz t l h' m=some r):
    l≤h'∧h'≤n∧(∀k,m=some k→k=h')∧
    ∀(a:Addr)(cap:Nat),n≤cap→((t=true→cap=n)∧∃l,μ b=some l)→(cap=0∨∃q,μ b=some q∧a=⟨q.blk,q.off+o,none⟩∧q.off+o+cap*sz≤q.size)→
      VR μ r (.slice (some (if m.getD cap=l then a else a.add (l*sz))) (h'-l) (m.getD cap-l)):=by
  obtain⟨hb,hr⟩:=bool_inv hr
  obtain⟨hb,h3⟩:=band_inv hb
  obtain⟨h1,h2⟩:=band_inv hb
  have h1:=ble_inv h1
  have h2:=ble_inv h2
  cases hr
  have hm:∀k,m=some k→k=h':=fun k e=>by subst e;exact beq_inv h3
  refine⟨h1,h2,hm,fun a cap hn ht hl=>?_⟩
  have hcap:h'≤m.getD cap∧m.getD cap≤cap:=by
    cases m with
    |none=>exact⟨by simp;omega,by simp⟩
    |some k=>have:=hm k rfl;simp;omega
  obtain⟨ht,hmb⟩:=ht
  refine⟨_,_,rfl,?_,⟨?_,hmb⟩,?_⟩
  · show h'-l≤_;omega
  · intro hq
    cases m with
    |none=>
      obtain⟨q1,q2⟩:=band_inv hq
      have:=beq_inv q2
      have:=ht q1
      simp;omega
    |some k=>have:=hm k rfl;subst this;rfl
  · by_cases e:m.getD cap=l
    · left;omega
    · right
      obtain⟨q,hq,rfl,hsz⟩:=hl.resolve_left (by omega)
      refine⟨q,hq,?_,?_⟩
      · rw[if_neg e,add_none,Nat.add_assoc];rfl
      · show q.off+(o+l*sz)+_*sz≤_
        have:l*sz+(m.getD cap-l)*sz≤cap*sz:=by
          rw[←Nat.add_mul];exact Nat.mul_le_mul_right _ (by omega)
        omega
theorem withBounds_inv{n:Nat}{lo hi:Option (Option Nat)}{k:Nat→Nat→Option AV}{r:AV}(h:withBounds n lo hi k=some r):∃h' l,bound n hi=some h'∧bound 0 lo=some l∧k l h'=some r:=by
  obtain⟨h',e1,h⟩:=opt_inv h
  obtain⟨l,e2,h⟩:=opt_inv h
  exact⟨h',l,e1,e2,h⟩
theorem rowHas_ok(s:Sim μ h w){b:Go.Den.P}{lb:Loc}(hm:μ b=some lb){k:Nat}(hr:rowHas k (asRow (h.at b))=true):∃l,μ b=some l∧l.off+k≤l.size:=by
  have hrow:=s.rowOf (b:=b) hm rfl
  cases e:asRow (h.at b) with
  |no=>rw[e] at hr;cases hr
  |row t m z e' whole=>
    rw[e] at hr
    have:=ble_inv (show Nat.ble k m=true from hr)
    obtain⟨_,l,cs,fz,hl,_,hc,_⟩:=hrow.1 _ _ _ _ _ e
    exact⟨l,hl,by have:=hc.1;have:=hc.2.1;omega⟩
  |ext c m=>
    rw[e] at hr
    have:=ble_inv (show Nat.ble k m=true from hr)
    obtain⟨l,cs,_,fz,hl,_,hc⟩:=hrow.2 _ _ e
    exact⟨l,hl,by have:=hc.1;have:=hc.2.1;omega⟩
theorem sliceA_ok{E:Env}(ok:EnvOk P E)(s:Sim μ h w){t:TypeId}{x:AV}{vx:Value}(hx:VR μ x vx){alo ahi amx:Option AV}{lo hi mx:Option Value}(rl:BndR μ alo lo)(rh:BndR μ ahi hi)(rm:BndR μ amx mx)(hs:mx.isSome=true→hi.isSome=true)
    {m:Option Nat} (hm:maxOf (bnd amx)=some m) {r:AV} (hr:sliceA E h t x (bnd alo) (bnd ahi) m=some r):
    ∃v,(Instr.sliceAt t vx lo hi mx).run P w=.ok v w∧VR μ r v:=by
  obtain⟨i,hi',hr⟩:=opt_inv hr
  obtain⟨ti,z,k⟩:=ok.ty _ _ hi'
  have hund:=k.und
  have arr:∀{b:Go.Den.P}{o n:Nat}{e:TypeId},cutArr E h b o (bnd alo) (bnd ahi) m n e=some r→VR μ (.ptr b o) vx→
      ∃a l h' v,vx=.pointer (some a)∧(Instr.sliceBounds false n n lo hi mx).run P w=.ok (l,h',m.getD n) w∧(sizeOf e).run P w=.ok (P.cellsOf e) w∧
        v=.slice (some (if m.getD n=l then a else a.add (l*P.cellsOf e))) (h'-l) (m.getD n-l)∧VR μ r v:=by
    intro b o n e hr hx
    obtain⟨ei,he,hr⟩:=opt_inv hr
    obtain⟨_,_,ek⟩:=ok.ty _ _ he
    obtain⟨hrow,hr⟩:=bool_inv hr
    obtain⟨h',l,e1,e2,hr⟩:=withBounds_inv hr
    obtain⟨h1,h2,h3,hv⟩:=cutRow_ok (μ:=μ) hr
    obtain⟨q,hq,hsz⟩:=rowHas_ok s hx.choose_spec.1 hrow
    obtain⟨q',hq',rfl⟩:=hx
    rw[hq] at hq';cases hq'
    have hcs:P.cellsOf e=ei.size:=by simp[Program.cellsOf,ek.info,ek.size]
    refine⟨_,l,h',_,rfl,bounds_ok false rl rh rm hs e2 e1 hm h1 h2 (Nat.le_refl _) h3,by rw[hcs];exact ek.rsize,rfl,?_⟩
    rw[hcs]
    refine hv _ n (Nat.le_refl _) ⟨fun _=>rfl,_,hq⟩ (.inr ⟨q,hq,rfl,?_⟩)
    have:q.off+(o+n*ei.size)≤q.size:=hsz
    omega
  cases hd:i.desc<;>rw[hd] at hr hund<;>simp only[sliceD] at hr<;>try cases hr
  case string=>
    cases x<;>simp only at hr<;>try cases hr
    obtain⟨str,rfl,hstr⟩:=hx
    cases m with
    |some=>cases hr
    |none=>
      obtain⟨h',l,e1,e2,hr⟩:=withBounds_inv hr
      obtain⟨hb,hr⟩:=bool_inv hr
      obtain⟨h1,h2⟩:=band_inv hb
      have h1:=ble_inv h1
      have h2:=ble_inv h2
      cases hr
      have hmx:mx=none:=by
        cases amx with
        |none=>cases mx<;>simp only[BndR] at rm;rfl
        |some a=>cases hk:natOf a<;>simp[bnd,maxOf,hk] at hm
      subst hmx
      have hlen:=hstr.1
      refine⟨.string (str.extract l h'),?_,_,rfl,hstr.cut h1 h2⟩
      rw[run_sliceAt_string _ _ _ _ _ _ hund]
      unfold Instr.slice
      simp only[Sem.run_bind,run_und hund,Result.andThen_ok]
      have:=bounds_ok (P:=P) (w:=w) false rl rh rm hs e2 e1 hm h1 h2 (Nat.le_refl _) (fun _ e=>nomatch e)
      rw[hlen] at this
      simp[this]
  case slice e=>
    obtain⟨ei,he,hr⟩:=opt_inv hr
    obtain⟨_,_,ek⟩:=ok.ty _ _ he
    have hat:∀v,(Instr.sliceAt t v lo hi mx).run P w=(Instr.slice t v lo hi mx).run P w:=fun v=>by
      unfold Instr.sliceAt
      rw[run_bind_ok (run_und hund)]
    unfold cutSl at hr
    cases x<;>simp only at hr<;>try cases hr
    case nils=>
      cases hx
      obtain⟨h',l,e1,e2,hr⟩:=withBounds_inv hr
      obtain⟨hb,hr2⟩:=bool_inv hr
      obtain⟨hb,h3⟩:=band_inv hb
      obtain⟨h1,h2⟩:=band_inv hb
      cases hr2
      obtain rfl:=beq_inv h1
      obtain rfl:=beq_inv h2
      have h3':∀k,m=some k→k=0:=fun k e=>by subst e;exact beq_inv h3
      have hm0:m.getD 0=0:=by cases m<;>simp;exact h3' _ rfl
      refine⟨.slice none 0 0,?_,rfl⟩
      rw[hat]
      unfold Instr.slice
      rw[run_bind_ok (run_und hund)]
      simp only
      rw[run_bind_ok (bounds_ok true rl rh rm hs e2 e1 hm (Nat.le_refl _) (Nat.le_refl _) (Nat.le_refl _) h3')]
      simp only
      rw[run_bind_ok ek.rsize]
      simp[hm0,Sem.run_pure]
    case slice b o n sz tg=>
      obtain⟨hz,hr⟩:=bool_inv hr
      have hz:=beq_inv hz
      obtain⟨h',l,e1,e2,hr⟩:=withBounds_inv hr
      obtain⟨h1,h2,h3,hv⟩:=cutRow_ok (μ:=μ) hr
      obtain⟨a,cap,rfl,hn,ht,hl⟩:=hx
      refine⟨_,?_,hv a cap hn ht hl⟩
      rw[hat]
      unfold Instr.slice
      rw[run_bind_ok (run_und hund)]
      simp only
      rw[run_bind_ok (bounds_ok true rl rh rm hs e2 e1 hm h1 h2 hn h3)]
      simp only
      rw[run_bind_ok ek.rsize,hz]
      simp only[Sem.run_pure,Option.map_some]
      split<;>rfl
  case array n e=>
    cases x<;>simp only at hr<;>try cases hr
    obtain⟨a,l,h',v,rfl,hb,hsz,rfl,hv⟩:=arr hr hx
    refine⟨_,?_,hv⟩
    unfold Instr.sliceAt
    rw[run_bind_ok (run_und hund)]
    simp only[Instr.sureAddr]
    rw[run_bind_ok run_pure,run_bind_ok hb]
    simp only
    rw[run_bind_ok hsz]
    rfl
  case pointer at_=>
    cases x<;>simp only at hr<;>try cases hr
    obtain⟨p,hp,hr⟩:=opt_inv hr
    have harr:=arrOf_inv ok hp
    obtain⟨a,l,h',v,rfl,hb,hsz,rfl,hv⟩:=arr hr hx
    refine⟨_,?_,hv⟩
    unfold Instr.sliceAt
    rw[run_bind_ok (run_und hund)]
    simp only
    unfold Instr.slice
    rw[run_bind_ok (run_und hund)]
    simp only[asAddr]
    rw[run_bind_ok run_pure,run_bind_ok (run_und harr)]
    simp only
    rw[run_bind_ok hb]
    simp only
    rw[run_bind_ok hsz]
    rfl
end
end Go.Den
/-
  Conversions; parts; interface values; iterators.
-/
namespace Go.Den
open Go.RowKit

section
variable{T:Type}{P:Program}{w:World}{μ:Mu}{h:Hp T}

theorem isByte_inv{E:Env}(ok:EnvOk P E){e:TypeId}(hb:isByte E e=true):P.underlying e=some (.int .u8):=by
  unfold isByte at hb
  cases he:E.ty e with
  |none=>rw[he] at hb;cases hb
  |some i=>
    rw[he] at hb
    obtain⟨_,_,k⟩:=ok.ty _ _ he
    have hb:isU8 i.desc=true:=(band_inv (show band (isU8 i.desc) (Nat.beq i.size 1)=true from hb)).1
    have hu:=k.und
    cases hd:i.desc<;>rw[hd] at hb<;>simp only[isU8] at hb<;>try cases hb
    rename_i kk
    cases kk<;>simp only at hb<;>try cases hb
    rw[hu,hd]
theorem cellsOf_byte{E:Env}(ok:EnvOk P E){e:TypeId}(hb:isByte E e=true):P.cellsOf e=1:=by
  unfold isByte at hb
  cases he:E.ty e with
  |none=>rw[he] at hb;cases hb
  |some i=>
    rw[he] at hb
    obtain⟨_,_,k⟩:=ok.ty _ _ he
    have:=beq_inv (band_inv (show band (isU8 i.desc) (Nat.beq i.size 1)=true from hb)).2
    simp[Program.cellsOf,k.info,k.size,this]
theorem fold_push:∀(l:List UInt8)(acc:ByteArray),(l.map fun b=>(b.toNat:Int)).foldl (fun r n=>r.push (UInt8.ofNat n.toNat)) acc=acc++⟨⟨l⟩⟩
  |[],acc=>by
    apply ByteArray.ext;apply Array.ext';simp
  |x::l,acc=>by
    rw[List.map_cons,List.foldl_cons,fold_push l]
    apply ByteArray.ext;apply Array.ext';simp
theorem seen_here{b:Nat}{cs:Array Value}{e:TypeId}{fz:Nat×Nat}(hblk:w.heap[b]? =some (.cells cs e fz))(x:Nat):(Conv.seenAt ⟨b,x,none⟩).run P w=.ok ⟨b,x,none⟩ w:=by
  have hsh:w.shape? b=some (e,cs.size):=by simp[World.shape?,hblk]
  have h1:(shape b).run P w=.ok (some (e,cs.size)) w:=by simp[shape,Sem.run,hsh]
  have h2:(viewAt b).run P w=.ok none w:=by unfold viewAt;rw[run_bind_ok h1];rfl
  unfold Conv.seenAt
  rw[run_bind_ok h2];rfl
theorem convert_ok{E:Env}(ok:EnvOk P E)(s:Sim μ h w){src dst:TypeId}{x:AV}{vx:Value}(hx:VR μ x vx){r:AV×Hp T}(hsrc:(E.ty src).isSome=true)(hr0:convA E h src dst x=some r):
    Does P μ h w (convert src dst vx) r.1 r.2:=by
  obtain⟨i,hi,hr⟩:=opt_inv hr0
  clear hr0
  obtain⟨_,_,k⟩:=ok.ty _ _ hi
  have hd:=k.und
  obtain⟨j,hj⟩:=Option.isSome_iff_exists.1 hsrc
  obtain⟨_,_,kj⟩:=ok.ty _ _ hj
  have hs:=kj.und
  unfold convD at hr
  cases hdd:i.desc<;>rw[hdd] at hr hd<;>simp only at hr<;>try cases hr
  case int kk=>
    cases x<;>simp only[convInt] at hr<;>try cases hr
    cases hx
    refine .here s ?_ rfl
    rw[wrap_eq];unfold convert;rw[run_bind_ok (run_und hs),run_bind_ok (run_und hd)];rfl
  case string=>
    cases x<;>simp only[convStr] at hr<;>try cases hr
    case int kk n=>
      cases hx
      refine .here s ?_ (bytesOf_ok μ _)
      rw[run_convert_int_string (hs:=by rw[hs];rfl) (hd:=hd)]
    case str l c=>
      obtain⟨str,rfl,hstr⟩:=hx
      refine .here s ?_ ⟨str,rfl,hstr⟩
      unfold convert;rw[run_bind_ok (run_und hs),run_bind_ok (run_und hd)];rfl
    case nils=>
      cases hx
      obtain⟨j',hj',hr⟩:=opt_inv hr
      rw[hj] at hj';cases hj'
      cases hjd:j.desc<;>rw[hjd] at hr hs<;>simp only at hr<;>try cases hr
      obtain⟨hb,hr⟩:=bool_inv hr
      cases hr
      have he:=isByte_inv ok hb
      refine .here s (v:=.string .empty) ?_ ⟨_,rfl,StrIs.empty⟩
      unfold convert;rw[run_bind_ok (run_und hs),run_bind_ok (run_und hd)]
      simp only
      rw[run_bind_ok (run_und he)];rfl
    case slice b o n sz tg=>
      obtain⟨j',hj',hr⟩:=opt_inv hr
      rw[hj] at hj';cases hj'
      cases hjd:j.desc<;>rw[hjd] at hr hs<;>simp only at hr<;>try cases hr
      obtain⟨hb,hr⟩:=bool_inv hr
      have he:=isByte_inv ok hb
      obtain⟨cs,hcs,hr⟩:=opt_inv hr
      obtain⟨bl,hbl,hr⟩:=opt_inv hr
      cases hr
      obtain⟨a,cap,rfl,hn,⟨_,_,hm0⟩,hl⟩:=hx
      have hread:=s.read (good:=fun o=>o=some cs) (bad:=none) (fun e=>nomatch e) (b:=b) (off:=o) (n:=n) (k:=some) hm0 hcs
      obtain⟨l',vs,e',fz,as,hl',hrow,_,hle,hv,_,hlen,hg⟩:=hread
      cases hg
      obtain⟨bs,rfl,hbs⟩:=cellBytes_ok hbl hv
      refine .here s ?_ (strOf_ok μ bs)
      unfold convert;rw[run_bind_ok (run_und hs),run_bind_ok (run_und hd)]
      simp only
      rw[run_bind_ok (run_und he)]
      have hload:(loadCells a n).run P w=.ok ((bs.map fun b=>(b.toNat:Int)).map (Value.int .u8)).toArray w:=by
        by_cases h0:n=0
        · subst h0
          have:bs=[]:=by
            cases bs with
            |nil=>rfl
            |cons x bs=>simp at hbs
          subst this;rfl
        · obtain⟨q,hq,rfl,_⟩:=hl.resolve_left (by omega)
          rw[hq] at hl';cases hl'
          rw[run_loadCells hrow n hle]
          congr 1
          apply Array.ext'
          rw[hbs];simp[Function.comp_def]
      rw[run_bytesToString w a n cap _ hload,fold_push]
      congr 2
  case slice e=>
    cases x<;>simp only[convSlice] at hr<;>try cases hr
    rename_i l c
    obtain⟨hb,hr⟩:=bool_inv hr
    cases hr
    have he:=isByte_inv ok hb
    obtain⟨str,rfl,hstr⟩:=hx
    obtain⟨rfl,rfl⟩:=hstr
    have hrun:=Lib.run_convert_string_bytes (P:=P) w src dst e str hs hd he
    have hcap:=grownCap_ge w str.size 0 e
    -- the new row
    have hsz:(Lib.bytesCells w e str).size=grownCap w str.size 0 e:=by
      simp[Lib.bytesCells]
      have:str.data.size=str.size:=rfl
      omega
    let X:Obj:=.cells (Lib.bytesCells w e str) e ((Lib.bytesCells w e str).size,(Lib.bytesCells w e str).size+1)
    have hget:∀j:Nat,j<str.size→(Lib.bytesCells w e str)[j]? =(str.data.toList.map fun b=>Value.int .u8 b.toNat)[j]? :=by
      intro j hj
      have:j<str.data.size:=hj
      rw[Lib.bytesCells,Array.getElem?_append,if_pos (by simpa using this)];simp
    obtain⟨s1,x1⟩:=s.alloc (.row (tlist (byteCells str.size (enc str.data.toList)) 0 .e) str.size 0 e false) X (Lib.bytesCells w e str).size 0 (fun μ' hl=>by
      refine⟨_,_,alloc_new w X,⟨rfl,by rw[hsz];simp;omega,fun j hj=>?_⟩,(fun e=>nomatch e),fun _ j _ hj=>by simp;omega⟩
      have hbc:=byteCells_ok μ' str
      have hlen:=length_byteCells str.size (enc str.data.toList)
      have ha:(byteCells str.size (enc str.data.toList))[j]? =some ((byteCells str.size (enc str.data.toList))[j]'(by omega)):=List.getElem?_eq_getElem _
      obtain⟨v,hv,hr⟩:=hbc.get j _ ha
      refine⟨v,by rw[Nat.zero_add,hget j hj];exact hv,?_,?_⟩
      · rw[tget_tlist,if_pos (by omega),List.getD_eq_getElem?_getD,Nat.sub_zero,ha];exact hr
      · rw[tget_tlist,if_pos (by omega),List.getD_eq_getElem?_getD,Nat.sub_zero,ha]
        exact(List.all_eq_true.1 (byteCells_ones _ _)) _ (List.getElem_mem _))
    have hheap:(Lib.bytesWorld w e str).heap=(w.alloc X).heap:=by
      apply Array.ext_getElem?
      intro j
      rcases Nat.lt_trichotomy j w.heap.size with hj|rfl|hj
      · rw[Lib.bytesWorld_at_old w e str j hj,Below.heap_alloc w X j hj]
      · rw[Lib.bytesWorld_at_new,alloc_new]
      · have h1:=Lib.bytesWorld_size w e str
        have h2:(w.alloc X).heap.size=w.heap.size+1:=by simp
        rw[Array.getElem?_eq_none (by omega),Array.getElem?_eq_none (by omega)]
    refine⟨_,_,_,hrun,s1.heap hheap,x1.trans (Ext'.heap _ _ hheap rfl rfl rfl),?_⟩
    refine⟨_,_,rfl,hcap,⟨(fun e=>nomatch e),_,Mu.set_same _ _ _⟩,.inr ⟨_,Mu.set_same _ _ _,by simp,?_⟩⟩
    show 0+0+_*1≤(Lib.bytesCells w e str).size
    rw[hsz];omega
  case pointer u=>
    have src:∀{o:Option (AV×Hp T)},srcU E src o=some r→P.underlying src=some .unsafePointer∧o=some r:=fun hr=>by
      obtain⟨j',hj',hr⟩:=opt_inv hr
      rw[hj] at hj';cases hj'
      cases hjd:j.desc<;>rw[hjd] at hr hs<;>simp only at hr<;>try cases hr
      exact⟨hs,rfl⟩
    cases x<;>simp only at hr<;>try cases hr
    case nilp=>
      obtain⟨hs',hr⟩:=src hr
      cases hr;cases hx
      refine .here s (v:=.pointer none) ?_ rfl
      unfold convert;rw[run_bind_ok (run_und hs'),run_bind_ok (run_und hd)]
      simp only[Conv.unsafePointer]
      rw[run_bind_ok (run_und hs'),run_bind_ok (run_und hd)];rfl
    case ptr b o=>
      obtain⟨hs',hr⟩:=src hr
      have hrow:=s.rowOf (b:=b) hx.choose_spec.1 rfl
      cases hro:asRow (h.at b) with
      |no=>rw[hro] at hr;cases hr
      |ext c n=>rw[hro] at hr;cases hr
      |row t n z e whole=>
        rw[hro] at hr
        obtain⟨ui,hui,hr⟩:=opt_inv (show(Option.rec none (fun ui=>Bool.rec none (some (.ptr b o,h)) (band (band whole (Nat.beq e u)) (band (Nat.beq o 0) (band (Nat.ble 1 ui.size) (Nat.ble ui.size n))))) (E.ty u):Option (AV×Hp T))=some r from hr)
        obtain⟨hb,hr2⟩:=bool_inv hr
        obtain⟨hb1,hb2⟩:=band_inv hb
        obtain⟨hwh,hb1⟩:=band_inv hb1
        obtain⟨hb2,hb3⟩:=band_inv hb2
        obtain⟨hb3,hb4⟩:=band_inv hb3
        have hb3:=ble_inv hb3
        have hb4:=ble_inv hb4
        cases hr2
        obtain rfl:=beq_inv hb1
        obtain rfl:=beq_inv hb2
        obtain⟨_,_,ku⟩:=ok.ty _ _ hui
        obtain⟨_,l,cs,fz,hl,hblk,hc,hw,_⟩:=hrow.1 _ _ _ _ _ hro
        have hv:=hx
        obtain⟨q,hq,rfl⟩:=hx
        rw[hl] at hq;cases hq
        obtain⟨hoff,hn⟩:=hw hwh
        have hcs:P.cellsOf e=ui.size:=by simp[Program.cellsOf,ku.info,ku.size]
        have hsh:w.shape? l.blk=some (e,cs.size):=by simp[World.shape?,hblk]
        have hvar:(variablesAt ⟨l.blk,l.off+0,none⟩ e 1).run P w=.ok true w:=by
          have h1:(shape l.blk).run P w=.ok (some (e,cs.size)) w:=by simp[shape,Sem.run,hsh]
          unfold variablesAt
          rw[run_bind_ok (show program.run P w=.ok P w from rfl),run_bind_ok h1]
          simp only[hcs,hoff,Nat.add_zero]
          have:liesAt P P.depth e (cs.size / ui.size) 0 e 1=true:=by
            have hpos:0<cs.size / ui.size:=Nat.div_pos (by omega) (by omega)
            have hdp:P.depth=(2*(P.types.size+Made.depth)+1)+1:=rfl
            rw[hdp]
            simp only[liesAt,Bool.or_eq_true]
            left
            rw[hdp]
            have hne:¬ui.size=0:=by omega
            have hsl:∀d,sameLayout P (d+1) e e=true:=fun d=>by unfold sameLayout;simp
            unfold rowAt
            simp only[hcs,hne,if_false,Nat.zero_div,Nat.zero_mod,beq_self_eq_true,Bool.true_and,Nat.zero_add,decide_eq_true (show 1≤cs.size / ui.size from hpos),hsl,Bool.true_or]
          rw[this];rfl
        refine .here s ?_ hv
        unfold convert;rw[run_bind_ok (run_und hs'),run_bind_ok (run_und hd)]
        simp only[Conv.unsafePointer]
        rw[run_bind_ok (run_und hs'),run_bind_ok (run_und hd)]
        simp only
        have hseen:(Conv.seenAt ⟨l.blk,l.off+0,none⟩).run P w=.ok ⟨l.blk,l.off+0,none⟩ w:=seen_here hblk _
        rw[run_bind_ok hseen,run_bind_ok ku.rsize]
        rw[run_bind_ok hvar]
        simp only[Bool.or_true,if_true]
        rfl
  case unsafePointer=>
    cases x<;>simp only at hr<;>try cases hr
    case nilp=>
      obtain⟨j',hj',hr⟩:=opt_inv hr
      rw[hj] at hj';cases hj'
      cases hjd:j.desc<;>rw[hjd] at hr hs<;>simp only at hr<;>try cases hr
      cases hx
      refine .here s (v:=.pointer none) ?_ rfl
      unfold convert;rw[run_bind_ok (run_und hs),run_bind_ok (run_und hd)]
      simp only[Conv.unsafePointer]
      rw[run_bind_ok (run_und hs),run_bind_ok (run_und hd)];rfl
    case ptr b o=>
      have hrow:=s.rowOf (b:=b) hx.choose_spec.1 rfl
      cases hro:asRow (h.at b) with
      |no=>unfold toUnsafe at hr;rw[hro] at hr;cases hr
      |ext c n=>unfold toUnsafe at hr;rw[hro] at hr;cases hr
      |row t n z e whole=>
        unfold toUnsafe at hr
        rw[hro] at hr
        obtain⟨j',hj',hr⟩:=opt_inv (show(Option.rec none (fun ti=>match ti.desc with
          |.pointer t=>Option.rec none (fun ei=>Bool.rec none (some (.ptr b o,h)) (band (Nat.ble 1 ei.size) (Nat.ble (Nat.add o 1) n))) (E.ty t)
          |_=>none) (E.ty src):Option (AV×Hp T))=some r from hr)
        rw[hj] at hj';cases hj'
        cases hjd:j.desc<;>rw[hjd] at hr hs<;>simp only at hr<;>try cases hr
        rename_i t'
        obtain⟨ui,hui,hr⟩:=opt_inv hr
        obtain⟨hb,hr⟩:=bool_inv hr
        cases hr
        obtain⟨hb1,hb2⟩:=band_inv hb
        have hb1:=ble_inv hb1
        have hb2:o+1≤n:=ble_inv hb2
        obtain⟨_,_,ku⟩:=ok.ty _ _ hui
        obtain⟨_,l,cs,fz,hl,hblk,hc,hw,_⟩:=hrow.1 _ _ _ _ _ hro
        have hv:=hx
        obtain⟨q,hq,rfl⟩:=hx
        rw[hl] at hq;cases hq
        have hsh:w.shape? l.blk=some (e,cs.size):=by simp[World.shape?,hblk]
        have h1:(shape l.blk).run P w=.ok (some (e,cs.size)) w:=by simp[shape,Sem.run,hsh]
        refine .here s ?_ hv
        unfold convert;rw[run_bind_ok (run_und hs),run_bind_ok (run_und hd)]
        simp only[Conv.unsafePointer]
        rw[run_bind_ok (run_und hs),run_bind_ok (run_und hd)]
        simp only
        rw[run_bind_ok (seen_here hblk _)]
        have hcells:(cellsIn l.blk).run P w=.ok (some cs.size) w:=by
          unfold cellsIn;rw[run_bind_ok h1];rfl
        rw[run_bind_ok hcells,run_bind_ok ku.rsize]
        have:=hc.2.1
        rw[if_neg (by simp;omega)]
        rfl
end
end Go.Den
/-
  Parts; interface values; iterators; maps.
-/
namespace Go.Den
open Go.RowKit

section
variable{T:Type}{P:Program}{w:World}{μ:Mu}{h:Hp T}
theorem nil_ok{ρ:Operand→Value}{o:Oper}{x:Operand}(ho:o.op=.nilCheck x){a:AV}(hx:VR μ a (ρ x)){r:AV×Hp T}(hr:exNil a h=some r):
    ∃v,(execOp ρ o).run P w=.ok (.value v) w∧VR μ r.1 v∧r.2=h:=by
  cases a<;>simp only[exNil] at hr<;>cases hr
  have hv:=hx
  obtain⟨l,hl,e⟩:=hx
  refine⟨_,?_,hv,rfl⟩
  unfold execOp
  rw[ho]
  simp only
  rw[e]
  rfl
theorem field_ok{E:Env}(ok:EnvOk P E)(s:Sim μ h w){t:TypeId}{a:AV}{i:Nat}{r:AV×Hp T}(hr0:exField E t a i h=some r){vx:Value}(hx:VR μ a vx):Does P μ h w (Instr.field t vx i) r.1 r.2:=by
  cases a<;>simp only[exField] at hr0<;>try cases hr0
  obtain⟨ti,hti,hr⟩:=opt_inv hr0
  obtain⟨_,_,k⟩:=ok.ty _ _ hti
  have hu:=k.und
  cases hd:ti.desc<;>rw[hd] at hr hu<;>simp only at hr<;>try cases hr
  obtain⟨p,hp,hr⟩:=opt_inv hr
  obtain⟨hr,h2⟩:=withH_inv hr
  obtain⟨f,hf,rfl⟩:=fieldOff_inv hp
  obtain⟨vs,rfl,hvs,ho⟩:=hx
  obtain⟨v,hv,hr⟩:=part_ok (w:=w) ok hr hvs ho
  rw[h2]
  refine .here s ?_ hr
  unfold Instr.field
  rw[run_bind_ok (run_und hu)]
  simp only
  rw[←Array.getElem?_toList,hf]
  exact hv
theorem index_ok{E:Env}(ok:EnvOk P E)(s:Sim μ h w){t:TypeId}{a y:AV}{r:AV×Hp T}(hr0:exIndex E t a (natOf y) h=some r){vx vy:Value}(hx:VR μ a vx)(hy:VR μ y vy):Does P μ h w (Instr.index t vx vy) r.1 r.2:=by
  obtain⟨i,hi,hr⟩:=opt_inv hr0
  clear hr0
  obtain⟨k,rfl⟩:=natOf_inv hi hy
  cases a<;>simp only at hr<;>try cases hr
  case str l c=>
    obtain⟨ti,hti,hr⟩:=opt_inv hr
    obtain⟨_,_,k⟩:=ok.ty _ _ hti
    have hu:=k.und
    obtain⟨hd,hr⟩:=bool_inv hr
    obtain⟨hb,hr⟩:=bool_inv hr
    have hb:i+1≤l:=ble_inv hb
    have hd:ti.desc=.string:=by cases hdd:ti.desc<;>rw[hdd] at hd<;>simp only[isStr] at hd<;>first|rfl|cases hd
    cases hr
    rw[hd] at hu
    obtain⟨str,rfl,hstr⟩:=hx
    obtain⟨hget,hlt⟩:=hstr.get (show i<l from hb)
    refine .here s (v:=.int .u8 (Int.ofNat (strGet c i))) ?_ rfl
    unfold Instr.index
    simp only[asIntOf]
    rw[run_bind_ok run_pure]
    simp only
    rw[run_bind_ok (run_und hu)]
    simp only
    rw[if_pos (by omega),Int.toNat_natCast,hget]
    simp only
    have:(UInt8.ofNat (strGet c i)).toNat=strGet c i:=by simp;omega
    rw[this];rfl
  case agg cs=>
    obtain⟨p,hp,hr⟩:=opt_inv hr
    obtain⟨hb,hr⟩:=bool_inv hr
    have hb:i+1≤p.1:=ble_inv hb
    obtain⟨ei,he,hr⟩:=opt_inv hr
    obtain⟨_,_,ek⟩:=ok.ty _ _ he
    obtain⟨hr,h2⟩:=withH_inv hr
    obtain⟨vs,rfl,hvs,ho⟩:=hx
    obtain⟨v,hv,hr⟩:=part_ok (w:=w) ok hr hvs ho
    rw[h2]
    refine .here s ?_ hr
    unfold Instr.index
    simp only[asIntOf]
    rw[run_bind_ok run_pure]
    simp only
    rw[run_bind_ok (run_und (arrOf_inv ok hp))]
    simp only
    rw[if_pos (by constructor<;>omega),run_bind_ok ek.rsize,Int.toNat_natCast]
    exact hv
theorem extract_ok(s:Sim μ h w){a:AV}{i:Nat}{r:AV×Hp T}(hr:exExtract a i h=some r){vx:Value}(hx:VR μ a vx):Does P μ h w (Instr.extract vx i) r.1 r.2:=by
  cases a<;>simp only[exExtract] at hr<;>try cases hr
  obtain⟨hr,h2⟩:=withH_inv hr
  obtain⟨vs,rfl,hvs⟩:=hx
  rw[getL_eq] at hr
  obtain⟨v,hv,hr⟩:=hvs.get _ _ hr
  rw[h2]
  refine .here s ?_ hr
  unfold Instr.extract
  simp only
  rw[←Array.getElem?_toList,hv];rfl
theorem mkIface_ok{E:Env}(ok:EnvOk P E)(s:Sim μ h w){t:TypeId}{a:AV}{r:AV×Hp T}(hr:exMkIface E t a h=some r){vx:Value}(hx:VR μ a vx):Does P μ h w (Instr.makeInterface t vx) r.1 r.2:=by
  obtain⟨ti,hti,hr⟩:=opt_inv hr
  obtain⟨_,_,k⟩:=ok.ty _ _ hti
  obtain⟨hb,hr⟩:=bool_inv' hr
  cases hr
  refine .here s (v:=.iface t vx) ?_ ⟨vx,rfl,hx⟩
  unfold Instr.makeInterface
  rw[run_bind_ok k.rund]
  cases hd:ti.desc<;>rw[hd] at hb<;>first|rfl|cases hb
theorem makeMap_fresh(μ:Mu)(t:TypeId):Fresh (T:=T) P μ (Instr.makeMap t none) (fun p=>.map p) (.map [] 0):=fun w=>
  ⟨.map (some w.heap.size),.map #[] 0,0,rfl,fun _ _=>⟨⟨#[],alloc_new _ _,rfl⟩,fun _ hp=>⟨_,hp,rfl⟩⟩⟩
theorem makeMap_ok(s:Sim μ h w)(t:TypeId):Does P μ h w (Instr.makeMap t none) (.map h.next) (h.new (.map [] 0)):=(makeMap_fresh μ t).does s
theorem range_ok{E:Env}(ok:EnvOk P E)(s:Sim μ h w){t:TypeId}{a:AV}{r:AV×Hp T}(hr:exRange E t a h=some r){vx:Value}(hx:VR μ a vx):Does P μ h w (Instr.range t vx) r.1 r.2:=by
  cases a<;>simp only[exRange] at hr<;>try cases hr
  case map b=>
    obtain⟨ti,hti,hr⟩:=opt_inv hr
    obtain⟨_,_,k⟩:=ok.ty _ _ hti
    have hu:=k.und
    obtain⟨hd,hr⟩:=bool_inv hr
    obtain⟨p,hp,hr⟩:=opt_inv hr
    cases hr
    obtain⟨l,hl,rfl⟩:=hx
    have hat:h.at b=.map p.1 p.2:=by cases hat:h.at b<;>rw[hat] at hp<;>simp only[esOf] at hp<;>cases hp;rfl
    have hob:=s.ob b l (by rw[hat];simp) hl
    rw[hat] at hob
    obtain⟨xs,hblk,_⟩:=hob
    obtain⟨s1,x1⟩:=s.alloc (.mIter b p.2 [] p.2) (.mapIter (some l.blk) p.2 #[] p.2) 0 0 fun μ' hl'=>⟨l,hl' _ _ hl,alloc_new _ _,rfl⟩
    refine⟨.pointer (some ⟨w.heap.size,0,none⟩),_,_,?_,s1,x1,⟨_,Mu.set_same _ _ _,rfl⟩⟩
    unfold Instr.range
    rw[run_bind_ok (run_und hu)]
    cases hdd:ti.desc<;>rw[hdd] at hd<;>simp only[isMapD] at hd<;>try cases hd
    simp only
    have hg:(getObj l.blk).run P w=.ok (.map xs p.2) w:=by simp[getObj,Sem.run,hblk]
    rw[run_bind_ok hg];rfl
  obtain⟨ti,hti,hr⟩:=opt_inv hr
  obtain⟨_,_,k⟩:=ok.ty _ _ hti
  have hu:=k.und
  obtain⟨hd,hr⟩:=bool_inv hr
  have hd:ti.desc=.string:=by cases hdd:ti.desc<;>rw[hdd] at hd<;>simp only[isStr] at hd<;>first|rfl|cases hd
  cases hr
  rw[hd] at hu
  obtain⟨str,rfl,hstr⟩:=hx
  obtain⟨s1,x1⟩:=s.alloc (.iter _ _ 0) (.stringIter str 0) 0 0 fun μ' hl=>⟨str,alloc_new _ _,hstr,rfl⟩
  refine⟨.pointer (some ⟨w.heap.size,0,none⟩),_,_,?_,s1,x1,⟨_,Mu.set_same _ _ _,rfl⟩⟩
  unfold Instr.range
  rw[run_bind_ok (run_und hu)]
  rfl
theorem assert_ok{E:Env}(ok:EnvOk P E)(s:Sim μ h w){xt a:TypeId}{x:AV}{b:Bool}{r:AV×Hp T}(hr:exAssert E a x b h=some r){vx:Value}(hx:VR μ x vx):Does P μ h w (Instr.typeAssert vx xt a b) r.1 r.2:=by
  cases x<;>simp only[exAssert] at hr<;>try cases hr
  rename_i t v
  obtain⟨ti,hti,hr⟩:=opt_inv hr
  obtain⟨_,_,k⟩:=ok.ty _ _ hti
  have hu:=k.und
  obtain⟨y,rfl,hy⟩:=hx
  have key:(Bool.rec none (some (lookAns b v true,h)) (Nat.beq t a):Option (AV×Hp T))=some r→(∀ms,ti.desc≠.interface ms)→Does P μ h w (Instr.typeAssert (.iface t y) xt a b) r.1 r.2:=fun hr hn=>by
    obtain⟨hb,hr2⟩:=bool_inv hr
    cases hr2
    obtain rfl:=beq_inv hb
    have hv:VR μ (lookAns b v true) (if b then .tuple #[y,.bool true] else y):=by
      cases b
      · exact hy
      · exact⟨_,rfl,_,_,rfl,hy,_,_,rfl,rfl,rfl⟩
    refine .here s ?_ hv
    unfold Instr.typeAssert
    rw[run_bind_ok (run_und hu)]
    cases hd:ti.desc<;>first|exact absurd hd (hn _)|(simp only[if_true];rfl)
  cases hd:ti.desc<;>rw[hd] at hr<;>first|(cases hr;done)|exact key hr (by rw[hd];intro ms e;cases e)
end
end Go.Den
