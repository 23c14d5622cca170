/-
 Proof.
-/
import Derived.Test.YtmgalljhidgnoaaGreatDoorDenA
import Derived.Lib.ConvBytes
import Derived.Laws.BytesString
import Derived.Laws.Slices
open UInt8 renaming toNat_inj → wB, lt_iff_toNat_lt → wD, ofNat → wE
open Nat renaming beq → vS, ble → vU, le_of_ble_eq_true → vX, sub → vQ, pow_add → wF, mul_comm → wG, mod → vT, div → vR, add → vN, mod_eq_of_lt → wH, add_assoc → wI, mul → vO, zero_add → wJ, succ_mul → wK, add_comm → wL, le_refl → vE, shiftRight_eq_div_pow → wM, sub_zero → we
open Bool renaming eq_iff_iff → wN, false_eq_true → wO, rec → wg, or_eq_true → wP
open Int renaming ofNat → vJ, toNat_natCast → wQ
open List renaming extract_eq_take_drop → wR, all_eq_true → wm, foldl_cons → wS, getD_eq_getElem?_getD → vM
open Option renaming rec → wz
noncomputable section
namespace Go.Den
open Go.RowKit
theorem Nz:∀{a b:List UInt8},a.length=b.length→enc a=enc b→a=b
 |[],[],_,_=>rfl
 |[],_::_,c,_=>by simp at c
 |_::_,[],c,_=>by simp at c
 |x::a,d::b,f,g=>by
  simp only[enc] at g;have h:=x.toNat_lt;have i:=d.toNat_lt;have j:x.toNat=d.toNat:=by omega
  have k:enc a=enc b:=by omega
  rw[wB.1 j,Nz (by simpa using f) k]
theorem Dk.eq{l a b c:Nat}{d t:ByteArray}(f:Dk l a d)(g:Dk b c t):(d.toList==t.toList)=(decide (l=b)&&decide (a=c)):=by
 obtain⟨rfl,rfl⟩:=f;obtain⟨rfl,rfl⟩:=g;rw[ByteArray.toList_eq,ByteArray.toList_eq];by_cases e:d.data.toList=t.data.toList
 · have h:d.size=t.size:=by exact congrArg List.length e
   rw[e,h];simp
 · have:¬(d.size=t.size∧enc d.data.toList=enc t.data.toList):=λ⟨i,j⟩=>e (Nz i j);rw[show(d.data.toList==t.data.toList)=false from by simpa using e];rw[←Bool.decide_and,decide_eq_false this]
theorem Fi(a b:Int):AN a b=(a==b):=by
 cases a with
 |ofNat a=>cases b with
  |ofNat b=>show vS a b=_;rw[DY,wN,decide_eq_true_iff,beq_iff_eq];exact⟨λh=>by rw[h],λh=>vJ.inj h⟩
  |negSucc b=>show false=_;symm;simp
 |negSucc a=>cases b with
  |ofNat b=>show false=_;symm;simp
  |negSucc b=>show vS a b=_;rw[DY,wN];simp
section
variable{P:Program}{w:World}{μ:Mu}
theorem lY{b:TypeDesc}{t:TypeId}{x c:U}{d f:Value}{g:Bool}(h:P.underlying t=some b)(i:DX b x=true)(j:Iw x c=some g)
 (k:VR μ x d) (m:VR μ c f) (n:Nat):(Op.equalIn (n+1) t d f).run P w=.ok g w:=by
 cases x with
 |bool a=>
  cases b<;>simp only[DX] at i<;>try cases i
  cases c<;>simp only[Iw,mX] at j<;>try cases j
  cases k;cases m;rw[run_equalIn_bool' w n t _ _ h,Yw]
 |int o a=>
  cases b<;>simp only[DX] at i<;>try cases i
  cases c<;>simp only[Iw,eZ] at j<;>try cases j
  cases k;cases m;split at j
  · rename_i e;subst e;cases j;rw[run_equalIn_int w n t _ _ _ _ h,Fi]
  · cases j
 |str l p=>
  cases b<;>simp only[DX] at i<;>try cases i
  cases c<;>simp only[Iw,eqStr] at j<;>try cases j
  obtain⟨q,rfl,r⟩:=k;obtain⟨s,rfl,u⟩:=m;rw[run_equalIn_string w n t _ _ h,r.eq u,GC,DY,DY]
 |_=>simp[DX] at i
theorem NJ{b:Env}(c:Bt P b){t:TypeId}{cs:List U}{d:Nat}{a:U}(f:part b t cs d=some a){g:Array Value}(h:BN μ cs g.toList)(i:cs.all U.one=true):
 ∃v,(Go.part t g d).run P w=.ok v w∧VR μ a v:=by
 obtain⟨j,hi,f⟩:=Ah f;obtain⟨k,z,l⟩:=c.ty _ _ hi;unfold Go.part;rw[Aa l.Aem];cases m:j.agg with
 |true=>
  rw[m] at f;have f:some (U.agg (FW j.size (Ho d cs)))=some a:=f;cases f;simp only[if_true];rw[Aa l.rsize,Uk,kY];refine⟨_,rfl,g.extract d (d+j.size),rfl,?_,?_⟩
  · simp only[Array.toList_extract,wR];rw[show d+j.size-d=j.size from by omega];exact(h.drop d).take j.size
  · rw[wm] at i ⊢;intro x n;exact i x (List.mem_of_mem_drop (List.mem_of_mem_take n))
 |false=>
  rw[m] at f;have f:Cj cs d=some a:=f;rw[CU] at f;obtain⟨v,o,p⟩:=h.get _ _ f;simp only[wO,if_false];have:g[d]? =some v:=by rw[←Array.getElem?_toList];exact o
  rw[this];exact⟨v,rfl,p⟩
theorem WN{b:Env}(c:Bt P b){rec:TypeId→U→U→Option Bool}{d:Nat}
 (g:∀(t:TypeId)(x h:U)(i:Bool)(j k:Value),rec t x h=some i→VR μ x j→VR μ h k→(Op.equalIn d t j k).run P w=.ok i w)
 {l m:List U} {j k:Array Value} (n:BN μ l j.toList) (o:BN μ m k.toList) (p:l.all U.one=true) (q:m.all U.one=true):
 ∀(r:List Field)(i:Bool),NR r=true→eqFields b rec l m r=some i→(Op.eqFields d j k r).run P w=.ok i w:=by
 intro r;induction r with
 |nil=>intro i _ s;cases s;rfl
 |cons f r IH=>
  intro i u s;simp only[NR,Bool.and_eq_true] at u;have v : f.name ≠ "_" := by simpa using u.1
  have s:(wz none (λa=>wz none (λi=>wz none (λt=>wg (some false) (eqFields b rec l m r) t) (rec f.type a i)) (part b f.type m f.offset)) (part b f.type l f.offset):Option Bool)=some i:=s;obtain⟨a,y,s⟩:=Ah s;obtain⟨h,d,s⟩:=Ah s;obtain⟨t,j,s⟩:=Ah s;obtain⟨k,b,l⟩:=NJ (w:=w) c y n p;obtain⟨m,r,h⟩:=NJ (w:=w) c d o q;unfold Op.eqFields;rw[if_pos v,Aa b,Aa r,Aa (g _ _ _ _ _ _ j l h)];cases t with
  |false=>cases s;rfl
  |true=>exact IH i u.2 s
theorem iR{a:Env}(b:Bt P a):∀(n:Nat)(t:TypeId)(x c:U)(d:Bool)(f g:Value),ez a n t x c=some d→VR μ x f→VR μ c g→∀h,n≤h→(Op.equalIn h t f g).run P w=.ok d w:=by
 intro n;induction n with
 |zero=>intro t x c d f g i;cases i
 |succ n j=>
  intro t x c d f g h0 k l h m;obtain⟨h,rfl⟩:∃o,h=o+1:=⟨h-1,by omega⟩;obtain⟨p,hi,i⟩:=Ah (show(wz none (λq=>Adu a (ez a n) q x c) (a.ty t):Option Bool)=some d from h0);clear h0;obtain⟨q,z,r⟩:=b.ty _ _ hi;have plain:∀x,(wg none (Iw x c) (DX p.desc x):Option Bool)=some d→VR μ x f→(Op.equalIn (h+1) t f g).run P w=.ok d w:=λx i k=>by obtain⟨s,i⟩:=AK i;exact lY r.HB s i k l h
  cases x
  case agg u=>
   clear plain;have i:(wz none (λv=>TJ a (ez a n) p u v) (RP c):Option Bool)=some d:=i;obtain⟨v,y,i⟩:=Ah i;cases c<;>simp only[RP] at y<;>cases y;obtain⟨o,rfl,q,a⟩:=k;obtain⟨u,rfl,v,y⟩:=l;unfold TJ at i;obtain⟨s,i⟩:=AK i;obtain⟨a0,a1,i⟩:=Ah i;obtain⟨a2,i⟩:=AK i;have a3:P.underlying t=some (.struct (P.fieldsOf t))∧(P.fieldsOf t).toList=a0:=by have:=r.HB;cases m:p.desc<;>rw[m] at a1<;>simp only[structOf] at a1<;>cases a1;rename_i p;rw[m] at this;simp[Program.fieldsOf,this]
   rw[run_equalIn_struct w h t o u a3.1 (r.plain s).1,a3.2];exact WN b (λt x c d f g i k l=>j t x c d f g i k l h (by omega)) q v a y a0 d a2 i
  all_goals (refine plain _ ?_ k;exact i)
end
end Go.Den
namespace Go.Den
open Go.RowKit
theorem Tp(k:IntKind)(m:Nat)(h:m≤intMax k):k.wrap (vJ m)=vJ m:=by have e:vJ m=(m:Int):=rfl;rw[e];cases k<;>simp[IntKind.wrap,IntKind.bits,IntKind.signed,intMax] at* <;>omega
theorem Hd(k:IntKind)(n:Int):wrap k n=k.wrap n:=by
 cases n with
 |ofNat m=>
  show(wg (k.wrap (.ofNat m)) (.ofNat m) (vU m (intMax k)):Int)=_;cases h:vU m (intMax k) with
  |false=>rfl
  |true=>exact(Tp k m (vX h)).symm
 |negSucc m=>rfl
theorem Tz(a b:Int):AW a b=a+b:=by cases a<;>cases b<;>rfl
theorem YH(a b:Int):EU a b=a-b:=by
 cases a with
 |negSucc a=>rfl
 |ofNat a=>cases b with
  |negSucc b=>rfl
  |ofNat b=>
   show(wg (.negSucc (vQ (vQ b a) 1)) (.ofNat (vQ a b)) (vU b a):Int)=_;have c:vJ a=(a:Int):=rfl;have d:vJ b=(b:Int):=rfl;cases f:vU b a with
   |true=>have:=vX f;show vJ (a-b)=_;have g:vJ (a-b)=((a-b:Nat):Int):=rfl;omega
   |false=>
    have:¬b≤a:=λh=>by rw[Nat.ble_eq_true_of_le h] at f;cases f
    show Int.negSucc (b-a-1)=_;have g:Int.negSucc (b-a-1)= -((b-a-1:Nat):Int)-1:=by rw[Int.negSucc_eq];omega
    omega
theorem Ge(a b:Int):Ba a b=decide (a<b):=by
 cases a with
 |ofNat a=>cases b with
  |ofNat b=>show vU (a+1) b=_;rw[HI,decide_eq_decide];have c:vJ a=(a:Int):=rfl;have d:vJ b=(b:Int):=rfl;omega
  |negSucc b=>symm;show decide _=false;simp;have c:vJ a=(a:Int):=rfl;omega
 |negSucc a=>cases b with
  |ofNat b=>symm;show decide _=true;simp;have c:vJ b=(b:Int):=rfl;omega
  |negSucc b=>show vU (b+1) a=_;rw[HI,decide_eq_decide];omega
theorem Gl(a b:Int):CJ a b=decide (a≤b):=by
 show(wg true false (Ba b a):Bool)=_;rw[Ge];by_cases h:b<a
 · rw[decide_eq_true h];symm;show decide _=false;simp;omega
 · rw[decide_eq_false h];symm;show decide _=true;simp;omega
theorem KU:∀(a b:List UInt8),enc (a++b)=enc a+2^(8*a.length)*enc b
 |[],b=>by simp[enc]
 |x::a,b=>by
  simp only[List.cons_append,enc,KU a b,List.length_cons];rw[show 8*(a.length+1)=8*a.length+8 from by omega,wF];have:2^(8*a.length)*2^8*enc b=256*(2^(8*a.length)*enc b):=by rw[wG (2^(8*a.length)) (2^8),Nat.mul_assoc]
  rw[this];omega
theorem GV:∀(a:List UInt8),EC a.length (enc a)=a.map (·.toNat)
 |[]=>rfl
 |x::a=>by
  have b:=x.toNat_lt;show vT (enc (x::a)) 256::EC a.length (vR (enc (x::a)) 256)=_;have c:vT (enc (x::a)) 256=x.toNat:=by show enc (x::a)%256=_;simp only[enc];omega
  have d:vR (enc (x::a)) 256=enc a:=by show enc (x::a) / 256=_;simp only[enc];omega
  rw[c,d,GV a];rfl
theorem KI:∀(a b:List UInt8),I8 (a.map (·.toNat)) (b.map (·.toNat))=Op.bytesLess a b
 |[],[]=>rfl
 |[],_::_=>rfl
 |x::a,[]=>by simp only[Op.bytesLess];rfl
 |x::a,c::b=>by
  show(wg (wg false (I8 (a.map (·.toNat)) (b.map (·.toNat))) (vS x.toNat c.toNat)) true (vU (vN x.toNat 1) c.toNat):Bool)=_;rw[KI a b,DY,show vN x.toNat 1=x.toNat+1 from rfl,HI];simp only[Op.bytesLess];by_cases d:x.toNat+1≤c.toNat
  · have f:x<c:=wD.2 (by omega);rw[decide_eq_true d];simp[f]
  · have f:¬x<c:=λg=>d (by have:=wD.1 g;omega);rw[decide_eq_false d];by_cases h:x.toNat=c.toNat
    · rw[decide_eq_true h];simp[wB.1 h]
    · have:¬x=c:=λg=>h (by rw[g]);rw[decide_eq_false h];simp[f,this]
theorem Dk.bytes{l c:Nat}{s:ByteArray}(h:Dk l c s):EC l c=s.toList.map (·.toNat):=by obtain⟨rfl,rfl⟩:=h;rw[ByteArray.toList_eq];exact GV s.data.toList
theorem Dk.append{l c m d:Nat}{s t:ByteArray}(h:Dk l c s)(k:Dk m d t):Dk (vN l m) (Nu l c d) (s++t):=by
 obtain⟨rfl,rfl⟩:=h;obtain⟨rfl,rfl⟩:=k;refine⟨by simp[ByteArray.size_append],?_⟩;have:(s++t).data.toList=s.data.toList++t.data.toList:=by simp
 rw[this,KU];show enc s.data.toList+(enc t.data.toList <<< (8*s.size))=_;rw[Nat.shiftLeft_eq,wG (enc t.data.toList)];rfl
end Go.Den
namespace Go.Den
open Go.RowKit
def isConst(o:Operand):Bool:=match o with
 |.const _=>true
 |_=>false
def isEq(op:BinOp):Bool:=match op with
 |.eql=>true
 |.neq=>true
 |_=>false
def O2(d:Option TypeDesc):Bool:=match d with
 |some (.interface _)=>true
 |_=>false
def TM(P:Program)(op:BinOp)(t:TypeId)(x y:Operand):Bool:=!isEq op||isConst x||isConst y||!O2 (P.underlying t)
theorem dE(k:IntKind):intMax k<2^k.bits:=by cases k<;>decide
theorem aB(k:IntKind):∃m,intMax k=2^m-1:=by
 cases k
 · exact⟨7,rfl⟩
 · exact⟨15,rfl⟩
 · exact⟨31,rfl⟩
 · exact⟨63,rfl⟩
 · exact⟨8,rfl⟩
 · exact⟨16,rfl⟩
 · exact⟨32,rfl⟩
 · exact⟨64,rfl⟩
theorem Nf(n a:Nat)(h:a<2^n):(BitVec.ofInt n (vJ a)).toNat=a:=by show(BitVec.ofInt n ((a:Nat):Int)).toNat=a;rw[BitVec.ofInt_natCast,BitVec.toNat_ofNat,wH h]
theorem Rp(b:IntKind){a c d:Nat}(f:Nat→Nat→Nat)(g:∀h,a<2^h→c<2^h→f a c<2^h)(i:a≤intMax b)(j:c≤intMax b)(k:d=f a c):b.wrap (d:Int)=vJ (f a c):=by subst k;obtain⟨h,l⟩:=aB b;have m:=Nat.two_pow_pos h;have:=g h (by omega) (by omega);exact Tp b _ (by omega)
section
variable{P:Program}{w:World}{μ:Mu}
theorem OU{op:BinOp}{b:IntKind}{a c:Int}{r:U}(d:S2 op b a c=some r):∃v,(Op.intBits op b a c).run P w=.ok v w∧VR μ r v:=by
 cases a with
 |negSucc=>cases d
 |ofNat a=>
  cases c with
  |negSucc=>cases d
  |ofNat c=>
   obtain⟨f,d⟩:=AK (show(wg none (Q8 op b a c) (An (vU a (intMax b)) (vU c (intMax b))):Option U)=some r from d);obtain⟨g,h⟩:=Ao f;have g:=Bq g;have h:=Bq h;have i:=dE b;have j:(BitVec.ofInt b.bits (vJ a)).toNat=a:=Nf b.bits a (by omega);have tb:(BitVec.ofInt b.bits (vJ c)).toNat=c:=Nf b.bits c (by omega);cases op<;>simp only[Q8] at d<;>cases d
   · refine⟨_,rfl,?_⟩;show Value.int b _=Value.int b _;rw[BitVec.toNat_and,j,tb];refine congrArg (Value.int b) ?_;exact Rp b Nat.land (λk l _=>Nat.lt_of_le_of_lt Nat.and_le_left l) g h rfl
   · refine⟨_,rfl,?_⟩;show Value.int b _=Value.int b _;rw[BitVec.toNat_or,j,tb];refine congrArg (Value.int b) ?_;exact Rp b Nat.lor (λk l m=>Nat.or_lt_two_pow l m) g h rfl
   · refine⟨_,rfl,?_⟩;show Value.int b _=Value.int b _;rw[BitVec.toNat_xor,j,tb];refine congrArg (Value.int b) ?_;exact Rp b Nat.xor (λk l m=>Nat.xor_lt_two_pow l m) g h rfl
theorem fo{op:BinOp}{t:TypeId}{b j:IntKind}{a c:Int}{r:U}(d:sameKind op b j=true)(f:Ni op b a c=some r):∃v,(binOp op t (.int b a) (.int j c)).run P w=.ok v w∧VR μ r v:=by
 cases op
 case shl=>
  cases c with
  |negSucc=>cases f
  |ofNat c=>cases f;refine⟨_,rfl,?_⟩;rw[Hd];rfl
 case shr=>
  cases c with
  |negSucc=>cases f
  |ofNat c=>cases f;exact⟨_,rfl,rfl⟩
 case andNot=>cases f
 all_goals
  obtain rfl:b=j:=by simpa[sameKind] using d
  simp only[binOp,ne_eq,not_true_eq_false,if_false]
 case add=>cases f;refine⟨_,rfl,?_⟩;rw[Hd,Tz];rfl
 case sub=>cases f;refine⟨_,rfl,?_⟩;rw[Hd,YH];rfl
 case mul=>cases f;refine⟨_,rfl,?_⟩;rw[Hd];rfl
 case quo=>
  obtain⟨h0,f⟩:=Ki (show(wg (US b (a.tdiv c)) none (AN c (.ofNat 0)):Option U)=some r from f);rw[Fi] at h0;have g:¬c=0:=by simpa using h0
  cases f;refine⟨.int b (b.wrap (a.tdiv c)),?_,by rw[Hd];rfl⟩;simp[Op.intDiv,g]
 case rem=>
  obtain⟨h0,f⟩:=Ki (show(wg (some (.int b (a.tmod c))) none (AN c (.ofNat 0)):Option U)=some r from f);rw[Fi] at h0;have g:¬c=0:=by simpa using h0
  cases f;refine⟨.int b (a.tmod c),?_,rfl⟩;simp[Op.intDiv,g]
 case and=>exact OU f
 case or=>exact OU f
 case xor=>exact OU f
 case eql=>cases f;exact⟨_,rfl,by rw[Fi];rfl⟩
 case neq=>cases f;exact⟨_,rfl,by rw[Fg,Fi];rfl⟩
 case lss=>cases f;exact⟨_,rfl,by rw[Ge];rfl⟩
 case leq=>cases f;exact⟨_,rfl,by rw[Gl];rfl⟩
 case gtr=>cases f;exact⟨_,rfl,by rw[Ge];rfl⟩
 case geq=>cases f;exact⟨_,rfl,by rw[Gl];rfl⟩
theorem dw{op:BinOp}{t:TypeId}{l a b c:Nat}{d f:ByteArray}{r:U}(g:Dk l a d)(h:Dk b c f)(i:Qw op l a b c=some r):
 ∃v,(binOp op t (.string d) (.string f)).run P w=.ok v w∧VR μ r v:=by
 have j:CL l a b c=(d.toList==f.toList):=by rw[g.eq h];simp only[CL,GC,DY]
 have k:I8 (EC l a) (EC b c)=Op.bytesLess d.toList f.toList:=by rw[g.bytes,h.bytes,KI]
 cases op<;>simp only[Qw] at i<;>try cases i
 case add=>
  obtain⟨m,i⟩:=AK i;cases i;have m:=Bq m;have n:=g.1;have o:=h.1;refine⟨.string (d++f),?_,_,rfl,g.append h⟩;have m:d.size+f.size≤9223372036854775807:=by rw[←n,←o];exact m
  show(Op.stringOp .add d f).run P w=_;exact run_string_add_sum w d f m
 case eql=>exact⟨_,rfl,by rw[j];rfl⟩
 case neq=>exact⟨_,rfl,by rw[j,Fg];rfl⟩
 case lss=>exact⟨_,rfl,by rw[k];rfl⟩
 case geq=>exact⟨_,rfl,by rw[k,Fg];rfl⟩
end
end Go.Den
namespace Go.Den
open Go.RowKit
section
variable{P:Program}{w:World}{μ:Mu}
theorem Aex{b:Env}(c:Bt P b){d:TypeDesc}{t:TypeId}{x f:U}{g h:Value}{i:Bool}(k:P.underlying t=some d)(m:bE b d x f=some i)
 (o:VR μ x g) (p:VR μ f h) (n:Nat):(Op.equalIn (n+1) t g h).run P w=.ok i w:=by
 cases d<;>simp only[bE] at m<;>try cases m
 case pointer e=>
  cases x<;>simp only at m<;>try cases m
  case Bn=>
   cases o;cases f<;>simp only[jf] at m<;>cases m
   · cases p;simp[Op.equalIn,run_underlying k]
   · obtain⟨l,_,rfl⟩:=p;simp[Op.equalIn,run_underlying k]
  case ptr a q=>
   obtain⟨l,r,rfl⟩:=o;cases f<;>simp only[uC] at m<;>try cases m
   case Bn=>cases p;simp[Op.equalIn,run_underlying k]
   case ptr s j=>obtain⟨u,y,rfl⟩:=p;obtain⟨b,m⟩:=AK m;obtain⟨g,h,m⟩:=Ah m;obtain⟨i,m⟩:=AK m;cases m;have:=Go.Den.P.beq_eq b;subst this;rw[r] at y;cases y;obtain⟨d,z,q⟩:=c.ty _ _ h;have s:(sizeOf e).run P w=.ok g.size w:=q.rsize;have i:=Bq i;simp only[Op.equalIn,Sem.run_bind,run_underlying k,Result.andThen_ok,s];rw[if_pos (by omega)];simp only[sameAddr,beq_self_eq_true,if_true];show Result.ok _ w=_;rw[DY];congr 1;rw[wN];simp
 case interface u=>
  cases x<;>simp only at m<;>try cases m
  case FC=>
   cases o;cases f<;>simp only[Wr] at m<;>cases m
   · obtain⟨v,rfl,_⟩:=p;simp[Op.equalIn,run_underlying k]
   · cases p;simp[Op.equalIn,run_underlying k]
  case iface b v=>
   obtain⟨v,rfl,_⟩:=o;cases f<;>simp only at m<;>try cases m
   cases p;simp[Op.equalIn,run_underlying k]
 case slice e=>
  cases x<;>simp only at m<;>try cases m
  case Af=>
   cases o;cases f<;>simp only[fG] at m<;>cases m
   · cases p;simp[Op.equalIn,run_underlying k]
   · obtain⟨a,r,rfl,_⟩:=p;simp[Op.equalIn,run_underlying k]
  case slice=>
   obtain⟨a,r,rfl,_⟩:=o;cases f<;>simp only at m<;>try cases m
   cases p;simp[Op.equalIn,run_underlying k]
 case map e=>
  cases x<;>simp only at m<;>try cases m
  case GH=>
   cases o;cases f<;>simp only[gf] at m<;>cases m
   · cases p;simp[Op.equalIn,run_underlying k]
   · obtain⟨l,_,rfl⟩:=p;simp[Op.equalIn,run_underlying k]
  case map=>
   obtain⟨l,_,rfl⟩:=o;cases f<;>simp only at m<;>try cases m
   cases p;simp[Op.equalIn,run_underlying k]
 case func=>
  cases x<;>simp only at m<;>try cases m
  case IK=>
   cases o;cases f<;>simp only[iT] at m<;>cases m
   · obtain⟨_,_,_,rfl,_⟩:=p;simp[Op.equalIn,run_underlying k]
   · cases p;simp[Op.equalIn,run_underlying k]
  case func=>
   obtain⟨_,_,_,rfl,_⟩:=o;cases f<;>simp only at m<;>try cases m
   cases p;simp[Op.equalIn,run_underlying k]
theorem iJ{a:Env}(b:Bt P a){t:TypeId}{x c:U}{d f:Value}{g:Bool}(h:dz a t x c=some g)(i:VR μ x d)(j:VR μ c f):(Op.equal t d f).run P w=.ok g w:=by
 have k:∀x,(wz none (λl=>bE a l.desc x c) (a.ty t):Option Bool)=some g→VR μ x d→(Op.equal t d f).run P w=.ok g w:=λx h i=>by obtain⟨m,hi,h⟩:=Ah h;obtain⟨l,z,n⟩:=b.ty _ _ hi;exact Aex b n.HB h i j 9999
 cases x
 case bool=>exact iR b 5 _ _ _ _ _ _ h i j 10000 (by decide)
 case agg=>exact iR b 5 _ _ _ _ _ _ h i j 10000 (by decide)
 all_goals (refine k _ ?_ i;exact h)
theorem Ru{a:Env}{t:TypeId}{b:U}{c:Bool}(d:dz a t .top b=some c):False:=by obtain⟨f,_,d⟩:=Ah (show(wz none (λg=>bE a g.desc .top b) (a.ty t):Option Bool)=some c from d);cases h:f.desc<;>rw[h] at d<;>simp only[bE] at d<;>cases d
def TF(v:Value):Prop:=match v with
 |.int _ _=>False
 |.float _ _=>False
 |.complex _ _ _=>False
 |.string _=>False
 |_=>True
theorem binOp_eql{t:TypeId}{x y:Value}(h:TF x):binOp .eql t x y=(do pure (.bool (←Op.equal t x y))):=by cases x<;>first|exact h.elim|(cases y<;>rfl)
theorem binOp_neq{t:TypeId}{x y:Value}(h:TF x):binOp .neq t x y=(do pure (.bool (!(←Op.equal t x y)))):=by cases x<;>first|exact h.elim|(cases y<;>rfl)
theorem UO{a:Env}(b:Bt P a){op:BinOp}{t:TypeId}{c d:Operand}{x f:U}{g h:Value}{i:Bool}(j:TM P op t c d=true)(k:isEq op=true)(l:dz a t x f=some i)(m:VR μ x g)(n:VR μ f h):
 (eqGuard op t c d g h).run P w=.ok () w:=by
 cases x
 case FC=>
  cases m;obtain⟨o,hi,l⟩:=Ah (show(wz none (λp=>bE a p.desc .FC f) (a.ty t):Option Bool)=some i from l);obtain⟨p,z,q⟩:=b.ty _ _ hi;cases r:o.desc<;>rw[r] at l<;>simp only[bE] at l<;>try cases l
  cases f<;>simp only[Wr] at l<;>cases l
  · obtain⟨v,rfl,_⟩:=n;rw[eqGuard_nil_iface];rfl
  · cases n;have s:=q.HB;rw[r] at s;simp only[TM,k,s,O2] at j;cases c with
    |const u=>rw[eqGuard_nil_constL];rfl
    |_=>
     cases d with
     |const u=>rw[eqGuard_nil_constR];rfl
     |_=>simp[isConst] at j
 case agg y=>obtain⟨g,rfl,_⟩:=m;obtain⟨o,hi,l⟩:=Ah (show(wz none (λp=>Adu a (ez a 4) p (.agg y) f) (a.ty t):Option Bool)=some i from l);obtain⟨p,z,q⟩:=b.ty _ _ hi;obtain⟨h,r,k⟩:=Ah (show(wz none (λh=>TJ a (ez a 4) o y h) (RP f):Option Bool)=some i from l);clear l;cases f<;>simp only[RP] at r<;>cases r;obtain⟨s,rfl,_⟩:=n;unfold TJ at k;obtain⟨u,_⟩:=AK k;exact run_eqGuard_agg w op t c d g s (q.plain u).2
 case bool=>cases m;rw[eqGuard_at_bool];rfl
 case int=>cases m;rw[eqGuard_at_int];rfl
 case str=>obtain⟨_,rfl,_⟩:=m;rw[eqGuard_at_string];rfl
 case Bn=>cases m;rw[eqGuard_at_pointer];rfl
 case ptr=>obtain⟨_,_,rfl⟩:=m;rw[eqGuard_at_pointer];rfl
 case Af=>cases m;rw[eqGuard_at_slice];rfl
 case slice=>obtain⟨_,_,rfl,_⟩:=m;rw[eqGuard_at_slice];rfl
 case GH=>cases m;rw[eqGuard_at_map];rfl
 case map=>obtain⟨_,_,rfl⟩:=m;rw[eqGuard_at_map];rfl
 case IK=>cases m;rw[eqGuard_at_nilFunc];rfl
 case func=>obtain⟨_,_,_,rfl,_⟩:=m;rw[eqGuard_at_func];rfl
 case iface=>obtain⟨_,rfl,_⟩:=m;rw[eqGuard_at_iface];rfl
 case tuple=>obtain⟨_,rfl,_⟩:=m;rw[eqGuard_at_tuple];rfl
 case top=>exact(Ru l).elim
theorem Abw{b:Env}(c:Bt P b){op:BinOp}{t:TypeId}{ox oy:Operand}{x d:U}{f g:Value}{r:U}(h:TM P op t ox oy=true)(i:Dh b op t x d=some r)(j:VR μ x f)(k:VR μ d g):
 ∃v,(do eqGuard op t ox oy f g;binOp op t f g:Sem Value).run P w=.ok v w∧VR μ r v:=by
 have m:∀x,Ji b op t x d=some r→VR μ x f→TF f→∃v,(do eqGuard op t ox oy f g;binOp op t f g:Sem Value).run P w=.ok v w∧VR μ r v:=λx i j n=>by
  cases op<;>simp only[Ji] at i<;>try cases i
  case eql=>obtain⟨o,p,i⟩:=Ah i;cases i;refine⟨_,?_,rfl⟩;rw[Aa (UO c h rfl p j k),binOp_eql n,Aa (iJ c p j k)];rfl
  case neq=>obtain⟨o,p,i⟩:=Ah i;cases i;refine⟨_,?_,by rw[Fg];rfl⟩;rw[Aa (UO c h rfl p j k),binOp_neq n,Aa (iJ c p j k)];rfl
 cases x
 case int q a=>
  cases j;have i:SH op q a d=some r:=i;cases d<;>simp only[SH] at i<;>try cases i
  cases k;obtain⟨s,i⟩:=AK i;obtain⟨v,u,y⟩:=fo (t:=t) s i;refine⟨v,?_,y⟩;rw[eqGuard_at_int];exact u
 case str l f=>
  obtain⟨g,rfl,c⟩:=j;have i:TL op l f d=some r:=i;cases d<;>simp only[TL] at i<;>try cases i
  obtain⟨h,rfl,n⟩:=k;obtain⟨v,u,y⟩:=dw (t:=t) c n i;refine⟨v,?_,y⟩;rw[eqGuard_at_string];exact u
 case bool=>refine m _ i j ?_;cases j;trivial
 case Bn=>refine m _ i j ?_;cases j;trivial
 case Af=>refine m _ i j ?_;cases j;trivial
 case GH=>refine m _ i j ?_;cases j;trivial
 case IK=>refine m _ i j ?_;cases j;trivial
 case FC=>refine m _ i j ?_;cases j;trivial
 case ptr=>refine m _ i j ?_;obtain⟨_,_,rfl⟩:=j;trivial
 case slice=>refine m _ i j ?_;obtain⟨_,_,rfl,_⟩:=j;trivial
 case map=>refine m _ i j ?_;obtain⟨_,_,rfl⟩:=j;trivial
 case func=>refine m _ i j ?_;obtain⟨_,_,_,rfl,_⟩:=j;trivial
 case iface=>refine m _ i j ?_;obtain⟨_,rfl,_⟩:=j;trivial
 case agg=>refine m _ i j ?_;obtain⟨_,rfl,_⟩:=j;trivial
 case tuple=>refine m _ i j ?_;obtain⟨_,rfl,_⟩:=j;trivial
 case top=>
  have i:Ji b op t .top d=some r:=i;cases op<;>simp only[Ji] at i<;>try cases i
  case eql=>obtain⟨o,p,_⟩:=Ah i;exact(Ru p).elim
  case neq=>obtain⟨o,p,_⟩:=Ah i;exact(Ru p).elim
theorem jY{a:Env}(b:Bt P a){op:BinOp}{t:TypeId}{ox oy:Operand}(c:S0 a op t ox oy=false):TM P op t ox oy=true:=by
 unfold S0 at c;have d:Aaz op=isEq op:=by cases op<;>rfl
 have f:∀x,cA x=isConst x:=λx=>by cases x<;>rfl
 rw[d,f,f,GC,GC,GC,Fg,Fg] at c;unfold TM;cases g:isEq op
 · rfl
 cases h:isConst ox
 · cases i:isConst oy
   · rw[g,h,i] at c;have c:(wz true (λj=>Xt j.desc) (a.ty t):Bool)=false:=c;cases hi:a.ty t with
     |none=>rw[hi] at c;cases c
     |some k=>rw[hi] at c;have c:Xt k.desc=false:=c;obtain⟨j,z,l⟩:=b.ty _ _ hi;have m:=l.HB;rw[m];show(false||false||false||!O2 (some k.desc))=true;cases n:k.desc<;>first|rfl|(rw[n] at c;cases c)
   · simp
 · simp
theorem jx{t:TypeId}{b:Array (String×TypeId)}(c:P.underlying t=some (.interface b)){op:BinOp}{d f:Operand}{x g:U}{h i:Value}{j:Bool}(k:ad x g=some j)(l:VR μ x h)(m:VR μ g i)(n:Nat):
 (eqGuard op t d f h i).run P w=.ok () w∧(Op.equalIn (n+1) t h i).run P w=.ok j w∧TF h:=by
 cases x<;>simp only[ad] at k<;>try cases k
 case FC=>cases l;cases g<;>simp only at k<;>cases k;obtain⟨v,rfl,_⟩:=m;refine⟨by rw[eqGuard_nil_iface];rfl,?_,trivial⟩;simp[Op.equalIn,run_underlying c]
 case iface o a=>
  obtain⟨v,rfl,_⟩:=l;refine⟨by rw[eqGuard_at_iface];rfl,?_,trivial⟩;cases g<;>simp only at k<;>try cases k
  case FC=>cases m;simp[Op.equalIn,run_underlying c]
  case iface ty p=>
   obtain⟨q,rfl,_⟩:=m;have r:o≠ty:=λe=>by subst e;rw[Nat.beq_refl] at k;cases k
   have s:vS o ty=false:=by rw[DY];exact decide_eq_false r
   rw[s] at k;cases k;simp[Op.equalIn,run_underlying c,r]
theorem ZK{t:TypeId}{a:Array (String×TypeId)}(b:P.underlying t=some (.interface a)){op:BinOp}{ox oy:Operand}{x c:U}{d f:Value}{g:Bool}(h:ad x c=some g)(i:VR μ x d)(j:VR μ c f):
 (eqGuard op t ox oy d f).run P w=.ok () w∧(Op.equal t d f).run P w=.ok g w∧TF d:=jx b h i j 9999
theorem qm{a:Env}(b:Bt P a){op:BinOp}{t:TypeId}{ox oy:Operand}{x c:U}{d f:Value}{r:U}(g:Ps a op t ox oy x c=some r)(h:VR μ x d)(i:VR μ c f):
 ∃v,(do eqGuard op t ox oy d f;binOp op t d f:Sem Value).run P w=.ok v w∧VR μ r v:=by
 unfold Ps at g;cases j:S0 a op t ox oy with
 |false=>rw[j] at g;exact Abw b (jY b j) g h i
 |true=>
  rw[j] at g;have g:Re a op t x c=some r:=g;unfold Re at g;obtain⟨k,hi,g⟩:=Ah g;obtain⟨l,g⟩:=AK g;obtain⟨m,z,n⟩:=b.ty _ _ hi;have o:=n.HB;obtain⟨p,q⟩:∃p,k.desc=.interface p:=by cases s:k.desc<;>rw[s] at l<;>first|exact⟨_,rfl⟩|cases l
  rw[q] at o;cases op<;>simp only at g<;>try cases g
  case eql=>obtain⟨u,y,g⟩:=Ah g;cases g;obtain⟨d,f,g3⟩:=ZK (w:=w) (op:=.eql) (ox:=ox) (oy:=oy) o y h i;refine⟨_,?_,rfl⟩;rw[Aa d,binOp_eql g3,Aa f];rfl
  case neq=>obtain⟨u,y,g⟩:=Ah g;cases g;obtain⟨d,f,g3⟩:=ZK (w:=w) (op:=.neq) (ox:=ox) (oy:=oy) o y h i;refine⟨_,?_,by rw[Fg];rfl⟩;rw[Aa d,binOp_neq g3,Aa f];rfl
theorem Ago{op:UnOp}{x:U}{a:Value}{r:U}(b:Z7 op x=some r)(c:VR μ x a):∃v,(Op.unary op a).run P w=.ok v w∧VR μ r v:=by
 cases op<;>cases x<;>simp only[Z7] at b<;>cases b<;>cases c
 · exact⟨_,rfl,rfl⟩
 · exact⟨_,rfl,rfl⟩
 · exact⟨_,rfl,rfl⟩
end
end Go.Den
namespace Go.Den
open Go.RowKit
section
variable{T:Type}{P:Program}{w:World}{μ:Mu}{h:Hp T}
theorem DW(w:World)(o:Obj):(w.alloc o).heap[w.heap.size]? =some o:=by simp[World.alloc,-World.alloc_eq]
theorem Bc.newRow(s:Bc μ h w)(e:TypeId)(t:Tm)(n:Nat)(a:Bool)(b:Array Value)(c:∀d,Mu.le μ d→Cf d (AD t) n ⟨w.heap.size,0,b.size⟩ b)(f:a=true→n=b.size):
 ∃d,Bc d (h.new (.row t n 0 e a)) (w.alloc (.cells b e))∧BF μ h w d (h.new (.row t n 0 e a)) (w.alloc (.cells b e))∧d h.next=some ⟨w.heap.size,0,b.size⟩:=by
 obtain⟨g,i⟩:=s.alloc (.row t n 0 e a) (.cells b e) b.size 0 λd j=>
  ⟨b,(0,0),by rw[DW],c d j,λe=>⟨rfl,f e⟩,λ_ k _ _=>by simp⟩
 exact⟨_,g,i,Mu.BD _ _ _⟩
theorem Bc.kK(a:Bc μ h w)(e:TypeId){b:List U}{c:Array Value}(d:BN μ b c.toList)(f:b.all U.one=true):
 ∃g,Bc g (h.newRow e b) (w.alloc (.cells c e))∧BF μ h w g (h.newRow e b) (w.alloc (.cells c e))∧g h.next=some ⟨w.heap.size,0,c.size⟩:=by
 have i:=d.length;have:=a.newRow e (Ai b 0 .e) (len b) true c (λg j=>by have:=Cf.new (d.mono j) f w.heap.size;rw[BU];simpa using this) (λ_=>by rw[BU];simpa using i.symm);exact this
def Gp(P:Program)(μ:Mu)(a:Sem Value)(b:Go.Den.P→U)(c:Ob T):Prop:=
 ∀w,∃v d sz,a.run P w=.ok v (w.alloc d)∧∀f,Mu.le μ f→Ke f (w.alloc d) ⟨w.heap.size,0,sz⟩ c∧∀p,f p=some ⟨w.heap.size,0,sz⟩→VR f (b p) v
theorem Gp.PD{a:Sem Value}{b:Go.Den.P→U}{c:Ob T}(f:Gp P μ a b c)(d:Bc μ h w):CM P μ h w a (b h.next) (h.new c):=by obtain⟨v,g,sz,i,j⟩:=f w;obtain⟨k,l⟩:=d.alloc c g sz 0 λm n=>(j m n).1;exact⟨v,_,_,i,k,l,(j _ l.le).2 _ (Mu.BD _ _ _)⟩
theorem Gp.row{a:Sem Value}{b:Go.Den.P→U}{e:TypeId}{t:Tm}{n:Nat}{c:Bool}{vs:Array Value}(d:∀g f,Mu.le μ f→Cf f (AD t) n ⟨g,0,vs.size⟩ vs)(h:c=true→n=vs.size)(v:Nat→Value)
 (j:∀g f p,f p=some ⟨g,0,vs.size⟩→VR f (b p) (v g)) (k:∀w,a.run P w=.ok (v w.heap.size) (w.alloc (.cells vs e))):Gp (T:=T) P μ a b (.row t n 0 e c):=λw=>
 ⟨_,_,vs.size,k w,λf l=>⟨⟨vs,(0,0),by rw[DW],d _ f l,λe=>⟨rfl,h e⟩,λ_ i _ _=>by simp⟩,λp m=>j _ _ _ m⟩⟩
theorem Kz{a:Env}(b:Bt P a){e:TypeId}{c:TI}(hi:a.ty e=some c)(μ:Mu):Gp (T:=T) P μ (Instr.alloc e true (.tuple #[])) (λp=>.ptr p 0) (rowOf e c.zero):=by
 obtain⟨d,z,f⟩:=b.ty _ _ hi;refine Gp.row (vs:=z.cells) (λg h i=>?_) (λ_=>?_) (λg=>.pointer (some ⟨g,0,none⟩)) (λg h p j=>⟨_,j,rfl⟩) λw=>?_
 · have:=Cf.new ((f.cells μ).mono i) f.Mr g;rw[BU];simpa using this
 · rw[BU];simpa using(f.cells μ).length.symm
 · unfold Instr.alloc;rw[Aa f.JB];rfl
theorem Zt{a:Env}(b:Bt P a)(c:Bc μ h w){e:TypeId}{r:U×Hp T}(d:Nh e (a.ty e) h=some r):CM P μ h w (Instr.alloc e true (.tuple #[])) r.1 r.2:=by obtain⟨f,hi,d⟩:=Ah d;cases d;exact(Kz b hi μ).PD c
theorem Akf(b:Bc μ h w)(e:TypeId){a:U}{v:Value}(c:VR μ a v)(d:vU 1 (len a.cells)=true):CM P μ h w (Instr.box e v) (.ptr h.next 0) (h.new (rowOf e a.cells)):=by
 have d:=Bq d;rw[BU] at d;have f:a.cells≠[]:=λe=>by rw[e] at d;simp at d
 obtain⟨g,i⟩:=c.cells f;obtain⟨j,k,l,m⟩:=b.kK e g i;refine⟨.pointer (some ⟨w.heap.size,0,none⟩),_,j,rfl,k,l,?_⟩;exact⟨_,m,rfl⟩
theorem cz(e:TypeId){a:U}{v:Value}(b:VR μ a v)(c:vU 1 (len a.cells)=true):Gp (T:=T) P μ (Instr.box e v) (λp=>.ptr p 0) (rowOf e a.cells):=by
 have c:=Bq c;rw[BU] at c;have d:a.cells≠[]:=λe=>by rw[e] at c;simp at c
 obtain⟨f,g⟩:=b.cells d;refine Gp.row (vs:=v.cells) (λh i j=>?_) (λ_=>?_) (λh=>.pointer (some ⟨h,0,none⟩)) (λh i p k=>⟨_,k,rfl⟩) λw=>rfl
 · have:=Cf.new (f.mono j) g h;rw[BU];simpa using this
 · rw[BU];simpa using f.length.symm
theorem LH{v:Value}{b o:Nat}(h:v=.pointer (some ⟨b,o,none⟩)):(Instr.sureAddr v).run P w=.ok ⟨b,o,none⟩ w:=by subst h;rfl
variable{α:Type}{good:α→Prop}
theorem TS{C:Cx α}{h:Hp C.I.T}(b:Bt P C.E)(c:¬good C.bad)(d:Bc μ h w){f:K α C.I.T}{g:Go.Den.P}{i:Nat}{t:TypeId}{j:TI}(hi:C.E.ty t=some j)(k:good (JS C h f g i j)){v:Value}(m:VR μ (.ptr g i) v):
 ∃a n,(Instr.loadAt t v).run P w=.ok n w∧VR μ a n∧good (f a h):=by
 obtain⟨o,z,ty⟩:=b.ty _ _ hi;obtain⟨l,p,rfl⟩:=m;unfold Instr.loadAt;unfold JS at k;cases q:j.agg with
 |true=>rw[q] at k;have k:good (h.ES g i j.size C.bad (λl=>f (.agg l) h)):=k;obtain⟨r,cs,e,s,u,x,y,_,n,m,o,b,k⟩:=d.read c p k;rw[p] at x;cases x;have b:VR μ (.agg u) (.agg (cs.extract (l.off+i) (l.off+i+j.size))):=⟨_,rfl,m,o⟩;refine⟨_,_,?_,b,k⟩;rw[Aa (LH rfl)];unfold loadVar;rw[Aa ty.Aem,q];simp only[if_true];rw[Aa ty.rsize,Aa (run_loadCells y _ n)];rfl
 |false=>rw[q] at k;have k:good (h.EP g i C.bad (λv=>f v h)):=k;obtain⟨r,v,a,x,s,m,o,k⟩:=d.E4 c p k;rw[p] at x;cases x;refine⟨a,v,?_,m,k⟩;rw[Aa (LH rfl)];unfold loadVar;rw[Aa ty.Aem,q];simp only[wO,if_false];exact KY s
theorem cg{b:Cx α}{h:Hp b.I.T}(c:Bt P b.E)(d:¬good b.bad)(f:Bc μ h w){g:K α b.I.T}{i:Go.Den.P}{j:Nat}{t:TypeId}{k:TI}(hi:b.E.ty t=some k){a:U}(m:good (HE b h g i j a k)){v x:Value}(n:VR μ (.ptr i j) v)(o:VR μ a x):
 ∃p q,(Instr.storeAt t v x).run P w=.ok () p∧Bc μ q p∧BF μ h w μ q p∧good (g .undef q):=by
 obtain⟨r,z,ty⟩:=c.ty _ _ hi;obtain⟨l,s,rfl⟩:=n;unfold Instr.storeAt;unfold HE at m;obtain⟨u,m⟩:=Mj d m;obtain⟨y,b⟩:=Ao u;have y:=Bh y;have b:=Bq b;rw[BU] at y;have i:a.cells≠[]:=λe=>by rw[e] at y;simp at y;omega
 obtain⟨j,k⟩:=o.cells i;obtain⟨g,p,q,r,c,n,u,m⟩:=f.write (Pr:=P) d s m j k;rw[s] at r;cases r;refine⟨p,q,?_,n,u,m⟩;rw[Aa (LH rfl)];unfold storeVar;rw[Aa ty.rsize];have:=j.length;simp only[Array.length_toList] at this;rw[if_neg (by omega)];exact c
theorem I4{fs:List Field}{a:Nat}{p:Nat×TypeId}(h:HU fs a=some p):∃f,fs[a]? =some f∧p=(f.offset,f.type):=by obtain⟨f,b,h⟩:=Ah h;rw[CU] at b;cases h;exact⟨f,b,rfl⟩
theorem Yk{a:Env}(b:Bt P a){t:TypeId}{c o:Nat}(d:LJ a t c=some o){g:Go.Den.P}{h:Nat}{v:Value}(i:VR μ (.ptr g h) v):
 ∃j,(Instr.fieldAt t v c).run P w=.ok j w∧VR μ (.ptr g (vN h o)) j:=by
 obtain⟨l,k,rfl⟩:=i;obtain⟨m,n,d⟩:=Ah d;obtain⟨_,z,ty⟩:=b.ty _ _ n;have q:=ty.Pm (P:=P) (w:=w);cases r:m.desc<;>rw[r] at d<;>simp only at d<;>try cases d
 rename_i s;obtain⟨p,u,d⟩:=Ah d;obtain⟨x,y,d⟩:=Ah d;obtain⟨a,d⟩:=AK d;cases d;obtain⟨f,g,rfl⟩:=I4 u;obtain⟨_,_,j⟩:=b.ty _ _ y;have a:=Bq a;refine⟨.pointer (some ⟨l.blk,l.off+h+f.offset,none⟩),?_,l,k,by rw[show vN h f.offset=h+f.offset from rfl,wI]⟩;unfold Instr.fieldAt;rw[Aa q,r];have g:s[c]? =some f:=by rw[←Array.getElem?_toList];exact g
 simp only[g];rw[Aa (LH rfl)];unfold fieldPlace;have:(if x.size=0 then partAt ⟨l.blk,l.off+h,none⟩ f.offset f.byteOffset else pure ((⟨l.blk,l.off+h,none⟩:Addr).add f.offset):Sem Addr)=pure ⟨l.blk,l.off+h+f.offset,none⟩:=by rw[if_neg (by omega),E1]
 simp only[Sem.run_bind,j.rsize,Result.andThen_ok,this];rfl
theorem FP{a:U}{n:Nat}(h:Bf a=some n){v:Value}(b:VR μ a v):∃c,v=.int c (n:Int):=by
 cases a<;>simp only[Bf] at h<;>try cases h
 rename_i c d;cases d<;>simp only at h<;>cases h;cases b;exact⟨c,rfl⟩
theorem Kb{a:Env}(b:Bt P a){t:TypeId}{p:Nat×TypeId}(h:TQ a t=some p):P.underlying t=some (.array p.1 p.2):=by
 obtain⟨c,d,h⟩:=Ah h;obtain⟨_,z,ty⟩:=b.ty _ _ d;have f:=ty.HB;cases g:c.desc<;>rw[g] at h<;>simp only at h<;>try cases h
 rw[f,g]
theorem GX{a:Env}(b:Bt P a){t:TypeId}{k:TypeId→TI→Option (U×Hp T)}{r:U×Hp T}(h:AE a t k=some r):
 ∃e c,P.underlying t=some (.slice e)∧a.ty e=some c∧k e c=some r:=by
 obtain⟨e,d,h⟩:=Ah h;obtain⟨c,hi,h⟩:=Ah h;obtain⟨f,g,d⟩:=Ah d;obtain⟨_,z,ty⟩:=b.ty _ _ g;have i:=ty.HB;cases j:f.desc<;>rw[j] at d<;>simp only at d<;>cases d;exact⟨e,c,by rw[i,j],hi,h⟩
theorem Lu{a:Env}(b:Bt P a){t:TypeId}{c:TypeId→TI→Option (U×Hp T)}{r:U×Hp T}(h:AE a t c=some r):
 ∃e d,P.underlying t=some (.slice e)∧a.ty e=some d∧c e d=some r∧∀f:TypeId→TI→Option (U×Hp T),AE a t f=f e d:=by
 obtain⟨e,g,h⟩:=Ah h;obtain⟨d,hi,h⟩:=Ah h;have i:∀f:TypeId→TI→Option (U×Hp T),AE a t f=f e d:=λf=>by unfold AE;rw[g];show(wz none (λj=>f e j) (a.ty e):Option (U×Hp T))=_;rw[hi]
 obtain⟨j,k,g⟩:=Ah g;obtain⟨_,z,ty⟩:=b.ty _ _ k;have l:=ty.HB;cases m:j.desc<;>rw[m] at g<;>simp only at g<;>cases g;exact⟨e,d,by rw[l,m],hi,h,i⟩
theorem Y0{b:Env}(c:Bt P b)(d:Bc μ h w){t:TypeId}{x f:U}{r:U×Hp T}(g:Ef b t x (Bf f) h=some r){i j:Value}(k:VR μ x i)(m:VR μ f j):
 CM P μ h w (Instr.indexAt t i j) r.1 r.2:=by
 obtain⟨o,hi,g⟩:=Ah g;obtain⟨q,rfl⟩:=FP hi m;cases x with
 |slice s u n sz v=>obtain⟨e,y,b,f,g⟩:=GX c g;obtain⟨_,_,i⟩:=c.ty _ _ f;obtain⟨j,g⟩:=AK g;obtain⟨q,m⟩:=Ao j;have q:o+1≤n:=Bq q;have m:y.size=sz:=Bh m;cases g;obtain⟨a,v,rfl,j,_,a0⟩:=k;obtain⟨l,j,rfl,v⟩:=a0.resolve_left (by omega);refine .here d ?_ ⟨l,j,rfl⟩;unfold Instr.indexAt;simp only[Sem.run_bind,asIntOf,Sem.run_pure,Result.andThen_ok,AZ b];rw[if_pos (by constructor<;>omega)];simp only[Sem.run_bind,i.rsize,Result.andThen_ok,Sem.run_pure,wQ,E1,m];rw[show vN u (vO o sz)=u+o*sz from rfl,wI]
 |ptr s u=>obtain⟨p,v,g⟩:=Ah g;obtain⟨q,g⟩:=AK g;obtain⟨y,f,g⟩:=Ah g;cases g;obtain⟨_,_,i⟩:=c.ty _ _ f;have q:o+1≤p.1:=Bq q;have b:=Kb c v;obtain⟨l,a0,rfl⟩:=k;refine .here d ?_ ⟨l,a0,rfl⟩;unfold Instr.indexAt;simp only[Sem.run_bind,asIntOf,Sem.run_pure,Result.andThen_ok,AZ b,Instr.sureAddr];rw[if_pos (by constructor<;>omega)];simp only[Sem.run_bind,i.rsize,Result.andThen_ok,Sem.run_pure,wQ,E1];rw[show vN u (vO o y.size)=u+o*y.size from rfl,wI]
 |_=>cases g
end
end Go.Den
namespace Go.Den
open Go.RowKit
theorem TU(l:List Value):∀(a b:Nat)(cs:Array Value),(l.zipIdx a).foldl (λcs (p:Value×Nat)=>cs.setIfInBounds (b+p.2) p.1) cs=splice cs (b+a) l:=by
 induction l with
 |nil=>intro a b cs;rfl
 |cons v l c=>intro a b cs;rw[List.zipIdx_cons,wS,c,splice,wI]
inductive ER (μ:Mu):List (Nat×U)→List (Nat×Value)→Prop
 |nil:ER μ [] []
 |cons {i:Nat} {a:U} {v:Value} {ps:List (Nat×U)} {vs:List (Nat×Value)}:VR μ a v→ER μ ps vs→ER μ ((i,a)::ps) ((i,v)::vs)
section
variable{T:Type}{P:Program}{w:World}{μ:Mu}{h:Hp T}
theorem Zp{place pl:Nat→Option (Nat×Nat)}(y:∀g q,place g=some q→pl g=some q){b:Nat}{i:List (Nat×U)}{vs:List (Nat×Value)}(p:ER μ i vs):
 ∀(t:Tm)(cs:Array Value)(d:Tm),Cf μ (AD t) b ⟨0,0,cs.size⟩ cs→cs.size=b→Pf place b i t=some d→∃c,Instr.fill pl cs vs=some c∧Cf μ (AD d) b ⟨0,0,c.size⟩ c∧c.size=b:=by
 induction p with
 |nil=>intro t cs d l m h;cases h;exact⟨cs,rfl,l,m⟩
 |@cons g a v i vs a3 p a4=>
  intro t cs d l m h;have h:(wz none (λq=>wg none (Pf place b i (Ai a.cells q.1 t)) (An (An (vS (len a.cells) q.2) (vU 1 q.2)) (vU (vN q.1 (len a.cells)) b))) (place g):Option Tm)=some d:=h;obtain⟨q,a0,h⟩:=Ah h;obtain⟨k,h⟩:=AK h;obtain⟨k,j⟩:=Ao k;obtain⟨f,n⟩:=Ao k;have f:=Bh f;have n:=Bq n;have j:q.1+len a.cells≤b:=Bq j;rw[BU] at f j;have w:a.cells≠[]:=λe=>by rw[e] at f;simp at f;omega
  obtain⟨o,x⟩:=a3.cells w;have u:=o.length;simp only[Array.length_toList] at u;have a2:=l.store q.1 o x (by omega);obtain⟨c,s,r,a1⟩:=a4 (Ai a.cells q.1 t) (splice cs (0+q.1) v.cells.toList) d (by simpa using a2) (by simpa using m) h;refine⟨c,?_,r,a1⟩;obtain⟨a5,a6⟩:=q;unfold Instr.fill;rw[y _ _ a0];simp only;rw[if_neg (by simp at *;omega)];rw[←s];congr 1;rw[←Array.foldl_toList,Array.toList_zipIdx];have:=TU v.cells.toList 0 a5 cs;simp only[wJ] at*;exact this
theorem Cf.all{c:Nat→U}{a:Nat}{cs:Array Value}(r:Cf μ c a ⟨0,0,cs.size⟩ cs)(b:cs.size=a):BN μ (BY c a 0) cs.toList∧(BY c a 0).all U.one=true:=by have d:=r.extract 0 a (by omega);have f:=r.Mr 0 a (by omega);simp only[wJ] at d;rw[show cs.extract 0 a=cs from by rw[←b];simp] at d;exact⟨d,f⟩
theorem run_places{fs:List Field}(h:∀f∈fs,∃a,P.info? f.type=some a):(fs.mapM λf=>do pure (f.offset,←sizeOf f.type):Sem (List (Nat×Nat))).run P w=.ok (fs.map λf=>(f.offset,P.cellsOf f.type)) w:=by
 induction fs with
 |nil=>rfl
 |cons f fs b=>
  obtain⟨a,c⟩:=h f (by simp);have d:(sizeOf f.type).run P w=.ok (P.cellsOf f.type) w:=by unfold sizeOf;rw[Aa (FZ c)];simp[Program.cellsOf,c]
  have b:=b λg i=>h g (by simp[i]);rw[List.mapM_cons,Aa (show(do pure (f.offset,←sizeOf f.type):Sem (Nat×Nat)).run P w=.ok (f.offset,P.cellsOf f.type) w from by rw[Aa d];rfl),Aa b];rfl
theorem jo{a:Env}(b:Bt P a)(c:Bc μ h w){t:TypeId}{d:List (Nat×U)}{g:Array (Nat×Value)}(i:ER μ d g.toList){r:U×Hp T}(k:AF a (a.ty t) d h=some r):
 CM P μ h w (Instr.build t g) r.1 r.2:=by
 obtain⟨l,hi,k⟩:=Ah k;obtain⟨m,z,o⟩:=b.ty _ _ hi;have s:=(o.cells μ).length;simp only[Array.length_toList] at s;have u:Cf μ (AD (Ai l.zero 0 .e)) (len l.zero) ⟨0,0,z.cells.size⟩ z.cells:=by have:=Cf.new (o.cells μ) o.Mr 0;rw[BU];simpa using this
 have fin:∀{place pl:Nat→Option (Nat×Nat)},(∀l q,place l=some q→pl l=some q)→Nc (len l.zero) h (Pf place (len l.zero) d (Ai l.zero 0 .e))=some r→∃cs,Instr.fill pl z.cells g.toList=some cs∧VR μ r.1 (.agg cs)∧r.2=h:=by intro place pl v k;obtain⟨x,y,k⟩:=Ah k;cases k;obtain⟨cs,d,g,a0⟩:=Zp v i _ _ x u (by rw[BU];exact s) y;have:=g.all a0;refine⟨cs,d,?_,rfl⟩;rw[GY];exact⟨cs,rfl,this.1,this.2⟩
 unfold Instr.build;unfold Jy at k;cases u:l.desc<;>rw[u] at k<;>simp only at k<;>try cases k
 case struct fs=>
  have v:∀j q,gB a fs.toList j=some q→((fs.map λf=>(f.offset,P.cellsOf f.type))[j]? :Option (Nat×Nat))=some q:=by
   intro j q x;obtain⟨p,i,x⟩:=Ah x;obtain⟨s,y,x⟩:=Ah x;cases x;obtain⟨f,d,rfl⟩:=I4 i;obtain⟨_,_,g⟩:=b.ty _ _ y;have a:fs[j]? =some f:=by rw[←Array.getElem?_toList];exact d
   simp[a,Program.cellsOf,g.info,g.size]
  obtain⟨cs,d,s,i⟩:=fin v k;rw[i];refine .here c ?_ s;rw[Aa o.JB];simp only;rw[Aa o.Pm,u];simp only;rw[Array.mapM_eq_mapM_toList];have:=run_places (P:=P) (w:=w) (fs:=fs.toList) λf d=>by obtain⟨j,y⟩:=b.Bam _ _ _ hi u f d;obtain⟨m,_,g⟩:=b.ty _ _ y;exact⟨m,g.info⟩
  rw[Aa (show(List.toArray <$> (fs.toList.mapM λf=>do pure (f.offset,←sizeOf f.type)):Sem (Array (Nat×Nat))).run P w=.ok (fs.map λf=>(f.offset,P.cellsOf f.type)) w from by rw[map_eq_pure_bind,Aa this];simp only[Sem.run_pure];congr 1;apply Array.ext';simp)];rw[d];rfl
 case array n e=>obtain⟨a,v,k⟩:=Ah k;obtain⟨_,_,y⟩:=b.ty _ _ v;obtain⟨cs,d,s,i⟩:=fin (place:=P6 a.size) (pl:=λl=>some (l*a.size,a.size)) (λj q x=>x) k;rw[i];refine .here c ?_ s;rw[Aa o.JB];simp only;rw[Aa o.Pm,u];simp only;rw[Aa y.rsize,d];rfl
end
end Go.Den
namespace Go.Den
open Go.RowKit
theorem cM(z:List U):H7 z 0=[]:=rfl
theorem M4(z:List U)(n:Nat):H7 z (n+1)=z++H7 z n:=by show Eh z (H7 z n)=_;rw[If]
def Lb(a:Array Value)(n:Nat):Array Value:=(Array.range n).map (a[·%a.size]!)
theorem KC(a:Array Value)(n:Nat):(Lb a n).toList=(List.range n).map (a[·%a.size]!):=by simp[Lb]
theorem Vb(a b:Array Value){n:Nat}(c:n=0):(Array.range n).map (a[·%a.size]!)=Lb b n:=by subst c;apply Array.ext';simp[Lb]
theorem kO(a:Array Value)(n:Nat):(Lb a (a.size+n)).toList=a.toList++(Lb a n).toList:=by
 rw[KC,KC,List.range_add,List.map_append];congr 1
 · apply List.ext_getElem
   · simp
   · intro b c d;simp at c;simp[wH c,c]
 · rw[List.map_map];apply List.map_congr_left;intro b _;simp
theorem Oc{μ:Mu}{z:List U}{a:Array Value}(b:BN μ z a.toList):∀n,BN μ (H7 z n) (Lb a (n*a.size)).toList:=by
 intro n;induction n with
 |zero=>rw[Nat.zero_mul,KC];exact(rfl:([]:List Value)=[])
 |succ n c=>rw[M4,wK,wL,kO];exact b.append c
theorem Kk{z:List U}(a:z.all U.one=true):∀n,(H7 z n).all U.one=true:=by
 intro n;induction n with
 |zero=>rfl
 |succ n b=>rw[M4,List.all_append,a,b];rfl
theorem Fz(z:List U)(n:Nat):(H7 z n).length=n*z.length:=by
 induction n with
 |zero=>simp[cM]
 |succ n a=>rw[M4,List.length_append,a,wK,wL]
section
variable{T:Type}{P:Program}{w:World}{μ:Mu}{h:Hp T}
theorem JO{a:Mu}{b:Go.Den.P}{g n c sz:Nat}{d:Bool}(f:a b=some ⟨g,0,c*sz⟩)(h:n≤c)(i:d=true→c=n):VR a (.slice b 0 n sz d) (.slice (some ⟨g,0,none⟩) n c):=
 ⟨_,c,rfl,h,⟨i,_,f⟩,.inr ⟨_,f,by simp,by simp⟩⟩
theorem IL{a:Env}(b:Bt P a){t:TypeId}{n:Nat}{c:List (Nat×U)}{r:U×Hp T}(d:AE a t (λe f=>Ap n c h e f)=some r):
 ∃(i:Go.Den.P→U)(k:Ob T),r=(i h.next,h.new k)∧(∀l:Hp T,AE a t (λe f=>Ap n c l e f)=some (i l.next,l.new k))∧∀{μ:Mu}{vs:Array (Nat×Value)},ER μ c vs.toList→Gp P μ (Instr.buildSlice t n vs) i k:=by
 obtain⟨e,f,m,o,d,s⟩:=Lu b d;obtain⟨u,z,v⟩:=b.ty _ _ o;unfold Ap at d;obtain⟨x,d⟩:=AK d;have y:=x;obtain⟨a,c,d⟩:=Ah d;cases d;obtain⟨i,x⟩:=Ao x;obtain⟨k,u⟩:=Ao x;have i:=Bh i;have k:=Bq k;have u:n*f.size≤16777216:=Bq u;rw[BU] at i;refine⟨λp=>.slice p 0 n f.size true,.row a (vO n f.size) 0 e true,rfl,λl=>?_,λ{μ vs} b=>?_⟩
 · rw[s];unfold Ap;rw[y,c]
 have o:=(v.cells μ).length;simp only[Array.length_toList] at o;have d:z.cells.size=f.size:=by omega
 have x:=Oc (v.cells μ) n;rw[d] at x;have k:=x.length;rw[Fz,i] at k;have u:Cf μ (AD (Ai (H7 f.zero n) 0 .e)) (vO n f.size) ⟨0,0,(Lb z.cells (n*f.size)).size⟩ (Lb z.cells (n*f.size)):=by have:=Cf.new x (Kk v.Mr n) 0;rw[Fz,i] at this;simpa using this
 obtain⟨cs,l,s,y⟩:=Zp (place:=P6 f.size) (pl:=λo=>some (o*f.size,f.size)) (λj q d=>d) b _ _ a u k c;refine Gp.row (vs:=cs) (λg x i=>?_) (λ_=>y.symm) (λg=>.slice (some ⟨g,0,none⟩) n n) (λg x p o=>JO (g:=g) (c:=n) (by rw[o,y];rfl) (vE _) (λ_=>rfl)) λw=>?_
 · obtain⟨a,b,c⟩:=s.mono i;exact⟨rfl,b,c⟩
 unfold Instr.buildSlice;rw[Aa (AZ m)];simp only;rw[Aa v.rsize];have d:(Array.range (n*f.size)).map ((if n*f.size=0 then #[] else z.cells)[·%(if n*f.size=0 then #[] else z.cells).size]!)=Lb z.cells (n*f.size):=by
  split
  · rename_i h0;exact Vb _ _ h0
  · rfl
 rw[if_neg (by omega)];by_cases h0:n*f.size=0
 · rw[if_pos h0];rw[if_pos h0] at d;simp only[Sem.run_bind,Sem.run_pure,Result.andThen_ok,d,l];rfl
 · rw[if_neg h0];rw[if_neg h0] at d;simp only[Sem.run_bind,Sem.run_pure,Result.andThen_ok,v.JB,d,l];rfl
theorem RH{a:Env}(b:Bt P a)(c:Bc μ h w){t:TypeId}{n:Nat}{d:List (Nat×U)}{f:Array (Nat×Value)}(g:ER μ d f.toList){r:U×Hp T}(i:AE a t (λe j=>Ap n d h e j)=some r):
 CM P μ h w (Instr.buildSlice t n f) r.1 r.2:=by
 obtain⟨k,l,rfl,_,m⟩:=IL b i;exact(m g).PD c
theorem Oz{m:Nat}(h:m≤9223372036854775807):IntKind.i64.wrap (m:Int)=(m:Int):=Tp .i64 m h
theorem run_askRoom(n:Nat):(askRoom n).run P w=.ok () w:=by unfold askRoom;split<;>rfl
theorem Js{a:Env}(b:Bt P a){t:TypeId}{x d:U}{r:U×Hp T}(f:AE a t (λe i=>Eg (Bf x) (Bf d) h e i)=some r):
 ∃(j:Go.Den.P→U)(k:Ob T),r=(j h.next,h.new k)∧(∀m:Hp T,AE a t (λe i=>Eg (Bf x) (Bf d) m e i)=some (j m.next,m.new k))∧∀{μ:Mu}{o q:Value},VR μ x o→VR μ d q→Gp P μ (Instr.makeSlice t o q) j k:=by
 obtain⟨e,i,s,u,f,v⟩:=Lu b f;obtain⟨y,z,a⟩:=b.ty _ _ u;unfold Eg mk2 at f;obtain⟨l,d,f⟩:=Ah f;obtain⟨c,j,f⟩:=Ah f;obtain⟨k,f⟩:=AK f;have b:=k;cases f;obtain⟨u,k⟩:=Ao k;obtain⟨k,f⟩:=Ao k;obtain⟨a0,a1⟩:=Ao k;obtain⟨k,a2⟩:=Ao f;have u:=Bq u;have a0:=Bh a0;have a1:=Bq a1;have k:=Bq k;have a2:c*i.bytes≤140737488355328:=Bq a2;rw[BU] at a0;refine⟨λp=>.slice p 0 l i.size (vS l c),.row (Ai (H7 i.zero c) 0 .e) (vO c i.size) 0 e true,rfl,λm=>?_,λ{μ o q} f k=>?_⟩
 · rw[v];unfold Eg mk2;rw[d,j];show(wg none _ _:Option (U×Hp T))=_;rw[b]
 obtain⟨m,rfl⟩:=FP d f;obtain⟨o,rfl⟩:=FP j k;have q:=(a.cells μ).length;simp only[Array.length_toList] at q;have v:z.cells.size=i.size:=by omega
 have b:=Oc (a.cells μ) c;rw[v] at b;have m:=b.length;rw[Fz,a0] at m;refine Gp.row (vs:=Lb z.cells (c*i.size)) (λg f d=>?_) (λ_=>m.symm) (λg=>.slice (some ⟨g,0,none⟩) l c) (λg f p o=>JO (g:=g) (c:=c) (by rw[o];congr 2) u (λh=>(Bh h).symm)) λw=>?_
 · have:=Cf.new (b.mono d) (Kk a.Mr c) g;rw[Fz,a0] at this;simpa using this
 unfold Instr.makeSlice;rw[Aa (AZ s)];simp only;have hi:∀(j:IntKind)(n:Int),(asInt (.int j n)).run P w=.ok n w:=λ_ _=>rfl;rw[Aa (hi _ _),Aa (hi _ _),Aa (FZ a.info)];have k:l≤9223372036854775807:=by omega
 have q:c≤9223372036854775807:=by omega
 have v:¬((y.bytes:Int)*(c:Int)>2^48):=by
  rw[a.bytes];have:((c*i.bytes:Nat):Int)≤140737488355328:=by omega
  rw[Int.natCast_mul] at this;rw[Int.mul_comm];omega
 simp only[Oz k,Oz q];rw[if_neg (by simp only[wP,decide_eq_true_eq];omega)];rw[Sem.run_bind];show Result.andThen ((askRoom _).run P w) _=_;rw[run_askRoom,Result.andThen_ok];simp only[wQ];rw[Aa a.rsize];by_cases h0:c*i.size=0
 · rw[if_pos h0];rw[Aa (run_pure (a:=(#[]:Array Value)))];have:(Array.range (c*i.size)).map ((#[]:Array Value)[·%(#[]:Array Value).size]!)=Lb z.cells (c*i.size):=Vb _ _ h0;rw[this];rfl
 · rw[if_neg h0];simp only[Sem.run_bind,a.JB,Result.andThen_ok,Sem.run_pure];rfl
theorem Ua{a:Env}(b:Bt P a)(c:Bc μ h w){t:TypeId}{x d:U}{f g:Value}(i:VR μ x f)(j:VR μ d g){r:U×Hp T}(k:AE a t (λe l=>Eg (Bf x) (Bf d) h e l)=some r):
 CM P μ h w (Instr.makeSlice t f g) r.1 r.2:=by
 obtain⟨m,n,rfl,_,o⟩:=Js b k;exact(o i j).PD c
end
end Go.Den
namespace Go.Den
open Go.RowKit
theorem Le:∀(b:Nat)(a:List UInt8),enc a / 2^(8*b)=enc (a.drop b)
 |0,a=>by simp
 |b+1,[]=>by simp[enc]
 |b+1,x::a=>by
  have c:=x.toNat_lt;rw[show 8*(b+1)=8+8*b from by omega,wF,←Nat.div_div_eq_div_mul];have:enc (x::a) / 2^8=enc a:=by simp only[enc];omega
  rw[this,List.drop_succ_cons];exact Le b a
theorem Rb:∀(b:Nat)(a:List UInt8),enc a%2^(8*b)=enc (a.take b)
 |0,a=>by simp[enc,Nat.mod_one]
 |b+1,[]=>by simp[enc]
 |b+1,x::a=>by
  have c:=x.toNat_lt;have d:=Rb b a;rw[show 8*(b+1)=8+8*b from by omega,wF,Nat.mod_mul];have f:enc (x::a) / 2^8=enc a:=by simp only[enc];omega
  have g:enc (x::a)%2^8=x.toNat:=by simp only[enc];omega
  rw[f,g,d];rfl
theorem Dk.get{l c:Nat}{a:ByteArray}(h:Dk l c a){b:Nat}(hi:b<l):a[b]? =some (wE (DD c b))∧DD c b<256:=by
 obtain⟨rfl,rfl⟩:=h;have d:b<a.data.toList.length:=hi;have e:DD (enc a.data.toList) b=(a.data.toList[b]).toNat:=by show(enc a.data.toList >>> (8*b))%256=_;rw[wM,Le,List.drop_eq_getElem_cons d];have:=(a.data.toList[b]).toNat_lt;simp only[enc];omega
 rw[e];refine⟨?_,UInt8.toNat_lt _⟩;have:a[b]? =some (a[b]'hi):=getElem?_pos a b hi;rw[this];congr 1;rw[UInt8.ofNat_toNat];rfl
theorem Dk.cut{l a:Nat}{b:ByteArray}(c:Dk l a b){lo hi:Nat}(d:lo≤hi)(f:hi≤l):Dk (vQ hi lo) (Me a lo hi) (b.extract lo hi):=by
 obtain⟨rfl,rfl⟩:=c;have g:(b.extract lo hi).data.toList=(b.data.toList.drop lo).take (hi-lo):=by rw[ByteArray.data_extract,Array.toList_extract,wR]
 refine⟨?_,?_⟩
 · show hi-lo=_;rw[ByteArray.size_extract];omega
 · show(enc b.data.toList >>> (8*lo))%2^(8*(hi-lo))=_;rw[wM,Le,Rb,g]
theorem Dk.empty:Dk 0 0 ByteArray.empty:=⟨rfl,rfl⟩
theorem Dk.ofBytes(l:List UInt8):Dk l.length (KP (l.map (·.toNat))) ⟨⟨l⟩⟩:=by
 refine⟨rfl,?_⟩;show _=enc l;induction l with
 |nil=>rfl
 |cons x l a=>simp only[enc,←a];rfl
theorem OV(μ:Mu)(l:List UInt8):VR μ (strOf (l.map (·.toNat))) (.string ⟨⟨l⟩⟩):=by refine⟨_,rfl,?_⟩;rw[BU,List.length_map];exact Dk.ofBytes l
theorem Pp(μ:Mu)(s:ByteArray):VR μ (bytesOf s) (.string s):=OV μ s.data.toList
theorem MA(μ:Mu)(a:ByteArray):BN μ (byteCells a.size (enc a.data.toList)) (a.data.toList.map λb=>Value.int .u8 b.toNat):=by
 obtain⟨⟨l⟩⟩:=a;show BN μ (byteCells l.length (enc l)) (l.map _);induction l with
 |nil=>exact(rfl:([]:List Value)=[])
 |cons x l c=>
  have d:=x.toNat_lt;show BN μ (.int .u8 (.ofNat (vT (enc (x::l)) 256))::byteCells l.length (vR (enc (x::l)) 256)) _;have f:vT (enc (x::l)) 256=x.toNat:=by show enc (x::l)%256=_;simp only[enc];omega
  have g:vR (enc (x::l)) 256=enc l:=by show enc (x::l) / 256=_;simp only[enc];omega
  rw[f,g];exact⟨_,_,rfl,rfl,c⟩
theorem Kr(n:Nat):∀a,(byteCells n a).all U.one=true:=by
 induction n with
 |zero=>intro a;rfl
 |succ n b=>intro a;show List.all (_::byteCells n (vR a 256)) U.one=true;rw[List.all_cons,b];rfl
theorem Ix(n:Nat):∀a,(byteCells n a).length=n:=by
 induction n with
 |zero=>intro a;rfl
 |succ n b=>intro a;show(byteCells n _).length+1=_;rw[b]
theorem Kl{a:U}{n:Nat}(b:byteOfCell a=some n):a=.int .u8 (.ofNat n):=by
 cases a<;>simp only[byteOfCell] at b<;>try cases b
 rename_i c d;cases c<;>simp only at b<;>try cases b
 cases d<;>simp only at b<;>cases b;rfl
theorem IU{μ:Mu}:∀{cs:List U}{l:List Nat}{a:List Value},Ei cs=some l→BN μ cs a→∃b:List UInt8,l=b.map (·.toNat)∧a=b.map λc=>Value.int .u8 c.toNat
 |[],l,a,d,f=>by cases d;cases(show a=[] from f);exact⟨[],rfl,rfl⟩
 |g::cs,l,a,d,f=>by
  have d:(wz none (λn=>wz none (λl=>wg none (some (n::l)) (vU n 255)) (Ei cs)) (byteOfCell g):Option (List Nat))=some l:=d;obtain⟨n,h,d⟩:=Ah d;obtain⟨i,j,d⟩:=Ah d;obtain⟨k,d⟩:=AK d;cases d;have k:=Bq k;obtain⟨v,a,rfl,m,o⟩:=f;obtain⟨b,rfl,rfl⟩:=IU j o;have:=Kl h;subst this;have m:v=.int .u8 (vJ n):=m;refine⟨wE n::b,?_,?_⟩
  · simp;omega
  · rw[m];simp;omega
end Go.Den
namespace Go.Den
open Go.RowKit
section
variable{T:Type}{P:Program}{w:World}{μ:Mu}{h:Hp T}
def GG(μ:Mu)(a:Option U)(v:Option Value):Prop:=match a,v with
 |none,none=>True
 |some a,some v=>VR μ a v
 |_,_=>False
def Ky(a:Option U):Option (Option Nat):=a.map Bf
theorem MU{k:IntKind}{i y:Nat}{c:BoundsCode}(h:i≤y):(Instr.sliceBound (.int k (i:Int)) y c).run P w=.ok i w:=by rw[run_sliceBound (h0:=by omega) (h1:=by omega)];rfl
theorem Kh(sl:Bool){n j:Nat}{t s u:Option U}{lo hi f:Option Value}(p:GG μ t lo)(o:GG μ s hi)(q:GG μ u f)(a2:f.isSome=true→hi.isSome=true)
 {l c:Nat} {g:Option Nat} (a0:bound 0 (Ky t)=some l) (y:bound n (Ky s)=some c) (m:maxOf (Ky u)=some g)
 (a3:l≤c) (a9:c≤n) (b0:n≤j) (a4:∀d,g=some d→d=c):
 (Instr.sliceBounds sl n j lo hi f).run P w=.ok (l,c,g.getD j) w:=by
 have nat:∀{a:U}{v:Value}{d:Nat},Bf a=some d→VR μ a v→∃b,v=.int b (d:Int):=λe r=>FP e r;have a7:(lo=none∧l=0)∨∃b,lo=some (.int b (l:Int)):=by
  cases t with
  |none=>cases lo<;>simp only[GG] at p;exact .inl ⟨rfl,by simpa[Ky,bound] using a0.symm⟩
  |some a=>
   cases lo<;>simp only[GG] at p;have:Bf a=some l:=by simpa[Ky,bound] using a0
   obtain⟨b,rfl⟩:=nat this p;exact .inr ⟨b,rfl⟩
 have a5:(hi=none∧c=n)∨∃b,hi=some (.int b (c:Int)):=by
  cases s with
  |none=>cases hi<;>simp only[GG] at o;exact .inl ⟨rfl,by simpa[Ky,bound] using y.symm⟩
  |some a=>
   cases hi<;>simp only[GG] at o;have:Bf a=some c:=by simpa[Ky,bound] using y
   obtain⟨b,rfl⟩:=nat this o;exact .inr ⟨b,rfl⟩
 have a8:(f=none∧g=none)∨∃b,f=some (.int b (c:Int))∧g=some c:=by
  cases u with
  |none=>cases f<;>simp only[GG] at q;exact .inl ⟨rfl,by simpa[Ky,maxOf] using m.symm⟩
  |some a1=>
   cases f<;>simp only[GG] at q;have a6:∃d,Bf a1=some d∧g=some d:=by
    cases k:Bf a1 with
    |none=>simp[Ky,maxOf,k] at m
    |some d=>exact⟨d,rfl,by simpa[Ky,maxOf,k] using m.symm⟩
   obtain⟨d,k,rfl⟩:=a6;have:=a4 d rfl;subst this;obtain⟨b,rfl⟩:=nat k q;exact .inr ⟨b,rfl,rfl⟩
 clear p o q m a0 y;unfold Instr.sliceBounds;have x:∀(b:IntKind)(h:BoundsCode),(Instr.sliceBound (.int b (l:Int)) c h).run P w=.ok l w:=λ_ _=>MU a3;have i:∀(b:IntKind)(h:BoundsCode),(Instr.sliceBound (.int b (c:Int)) j h).run P w=.ok c w:=λ_ _=>MU (by omega);have c3:∀(b:IntKind)(h:BoundsCode),(Instr.sliceBound (.int b (c:Int)) c h).run P w=.ok c w:=λ_ _=>MU (vE _);obtain⟨rfl,rfl⟩|⟨b2,rfl⟩:=a7<;>obtain⟨rfl,rfl⟩|⟨b1,rfl⟩:=a5<;>obtain⟨rfl,rfl⟩|⟨b3,rfl,rfl⟩:=a8
 · rfl
 · simp at a2
 · simp only[Sem.run_bind,Sem.run_pure,Result.andThen_ok,i];rfl
 · simp only[Sem.run_bind,Sem.run_pure,Result.andThen_ok,i,c3];rfl
 · simp only[Sem.run_bind,Sem.run_pure,Result.andThen_ok,x];rfl
 · simp at a2
 · simp only[Sem.run_bind,Sem.run_pure,Result.andThen_ok,x,i];rfl
 · simp only[Sem.run_bind,Sem.run_pure,Result.andThen_ok,x,i,c3];rfl
theorem SV{b:Go.Den.P}{o n sz:Nat}{t:Bool}{l c:Nat}{d:Option Nat}{r:U}(f:HK b o n sz t l c d=some r):
 l≤c∧c≤n∧(∀g,d=some g→g=c)∧
 ∀(a:Addr)(h:Nat),n≤h→((t=true→h=n)∧∃l,μ b=some l)→(h=0∨∃q,μ b=some q∧a=⟨q.blk,q.off+o,none⟩∧q.off+o+h*sz≤q.size)→
  VR μ r (.slice (some (if d.getD h=l then a else a.add (l*sz))) (c-l) (d.getD h-l)):=by
 obtain⟨i,f⟩:=AK f;obtain⟨i,j⟩:=Ao i;obtain⟨k,m⟩:=Ao i;have k:=Bq k;have m:=Bq m;cases f;have p:∀g,d=some g→g=c:=λg e=>by subst e;exact Bh j
 refine⟨k,m,p,λa h s u v=>?_⟩;have w:c≤d.getD h∧d.getD h≤h:=by
  cases d with
  |none=>exact⟨by simp;omega,by simp⟩
  |some g=>have:=p g rfl;simp;omega
 obtain⟨u,x⟩:=u;refine⟨_,_,rfl,?_,⟨?_,x⟩,?_⟩
 · show c-l≤_;omega
 · intro y;cases d with
   |none=>obtain⟨b,i⟩:=Ao y;have:=Bh i;have:=u b;simp;omega
   |some g=>have:=p g rfl;subst this;rfl
 · by_cases e:d.getD h=l
   · left;omega
   · right;obtain⟨q,y,rfl,f⟩:=v.resolve_left (by omega);refine⟨q,y,?_,?_⟩
     · rw[if_neg e,E1,wI];rfl
     · show q.off+(o+l*sz)+_*sz≤_;have:l*sz+(d.getD h-l)*sz≤h*sz:=by rw[←Nat.add_mul];exact Nat.mul_le_mul_right _ (by omega)
       omega
theorem FM{n:Nat}{lo hi:Option (Option Nat)}{a:Nat→Nat→Option U}{r:U}(h:Fq n lo hi a=some r):∃b l,bound n hi=some b∧bound 0 lo=some l∧a l b=some r:=by obtain⟨b,c,h⟩:=Ah h;obtain⟨l,d,h⟩:=Ah h;exact⟨b,l,c,d,h⟩
theorem dG(a:Bc μ h w){b:Go.Den.P}{c:Loc}(d:μ b=some c){f:Nat}(g:ik f (CG (h.at b))=true):∃l,μ b=some l∧l.off+f≤l.size:=by
 have i:=a.rowOf (b:=b) d rfl;cases e:CG (h.at b) with
 |no=>rw[e] at g;cases g
 |row t j z k m=>rw[e] at g;have:=Bq (show vU f j=true from g);obtain⟨_,l,cs,n,o,_,p,_⟩:=i.1 _ _ _ _ _ e;exact⟨l,o,by have:=p.1;have:=p.2.1;omega⟩
 |ext q j=>rw[e] at g;have:=Bq (show vU f j=true from g);obtain⟨l,cs,_,n,o,_,p⟩:=i.2 _ _ e;exact⟨l,o,by have:=p.1;have:=p.2.1;omega⟩
theorem eI{b:Env}(c:Bt P b)(d:Bc μ h w){t:TypeId}{x:U}{f:Value}(g:VR μ x f){i j k:Option U}{lo hi m:Option Value}(s:GG μ i lo)(u:GG μ j hi)(y:GG μ k m)(a0:m.isSome=true→hi.isSome=true)
 {a1:Option Nat} (a2:maxOf (Ky k)=some a1) {r:U} (a3:FO b h t x (Ky i) (Ky j) a1=some r):
 ∃v,(Instr.sliceAt t f lo hi m).run P w=.ok v w∧VR μ r v:=by
 obtain⟨a4,a5,a3⟩:=Ah a3;obtain⟨a6,z,a7⟩:=c.ty _ _ a5;have a6:=a7.HB;have a5:∀{a8:Go.Den.P}{o n:Nat}{e:TypeId},Xb b h a8 o (Ky i) (Ky j) a1 n e=some r→VR μ (.ptr a8 o) f→
  ∃a l b v,f=.pointer (some a)∧(Instr.sliceBounds false n n lo hi m).run P w=.ok (l,b,a1.getD n) w∧(sizeOf e).run P w=.ok (P.cellsOf e) w∧
   v=.slice (some (if a1.getD n=l then a else a.add (l*P.cellsOf e))) (b-l) (a1.getD n-l)∧VR μ r v:=by
  intro a8 o n e a3 g;obtain⟨i,j,a3⟩:=Ah a3;obtain⟨_,_,f⟩:=c.ty _ _ j;obtain⟨a9,a3⟩:=AK a3;obtain⟨b,l,b0,b1,a3⟩:=FM a3;obtain⟨b2,b3,b4,b5⟩:=SV (μ:=μ) a3;obtain⟨q,b6,b7⟩:=dG d g.choose_spec.1 a9;obtain⟨d,a9,rfl⟩:=g;rw[b6] at a9;cases a9;have d:P.cellsOf e=i.size:=by simp[Program.cellsOf,f.info,f.size]
  refine⟨_,l,b,_,rfl,Kh false s u y a0 b1 b0 a2 b2 b3 (vE _) b4,by rw[d];exact f.rsize,rfl,?_⟩;rw[d];refine b5 _ n (vE _) ⟨λ_=>rfl,_,b6⟩ (.inr ⟨q,b6,rfl,?_⟩);have:q.off+(o+n*i.size)≤q.size:=b7;omega
 cases d:a4.desc<;>rw[d] at a3 a6<;>simp only[Oo] at a3<;>try cases a3
 case string=>
  cases x<;>simp only at a3<;>try cases a3
  obtain⟨str,rfl,d⟩:=g;cases a1 with
  |some=>cases a3
  |none=>
   obtain⟨b,l,b0,b1,a3⟩:=FM a3;obtain⟨a9,a3⟩:=AK a3;obtain⟨b2,b3⟩:=Ao a9;have b2:=Bq b2;have b3:=Bq b3;cases a3;have b6:m=none:=by
    cases k with
    |none=>cases m<;>simp only[GG] at y;rfl
    |some a=>cases k:Bf a<;>simp[Ky,maxOf,k] at a2
   subst b6;have k:=d.1;refine⟨.string (str.extract l b),?_,_,rfl,d.cut b2 b3⟩;rw[run_sliceAt_string _ _ _ _ _ _ a6];unfold Instr.slice;simp only[Sem.run_bind,AZ a6,Result.andThen_ok];have:=Kh (P:=P) (w:=w) false s u y a0 b1 b0 a2 b2 b3 (vE _) (λ_ e=>nomatch e);rw[k] at this;simp[this]
 case slice e=>
  obtain⟨i,j,a3⟩:=Ah a3;obtain⟨_,_,f⟩:=c.ty _ _ j;have d:∀v,(Instr.sliceAt t v lo hi m).run P w=(Instr.slice t v lo hi m).run P w:=λv=>by unfold Instr.sliceAt;rw[Aa (AZ a6)]
  unfold px at a3;cases x<;>simp only at a3<;>try cases a3
  case Af=>
   cases g;obtain⟨b,l,b0,b1,a3⟩:=FM a3;obtain⟨a9,k⟩:=AK a3;obtain⟨a9,b4⟩:=Ao a9;obtain⟨b2,b3⟩:=Ao a9;cases k;obtain rfl:=Bh b2;obtain rfl:=Bh b3;have i:∀a7,a1=some a7→a7=0:=λa7 e=>by subst e;exact Bh b4
   have j:a1.getD 0=0:=by cases a1<;>simp;exact i _ rfl
   refine⟨.slice none 0 0,?_,rfl⟩;rw[d];unfold Instr.slice;rw[Aa (AZ a6)];simp only;rw[Aa (Kh true s u y a0 b1 b0 a2 (vE _) (vE _) (vE _) i)];simp only;rw[Aa f.rsize];simp[j,Sem.run_pure]
  case slice a8 o n sz m=>obtain⟨k,a3⟩:=AK a3;have k:=Bh k;obtain⟨b,l,b0,b1,a3⟩:=FM a3;obtain⟨b2,b3,b4,b5⟩:=SV (μ:=μ) a3;obtain⟨a,i,rfl,j,m,a4⟩:=g;refine⟨_,?_,b5 a i j m a4⟩;rw[d];unfold Instr.slice;rw[Aa (AZ a6)];simp only;rw[Aa (Kh true s u y a0 b1 b0 a2 b2 b3 j b4)];simp only;rw[Aa f.rsize,k];simp only[Sem.run_pure,Option.map_some];split<;>rfl
 case array n e=>
  cases x<;>simp only at a3<;>try cases a3
  obtain⟨a,l,b,v,rfl,a9,b7,rfl,b5⟩:=a5 a3 g;refine⟨_,?_,b5⟩;unfold Instr.sliceAt;rw[Aa (AZ a6)];simp only[Instr.sureAddr];rw[Aa run_pure,Aa a9];simp only;rw[Aa b7];rfl
 case pointer at_=>
  cases x<;>simp only at a3<;>try cases a3
  obtain⟨p,i,a3⟩:=Ah a3;have m:=Kb c i;obtain⟨a,l,b,v,rfl,a9,b7,rfl,b5⟩:=a5 a3 g;refine⟨_,?_,b5⟩;unfold Instr.sliceAt;rw[Aa (AZ a6)];simp only;unfold Instr.slice;rw[Aa (AZ a6)];simp only[asAddr];rw[Aa run_pure,Aa (AZ m)];simp only;rw[Aa a9];simp only;rw[Aa b7];rfl
end
end Go.Den
namespace Go.Den
open Go.RowKit
section
variable{T:Type}{P:Program}{w:World}{μ:Mu}{h:Hp T}
theorem Hj{a:Env}(b:Bt P a){e:TypeId}(c:isByte a e=true):P.underlying e=some (.int .u8):=by
 unfold isByte at c;cases d:a.ty e with
 |none=>rw[d] at c;cases c
 |some f=>
  rw[d] at c;obtain⟨_,_,k⟩:=b.ty _ _ d;have c:bq f.desc=true:=(Ao (show An (bq f.desc) (vS f.size 1)=true from c)).1;have g:=k.HB;cases h:f.desc<;>rw[h] at c<;>simp only[bq] at c<;>try cases c
  rename_i i;cases i<;>simp only at c<;>try cases c
  rw[g,h]
theorem T0{a:Env}(b:Bt P a){e:TypeId}(c:isByte a e=true):P.cellsOf e=1:=by
 unfold isByte at c;cases d:a.ty e with
 |none=>rw[d] at c;cases c
 |some f=>rw[d] at c;obtain⟨_,_,g⟩:=b.ty _ _ d;have:=Bh (Ao (show An (bq f.desc) (vS f.size 1)=true from c)).2;simp[Program.cellsOf,g.info,g.size,this]
theorem fold_push:∀(l:List UInt8)(a:ByteArray),(l.map λb=>(b.toNat:Int)).foldl (λr n=>r.push (wE n.toNat)) a=a++⟨⟨l⟩⟩
 |[],a=>by apply ByteArray.ext;apply Array.ext';simp
 |x::l,a=>by rw[List.map_cons,wS,fold_push l];apply ByteArray.ext;apply Array.ext';simp
theorem Tq{b:Nat}{cs:Array Value}{e:TypeId}{a:Nat×Nat}(c:w.heap[b]? =some (.cells cs e a))(x:Nat):(Conv.seenAt ⟨b,x,none⟩).run P w=.ok ⟨b,x,none⟩ w:=by
 have d:w.shape? b=some (e,cs.size):=by simp[World.shape?,c]
 have f:(shape b).run P w=.ok (some (e,cs.size)) w:=by simp[shape,Sem.run,d]
 have g:(viewAt b).run P w=.ok none w:=by unfold viewAt;rw[Aa f];rfl
 unfold Conv.seenAt;rw[Aa g];rfl
theorem Yu{c:Env}(d:Bt P c)(f:Bc μ h w){g i:TypeId}{x:U}{m:Value}(p:VR μ x m){r:U×Hp T}(s:(c.ty g).isSome=true)(u:D4 c h g i x=some r):
 CM P μ h w (convert g i m) r.1 r.2:=by
 obtain⟨y,hi,m⟩:=Ah u;clear u;obtain⟨_,_,k⟩:=d.ty _ _ hi;have hd:=k.HB;obtain⟨j,u⟩:=Option.isSome_iff_exists.1 s;obtain⟨_,_,s⟩:=d.ty _ _ u;have hs:=s.HB;unfold Xp at m;cases s:y.desc<;>rw[s] at m hd<;>simp only at m<;>try cases m
 case int y=>
  cases x<;>simp only[Sz] at m<;>try cases m
  cases p;refine .here f ?_ rfl;rw[Hd];unfold convert;rw[Aa (AZ hs),Aa (AZ hd)];rfl
 case string=>
  cases x<;>simp only[N4] at m<;>try cases m
  case int y n=>cases p;refine .here f ?_ (Pp μ _);rw[run_convert_int_string (hs:=by rw[hs];rfl) (hd:=hd)]
  case str l s=>obtain⟨str,rfl,y⟩:=p;refine .here f ?_ ⟨str,rfl,y⟩;unfold convert;rw[Aa (AZ hs),Aa (AZ hd)];rfl
  case Af=>
   cases p;obtain⟨a0,a1,m⟩:=Ah m;rw[u] at a1;cases a1;cases a2:j.desc<;>rw[a2] at m hs<;>simp only at m<;>try cases m
   obtain⟨a3,m⟩:=AK m;cases m;have a4:=Hj d a3;refine .here f (v:=.string .empty) ?_ ⟨_,rfl,Dk.empty⟩;unfold convert;rw[Aa (AZ hs),Aa (AZ hd)];simp only;rw[Aa (AZ a4)];rfl
  case slice b o n sz a5=>
   obtain⟨a0,a1,m⟩:=Ah m;rw[u] at a1;cases a1;cases a2:j.desc<;>rw[a2] at m hs<;>simp only at m<;>try cases m
   obtain⟨a3,m⟩:=AK m;have a4:=Hj d a3;obtain⟨cs,a5,m⟩:=Ah m;obtain⟨a6,a7,m⟩:=Ah m;cases m;obtain⟨a,a6,rfl,a8,⟨_,_,a9⟩,b0⟩:=p;have b1:=f.read (good:=λo=>o=some cs) (bad:=none) (λe=>nomatch e) (b:=b) (off:=o) (n:=n) (k:=some) a9 a5;obtain⟨a9,b2,b3,b4,b5,b6,b7,_,b8,b9,_,c0,c1⟩:=b1;cases c1;obtain⟨a9,rfl,b2⟩:=IU a7 b9;refine .here f ?_ (OV μ a9);unfold convert;rw[Aa (AZ hs),Aa (AZ hd)];simp only;rw[Aa (AZ a4)];have b3:(loadCells a n).run P w=.ok ((a9.map λb=>(b.toNat:Int)).map (Value.int .u8)).toArray w:=by
    by_cases h0:n=0
    · subst h0;have:a9=[]:=by
       cases a9 with
       |nil=>rfl
       |cons x a9=>simp at b2
      subst this;rfl
    · obtain⟨q,b5,rfl,_⟩:=b0.resolve_left (by omega);rw[b5] at b6;cases b6;rw[run_loadCells b7 n b8];congr 1;apply Array.ext';rw[b2];simp[Function.comp_def]
   rw[run_bytesToString w a n a6 _ b3,fold_push];congr 2
 case slice e=>
  cases x<;>simp only[Rk] at m<;>try cases m
  rename_i l s;obtain⟨a3,m⟩:=AK m;cases m;have a4:=Hj d a3;obtain⟨str,rfl,y⟩:=p;obtain⟨rfl,rfl⟩:=y;have y:=Lib.run_convert_string_bytes (P:=P) w g i e str hs hd a4;have i:=grownCap_ge w str.size 0 e
  -- the new row
  have b1:(Lib.bytesCells w e str).size=grownCap w str.size 0 e:=by simp[Lib.bytesCells];have:str.data.size=str.size:=rfl;omega
  let c1:Obj:=.cells (Lib.bytesCells w e str) e ((Lib.bytesCells w e str).size,(Lib.bytesCells w e str).size+1);have a7:∀j:Nat,j<str.size→(Lib.bytesCells w e str)[j]? =(str.data.toList.map λb=>Value.int .u8 b.toNat)[j]? :=by intro j u;have:j<str.data.size:=u;rw[Lib.bytesCells,Array.getElem?_append,if_pos (by simpa using this)];simp
  obtain⟨a9,b6⟩:=f.alloc (.row (Ai (byteCells str.size (enc str.data.toList)) 0 .e) str.size 0 e false) c1 (Lib.bytesCells w e str).size 0 (λb8 b0=>by
   refine⟨_,_,DW w c1,⟨rfl,by rw[b1];simp;omega,λj u=>?_⟩,(λe=>nomatch e),λ_ j _ u=>by simp;omega⟩;have b2:=MA b8 str;have c0:=Ix str.size (enc str.data.toList);have a6:(byteCells str.size (enc str.data.toList))[j]? =some ((byteCells str.size (enc str.data.toList))[j]'(by omega)):=List.getElem?_eq_getElem _;obtain⟨v,b9,m⟩:=b2.get j _ a6;refine⟨v,by rw[wJ,a7 j u];exact b9,?_,?_⟩
   · rw[Am,if_pos (by omega),vM,we,a6];exact m
   · rw[Am,if_pos (by omega),vM,we,a6];exact(wm.1 (Kr _ _)) _ (List.getElem_mem _))
  have b3:(Lib.bytesWorld w e str).heap=(w.alloc c1).heap:=by
   apply Array.ext_getElem?;intro j;rcases Nat.lt_trichotomy j w.heap.size with u|rfl|u
   · rw[Lib.bytesWorld_at_old w e str j u,Below.heap_alloc w c1 j u]
   · rw[Lib.bytesWorld_at_new,DW]
   · have a4:=Lib.bytesWorld_size w e str;have b8:(w.alloc c1).heap.size=w.heap.size+1:=by simp
     rw[Array.getElem?_eq_none (by omega),Array.getElem?_eq_none (by omega)]
  refine⟨_,_,_,y,a9.heap b3,b6.trans (BF.heap _ _ b3 rfl rfl rfl),?_⟩;refine⟨_,_,rfl,i,⟨(λe=>nomatch e),_,Mu.BD _ _ _⟩,.inr ⟨_,Mu.BD _ _ _,by simp,?_⟩⟩;show 0+0+_*1≤(Lib.bytesCells w e str).size;rw[b1];omega
 case pointer y=>
  have g:∀{o:Option (U×Hp T)},ZF c g o=some r→P.underlying g=some .unsafePointer∧o=some r:=λm=>by
   obtain⟨a0,a1,m⟩:=Ah m;rw[u] at a1;cases a1;cases a2:j.desc<;>rw[a2] at m hs<;>simp only at m<;>try cases m
   exact⟨hs,rfl⟩
  cases x<;>simp only at m<;>try cases m
  case Bn=>obtain⟨i,m⟩:=g m;cases m;cases p;refine .here f (v:=.pointer none) ?_ rfl;unfold convert;rw[Aa (AZ i),Aa (AZ hd)];simp only[Conv.unsafePointer];rw[Aa (AZ i),Aa (AZ hd)];rfl
  case ptr b o=>
   obtain⟨i,m⟩:=g m;have b7:=f.rowOf (b:=b) p.choose_spec.1 rfl;cases c0:CG (h.at b) with
   |no=>rw[c0] at m;cases m
   |ext s n=>rw[c0] at m;cases m
   |row t n z e b2=>
    rw[c0] at m;obtain⟨a7,a6,m⟩:=Ah (show(wz none (λa7=>wg none (some (.ptr b o,h)) (An (An b2 (vS e y)) (An (vS o 0) (An (vU 1 a7.size) (vU a7.size n))))) (c.ty y):Option (U×Hp T))=some r from m);obtain⟨a3,y⟩:=AK m;obtain⟨b8,c1⟩:=Ao a3;obtain⟨a9,b8⟩:=Ao b8;obtain⟨c1,b3⟩:=Ao c1;obtain⟨b3,b6⟩:=Ao b3;have b3:=Bq b3;have b6:=Bq b6;cases y;obtain rfl:=Bh b8;obtain rfl:=Bh c1;obtain⟨_,_,y⟩:=d.ty _ _ a6;obtain⟨_,l,cs,b4,b0,b1,b3,b6,_⟩:=b7.1 _ _ _ _ _ c0;have b9:=p;obtain⟨q,b5,rfl⟩:=p;rw[b0] at b5;cases b5;obtain⟨c2,a8⟩:=b6 a9;have a5:P.cellsOf e=a7.size:=by simp[Program.cellsOf,y.info,y.size]
    have a8:w.shape? l.blk=some (e,cs.size):=by simp[World.shape?,b1]
    have a9:(variablesAt ⟨l.blk,l.off+0,none⟩ e 1).run P w=.ok true w:=by
     have a4:(shape l.blk).run P w=.ok (some (e,cs.size)) w:=by simp[shape,Sem.run,a8]
     unfold variablesAt;rw[Aa (show program.run P w=.ok P w from rfl),Aa a4];simp only[a5,c2,Nat.add_zero];have:liesAt P P.depth e (cs.size / a7.size) 0 e 1=true:=by
      have c2:0<cs.size / a7.size:=Nat.div_pos (by omega) (by omega);have c3:P.depth=(2*(P.types.size+Made.depth)+1)+1:=rfl;rw[c3];simp only[liesAt,wP];left;rw[c3];have c3:¬a7.size=0:=by omega
      have c4:∀c5,sameLayout P (c5+1) e e=true:=λc5=>by unfold sameLayout;simp
      unfold rowAt;simp only[a5,c3,if_false,Nat.zero_div,Nat.zero_mod,beq_self_eq_true,Bool.true_and,wJ,decide_eq_true (show 1≤cs.size / a7.size from c2),c4,Bool.true_or]
     rw[this];rfl
    refine .here f ?_ b9;unfold convert;rw[Aa (AZ i),Aa (AZ hd)];simp only[Conv.unsafePointer];rw[Aa (AZ i),Aa (AZ hd)];simp only;have i:(Conv.seenAt ⟨l.blk,l.off+0,none⟩).run P w=.ok ⟨l.blk,l.off+0,none⟩ w:=Tq b1 _;rw[Aa i,Aa y.rsize];rw[Aa a9];simp only[Bool.or_true,if_true];rfl
 case unsafePointer=>
  cases x<;>simp only at m<;>try cases m
  case Bn=>
   obtain⟨a0,a1,m⟩:=Ah m;rw[u] at a1;cases a1;cases a2:j.desc<;>rw[a2] at m hs<;>simp only at m<;>try cases m
   cases p;refine .here f (v:=.pointer none) ?_ rfl;unfold convert;rw[Aa (AZ hs),Aa (AZ hd)];simp only[Conv.unsafePointer];rw[Aa (AZ hs),Aa (AZ hd)];rfl
  case ptr b o=>
   have b7:=f.rowOf (b:=b) p.choose_spec.1 rfl;cases c0:CG (h.at b) with
   |no=>unfold GP at m;rw[c0] at m;cases m
   |ext s n=>unfold GP at m;rw[c0] at m;cases m
   |row t n z e b2=>
    unfold GP at m;rw[c0] at m;obtain⟨a0,a1,m⟩:=Ah (show(wz none (λi=>match i.desc with
     |.pointer t=>wz none (λs=>wg none (some (.ptr b o,h)) (An (vU 1 s.size) (vU (vN o 1) n))) (c.ty t)
     |_=>none) (c.ty g):Option (U×Hp T))=some r from m)
    rw[u] at a1;cases a1;cases a2:j.desc<;>rw[a2] at m hs<;>simp only at m<;>try cases m
    rename_i i;obtain⟨a7,a6,m⟩:=Ah m;obtain⟨a3,m⟩:=AK m;cases m;obtain⟨b8,c1⟩:=Ao a3;have b8:=Bq b8;have c1:o+1≤n:=Bq c1;obtain⟨_,_,y⟩:=d.ty _ _ a6;obtain⟨_,l,cs,b4,b0,b1,b3,b6,_⟩:=b7.1 _ _ _ _ _ c0;have b9:=p;obtain⟨q,b5,rfl⟩:=p;rw[b0] at b5;cases b5;have a8:w.shape? l.blk=some (e,cs.size):=by simp[World.shape?,b1]
    have a4:(shape l.blk).run P w=.ok (some (e,cs.size)) w:=by simp[shape,Sem.run,a8]
    refine .here f ?_ b9;unfold convert;rw[Aa (AZ hs),Aa (AZ hd)];simp only[Conv.unsafePointer];rw[Aa (AZ hs),Aa (AZ hd)];simp only;rw[Aa (Tq b1 _)];have s:(cellsIn l.blk).run P w=.ok (some cs.size) w:=by unfold cellsIn;rw[Aa a4];rfl
    rw[Aa s,Aa y.rsize];have:=b3.2.1;rw[if_neg (by simp;omega)];rfl
end
end Go.Den
namespace Go.Den
open Go.RowKit
section
variable{T:Type}{P:Program}{w:World}{μ:Mu}{h:Hp T}
theorem Agr{ρ:Operand→Value}{o:Oper}{x:Operand}(b:o.op=.nilCheck x){a:U}(c:VR μ a (ρ x)){r:U×Hp T}(d:Ag a h=some r):
 ∃v,(execOp ρ o).run P w=.ok (.value v) w∧VR μ r.1 v∧r.2=h:=by
 cases a<;>simp only[Ag] at d<;>cases d;have f:=c;obtain⟨l,g,e⟩:=c;refine⟨_,?_,f,rfl⟩;unfold execOp;rw[b];simp only;rw[e];rfl
theorem jD{b:Env}(c:Bt P b)(d:Bc μ h w){t:TypeId}{a:U}{g:Nat}{r:U×Hp T}(i:Jt b t a g h=some r){j:Value}(k:VR μ a j):CM P μ h w (Instr.field t j g) r.1 r.2:=by
 cases a<;>simp only[Jt] at i<;>try cases i
 obtain⟨l,m,n⟩:=Ah i;obtain⟨_,_,o⟩:=c.ty _ _ m;have q:=o.HB;cases s:l.desc<;>rw[s] at n q<;>simp only at n<;>try cases n
 obtain⟨p,u,n⟩:=Ah n;obtain⟨n,x⟩:=Fj n;obtain⟨f,y,rfl⟩:=I4 u;obtain⟨b,rfl,g,j⟩:=k;obtain⟨v,i,n⟩:=NJ (w:=w) c n g j;rw[x];refine .here d ?_ n;unfold Instr.field;rw[Aa (AZ q)];simp only;rw[←Array.getElem?_toList,y];exact i
theorem kf{b:Env}(c:Bt P b)(d:Bc μ h w){t:TypeId}{a f:U}{r:U×Hp T}(g:Hl b t a (Bf f) h=some r){i j:Value}(k:VR μ a i)(m:VR μ f j):CM P μ h w (Instr.index t i j) r.1 r.2:=by
 obtain⟨n,hi,o⟩:=Ah g;clear g;obtain⟨q,rfl⟩:=FP hi m;cases a<;>simp only at o<;>try cases o
 case str l s=>
  obtain⟨u,x,o⟩:=Ah o;obtain⟨_,_,q⟩:=c.ty _ _ x;have y:=q.HB;obtain⟨b,o⟩:=AK o;obtain⟨f,o⟩:=AK o;have f:n+1≤l:=Bq f;have b:u.desc=.string:=by cases i:u.desc<;>rw[i] at b<;>simp only[isStr] at b<;>first|rfl|cases b
  cases o;rw[b] at y;obtain⟨str,rfl,j⟩:=k;obtain⟨g,m⟩:=j.get (show n<l from f);refine .here d (v:=.int .u8 (vJ (DD s n))) ?_ rfl;unfold Instr.index;simp only[asIntOf];rw[Aa run_pure];simp only;rw[Aa (AZ y)];simp only;rw[if_pos (by omega),wQ,g];simp only;have:(wE (DD s n)).toNat=DD s n:=by simp;omega
  rw[this];rfl
 case agg cs=>obtain⟨p,x,o⟩:=Ah o;obtain⟨f,o⟩:=AK o;have f:n+1≤p.1:=Bq f;obtain⟨q,u,o⟩:=Ah o;obtain⟨_,_,i⟩:=c.ty _ _ u;obtain⟨o,b⟩:=Fj o;obtain⟨m,rfl,j,y⟩:=k;obtain⟨v,g,o⟩:=NJ (w:=w) c o j y;rw[b];refine .here d ?_ o;unfold Instr.index;simp only[asIntOf];rw[Aa run_pure];simp only;rw[Aa (AZ (Kb c x))];simp only;rw[if_pos (by constructor<;>omega),Aa i.rsize,wQ];exact g
theorem YQ(b:Bc μ h w){a:U}{c:Nat}{r:U×Hp T}(d:Ir a c h=some r){f:Value}(g:VR μ a f):CM P μ h w (Instr.extract f c) r.1 r.2:=by
 cases a<;>simp only[Ir] at d<;>try cases d
 obtain⟨d,i⟩:=Fj d;obtain⟨vs,rfl,j⟩:=g;rw[CU] at d;obtain⟨v,k,d⟩:=j.get _ _ d;rw[i];refine .here b ?_ d;unfold Instr.extract;simp only;rw[←Array.getElem?_toList,k];rfl
theorem Zc{b:Env}(c:Bt P b)(d:Bc μ h w){t:TypeId}{a:U}{r:U×Hp T}(f:Il b t a h=some r){g:Value}(i:VR μ a g):CM P μ h w (Instr.makeInterface t g) r.1 r.2:=by obtain⟨j,k,f⟩:=Ah f;obtain⟨_,_,l⟩:=c.ty _ _ k;obtain⟨m,f⟩:=Ki f;cases f;refine .here d (v:=.iface t g) ?_ ⟨g,rfl,i⟩;unfold Instr.makeInterface;rw[Aa l.Pm];cases n:j.desc<;>rw[n] at m<;>first|rfl|cases m
theorem Lo(μ:Mu)(t:TypeId):Gp (T:=T) P μ (Instr.makeMap t none) (λp=>.map p) (.map [] 0):=λw=>
 ⟨.map (some w.heap.size),.map #[] 0,0,rfl,λ_ _=>⟨⟨#[],DW _ _,rfl⟩,λ_ a=>⟨_,a,rfl⟩⟩⟩
theorem Yp(s:Bc μ h w)(t:TypeId):CM P μ h w (Instr.makeMap t none) (.map h.next) (h.new (.map [] 0)):=(Lo μ t).PD s
theorem jG{b:Env}(c:Bt P b)(d:Bc μ h w){t:TypeId}{a:U}{r:U×Hp T}(f:NY b t a h=some r){g:Value}(i:VR μ a g):CM P μ h w (Instr.range t g) r.1 r.2:=by
 cases a<;>simp only[NY] at f<;>try cases f
 case map j=>
  obtain⟨k,m,f⟩:=Ah f;obtain⟨_,_,n⟩:=c.ty _ _ m;have o:=n.HB;obtain⟨q,f⟩:=AK f;obtain⟨p,s,f⟩:=Ah f;cases f;obtain⟨l,u,rfl⟩:=i;have v:h.at j=.map p.1 p.2:=by cases v:h.at j<;>rw[v] at s<;>simp only[EJ] at s<;>cases s;rfl
  have x:=d.ob j l (by rw[v];simp) u;rw[v] at x;obtain⟨y,b,_⟩:=x;obtain⟨g,s⟩:=d.alloc (.Hq j p.2 [] p.2) (.mapIter (some l.blk) p.2 #[] p.2) 0 0 λv x=>⟨l,x _ _ u,DW _ _,rfl⟩;refine⟨.pointer (some ⟨w.heap.size,0,none⟩),_,_,?_,g,s,⟨_,Mu.BD _ _ _,rfl⟩⟩;unfold Instr.range;rw[Aa (AZ o)];cases j:k.desc<;>rw[j] at q<;>simp only[im] at q<;>try cases q
  simp only;have x:(getObj l.blk).run P w=.ok (.map y p.2) w:=by simp[getObj,Sem.run,b]
  rw[Aa x];rfl
 obtain⟨k,m,f⟩:=Ah f;obtain⟨_,_,n⟩:=c.ty _ _ m;have o:=n.HB;obtain⟨q,f⟩:=AK f;have q:k.desc=.string:=by cases j:k.desc<;>rw[j] at q<;>simp only[isStr] at q<;>first|rfl|cases q
 cases f;rw[q] at o;obtain⟨str,rfl,y⟩:=i;obtain⟨g,s⟩:=d.alloc (.iter _ _ 0) (.stringIter str 0) 0 0 λv u=>⟨str,DW _ _,y,rfl⟩
 refine⟨.pointer (some ⟨w.heap.size,0,none⟩),_,_,?_,g,s,⟨_,Mu.BD _ _ _,rfl⟩⟩;unfold Instr.range;rw[Aa (AZ o)];rfl
theorem dq{b:Env}(c:Bt P b)(d:Bc μ h w){f a:TypeId}{x:U}{g:Bool}{r:U×Hp T}(i:Ma b a x g h=some r){j:Value}(k:VR μ x j):CM P μ h w (Instr.typeAssert j f a g) r.1 r.2:=by
 cases x<;>simp only[Ma] at i<;>try cases i
 rename_i t v;obtain⟨l,m,i⟩:=Ah i;obtain⟨_,_,n⟩:=c.ty _ _ m;have o:=n.HB;obtain⟨p,rfl,q⟩:=k;have s:(wg none (some (I7 g v true,h)) (vS t a):Option (U×Hp T))=some r→(∀u,l.desc≠.interface u)→CM P μ h w (Instr.typeAssert (.iface t p) f a g) r.1 r.2:=λi y=>by
  obtain⟨b,j⟩:=AK i;cases j;obtain rfl:=Bh b;have c:VR μ (I7 g v true) (if g then .tuple #[p,.bool true] else p):=by
   cases g
   · exact q
   · exact⟨_,rfl,_,_,rfl,q,_,_,rfl,rfl,rfl⟩
  refine .here d ?_ c;unfold Instr.typeAssert;rw[Aa (AZ o)];cases m:l.desc<;>first|exact absurd m (y _)|(simp only[if_true];rfl)
 cases m:l.desc<;>rw[m] at i<;>first|(cases i;done)|exact s i (by rw[m];intro u e;cases e)
end
end Go.Den
