/-
 Proof.
-/
import Derived.Test.YtmgalljhidgnoaaGreatDoorRunE
import Derived.Test.YtmgalljhidgnoaaGreatDoorDenQ
import Derived.KernelRfl
import Derived.Test.YtmgalljhidgnoaaGreatDoorIter
import Derived.Sort.Walk0
import Derived.Test.YtmgalljhidgnoaaGreatDoorRunD
open Int renaming ofNat_le → zb, ofNat → vJ
open List renaming length → yI, rec → wj, cons → ve, pairwise_cons → zv, mem_cons → vw, le_of_lt → zw, le_trans → zx, not_mem_nil → yT, mem_cons_of_mem → xK, mem_cons_self → yS, nodup_cons → xX, mem_map → xQ, mem_map_of_mem → zy, length_map → s9, getElem?_map → ya, getElem?_eq_getElem → wq
open Nat renaming ble → vU, ble_eq_true_of_le → wY, beq → vS, le_of_ble_eq_true → vX, beq_refl → wZ, le_trans → vY, zero_add → wJ, eq_of_beq_eq_true → vW
open Bool renaming rec → wg
noncomputable section
namespace Go.Den
open Go.RowKit
set_option maxRecDepth 100000
def Ana:List (Ob FT):=List.replicate 9 .dead
def Acp:List Loc:=[⟨0,0,0⟩,⟨1,0,0⟩,⟨2,0,0⟩,⟨3,0,0⟩,⟨4,0,0⟩,⟨5,0,0⟩,⟨6,0,0⟩,⟨7,0,0⟩,⟨8,0,0⟩]
theorem Aps(w:World):Bc (V2 Acp) (I1 Ana) w:=jZ rfl rfl λi o c h _=>by
 have:o=.dead:=by have:=List.mem_of_getElem? h;exact List.eq_of_mem_replicate this
 subst this;trivial
theorem iF:DE (V2 Acp) G:=ar λa b=>by
 have b:a<9:=b;refine⟨⟨a,0,0⟩,?_,rfl,rfl⟩
 match a,b with
 |0,_|1,_|2,_|3,_|4,_|5,_|6,_|7,_|8,_=>rfl
abbrev h0:H:=I1 Ana
abbrev PP:Program:=Proofs.Tryz.prog
abbrev W1:CF:=SW PP G
theorem use{a:FuncId}{b:List U}{r:U}(c:Pure PP G h0 a b r)(d:IJ b=true)(f:plain r=true){g:H}{h:KV}(i:h r g):W1 (.func a) b g h:=kW Aps iF rfl c d f i
theorem Ex{a:FuncId}{b:List U}{r:U}(c:Pure PP G h0 a b r){d:H}{k:KV}(f:k r d)(g:IJ b=true:=by rfl)(h:plain r=true:=by rfl):W1 (.func a) b d k:=use c g h f
theorem Bgr(s t:List UInt8):Pure PP G h0 214 [S s,S t] (.bool (decide (s.take t.length=t))):=by
 refine Amq (n:=1) AJ (Azg ?_);unfold QC;refine Dm (λe=>?_) (λe=>?_)
 · rw[Gl,decide_eq_true_eq] at e;have e:t.length≤s.length:=zb.1 e;refine fU e ?_;rw[En]
 · rw[Gl,decide_eq_false_iff_not] at e;have e:¬t.length≤s.length:=λh=>e (zb.2 h);have:¬s.take t.length=t:=λh=>by have:=congrArg yI h;simp at this;omega
   show U.bool false=_;rw[decide_eq_false this]
theorem Ayh(s t:List UInt8):Pure PP G h0 170 [S s,S t] (.bool (decide (s.take t.length=t))):=by refine Ami (n:=1) AJ (Bcz ?_);exact Ex (Bgr s t) (rfl:U.bool _=U.bool _)
end Go.Den
namespace Go.Den
open Go.RowKit
set_option maxRecDepth 100000
theorem pure_run{a:FuncId}{b:List U}{r:U}(c:calls 100000 100000 (.func a) b h0 (λv _=>v=r)=(r=r)):Pure PP G h0 a b r:=
 Wv (Mk 100000 100000) (c.mpr rfl)
theorem LZ{s t:List UInt8}(h:s≠t):CL s.length (enc s) t.length (enc t)=false:=by rw[En,decide_eq_false h]
end Go.Den
namespace Go.Den
open Go.RowKit
set_option maxRecDepth 100000
theorem wrap64{n:Int}(a: -9223372036854775808≤n)(b:n≤9223372036854775807):wrap .i64 n=n:=by rw[Hd];simp[IntKind.wrap,IntKind.bits,IntKind.signed];omega
def Mv(L:List UInt8)(x:UInt8):Int:=Ij x.toNat L.length (enc L) 0
theorem UT(a:List UInt8)(x:UInt8):(Mv a x<0)↔x∉a:=by
 unfold Mv;rw[KM (by have:=x.toNat_lt;omega)];have b:x.toNat.toUInt8=x:=by rw[Nat.toUInt8,UInt8.ofNat_toNat]
 rw[b];cases c:a.findIdx? (·==x) with
 |none=>
  rw[List.findIdx?_eq_none_iff] at c;constructor
  · intro _ d;have:=c x d;simp at this
  · intro _;show(-1:Int)<0;omega
 |some j=>
  have f:=List.findIdx?_eq_some_iff_getElem.1 c;obtain⟨g,h,_⟩:=f;constructor
  · intro i;exfalso;have i:((0+j:Nat):Int)<0:=i;omega
  · intro d;exact absurd (by rw[←(beq_iff_eq.1 h)];exact List.getElem_mem g) d
theorem Ayd(a:List UInt8)(x:UInt8):Pure PP G h0 228 [S a,.int .u8 (vJ x.toNat)] (.int .i64 (Mv a x)):=by
 refine Amg ?_;refine By rfl ?_;have b:vU x.toNat 255=true:=wY (by have:=x.toNat_lt;omega);have e:C1 .indexByte [S a,.int .u8 (vJ x.toNat)] h0=some (.int .i64 (Mv a x),h0):=by show(wg (motive:=λ_=>Option (U×H)) none (some (.int .i64 (Ij x.toNat a.length (enc a) 0),h0)) (vU x.toNat 255))=_;rw[b];rfl
 rw[e,Ad]
theorem Bbj(L:List UInt8)(x:UInt8):Pure PP G h0 194 [S L,.int .u8 (vJ x.toNat)] (.int .i64 (Mv L x)):=by refine Alx (n:=1) AJ (Azx ?_);unfold Qx;refine Ex (Ayd L x) ?_;rw[AG]
theorem Aer(L:List UInt8)(x:UInt8):Pure PP G h0 215 [S L,.int .u8 (vJ x.toNat)] (.int .i64 (Mv L x)):=by refine Amc (n:=1) AJ (Beg ?_);unfold Qp;refine Ex (Bbj L x) ?_;rw[AG]
theorem toNat_eq(a:UInt8)(n:Nat)(b:n<256):AN (vJ a.toNat) (vJ n)=decide (a=UInt8.ofNat n):=by
 rw[Fi,Bool.eq_iff_iff,beq_iff_eq,decide_eq_true_eq];constructor
 · intro c;have c:a.toNat=n:=vJ.inj c;subst c;simp
 · intro c;subst c;show vJ _=vJ _;congr 1;simp;omega
theorem Rm(s:List UInt8):CL s.length (enc s) 0 0=decide (s=[]):=En (t:=[])
end Go.Den
noncomputable section
namespace Go.Den
open Go.RowKit
set_option maxRecDepth 100000
def Qj(x:U):Bool:=match x with
 |.str l _=>vU l 1000000
 |_=>false
def ltV(x y:U):Bool:=match x with
 |.str l c=>match y with
  |.str m d=>qD l c m d
  |_=>false
 |_=>false
def Tj(x y:U):Bool:=match x with
 |.str l c=>match y with
  |.str m d=>CL l c m d
  |_=>false
 |_=>false
def gp(x:U)(l:List U):List U:=wj [x] (λa r b=>wg (a::b) (x::a::r) (ltV x a)) l
def Xj(a:Es):List U:=wj [] (λe _ b=>gp e.1 b) a
def TE{a:Type}(p:a→Bool)(l:List a):Bool:=wj true (λx _ b=>wg false b (p x)) l
def Nb(a:Es):Bool:=wj true (λe r b=>An (TE (λf=>An (Bm (Tj e.1 f.1)) (Bm (vS e.2.2 f.2.2))) r) b) a
def Nt(a:Es)(b:Nat):Bool:=An (vU (len a) 1000) (An (TE (λe=>An (Qj e.1) (vU (Nat.add e.2.2 1) b)) a) (Nb a))
def QG(l:List U):(List U→Prop)→Prop:=wj (motive:=λ_=>(List U→Prop)→Prop) (λK=>K []) (λx _ a K=>BB x (λx=>a (λr=>K (x::r)))) l
def Xn(a:Es)(b:Nat)(c:H)(d:KV):Prop:=
 V (Nt a b) (QG (Xj a) (λf=>wj (d .Af c) (λ_ _ _=>Hp.Bu c (.row (Ai f 0 .e) (len f) 0 9 false) (λg h=>d (.slice g 0 (len f) 1 false) h)) f)) False
def UM(v:U)(K:P→Prop):Prop:=match v with
 |.map m=>K m
 |_=>False
def sK(v:U)(a:H)(b:KV):Prop:=match v with
 |.func (.func c) [] [.ptr p o]=>V (An (vS c 66) (vS o 0)) (match a.at p with
  |.row t n _ _ d=>V (An d (vU 1 n)) (UM (AD t 0) (λf=>match a.at f with
   |.map g h=>Xn g h a b
   |_=>False)) False
  |_=>False) False
 |_=>False
def VF(a:List U)(K:U→Prop):Prop:=match a with
 |[v]=>K v
 |_=>False
def Ml(m n:Nat):CF:=Nat.rec (λ_ _ _ _=>False) (λ_ c fn a h k=>Fn.rec
 (λi=>V (vS i 37) (VF a (λv=>sK v h k)) (Uv c m i a h k))
 (λ_=>False) (λ_ _=>False) (λ_ _ _ _=>False) (λl=>LR env c (PG PP env G) l a h k) fn) n
end Go.Den
namespace Go.Den
open Go.RowKit
set_option maxRecDepth 100000
abbrev sv(b:List UInt8):U:=.str b.length (enc b)
theorem Axd{μ:Mu}{x:U}{v:Value}(a:Qj x=true)(b:VR μ x v):∃c:List UInt8,v=Proofs.encStr c∧x=sv c∧c.length≤1000000:=by
 cases x<;>try cases a
 obtain⟨d,rfl,f,g⟩:=b;have h:d.data.toList.length=d.size:=Array.length_toList;refine⟨d.data.toList,by simp,?_,?_⟩
 · rw[f,g,←h]
 · rw[h,←f];exact vX a
theorem Axg{μ:Mu}(b:List UInt8):VR μ (sv b) (Proofs.encStr b):=⟨⟨b.toArray⟩,rfl,by simp[ByteArray.size],by simp⟩
theorem Agp(a b:List UInt8):ltV (sv a) (sv b)=decide (a<b):=by show qD a.length (enc a) b.length (enc b)=_;unfold qD;rw[GV,GV,KI,Proofs.bytesLess_eq]
def MG(x:List UInt8):List (List UInt8)→List (List UInt8)
 |[]=>[x]
 |y::r=>if x<y then x::y::r else y::MG x r
def Ht:List (List UInt8)→List (List UInt8)
 |[]=>[]
 |x::l=>MG x (Ht l)
theorem bk(x:List UInt8):∀l:List (List UInt8),gp (sv x) (l.map sv)=(MG x l).map sv
 |[]=>rfl
 |y::l=>by
  show(wg (sv y::gp (sv x) (l.map sv)) (sv x::sv y::l.map sv) (ltV (sv x) (sv y)):List U)=_;rw[Agp,bk x l];have e:MG x (y::l)=if x<y then x::y::l else y::MG x l:=rfl
  rw[e];by_cases h:x<y
  · rw[if_pos h,decide_eq_true h];rfl
  · rw[if_neg h,decide_eq_false h];rfl
theorem O0:∀(a:Es)(b:List (List UInt8)),a.map (λe=>e.1)=b.map sv→Xj a=(Ht b).map sv
 |[],[],_=>rfl
 |[],_::_,c=>by cases c
 |_::_,[],c=>by cases c
 |e::a,d::b,c=>by have f:=ve.inj c;have h0:e.1=sv d:=f.1;show gp e.1 (Xj a)=(MG d (Ht b)).map sv;rw[O0 a b f.2,h0,bk]
theorem M8(x:List UInt8):∀l,(MG x l).Perm (x::l)
 |[]=>.refl _
 |y::l=>by
  unfold MG;by_cases h:x<y
  · rw[if_pos h]
  · rw[if_neg h];exact((M8 x l).cons y).trans (.swap x y l)
theorem Fb:∀l,(Ht l).Perm l
 |[]=>.refl _
 |x::l=>(M8 x (Ht l)).trans ((Fb l).cons x)
theorem Pq(x:List UInt8):∀l:List (List UInt8),l.Pairwise (λa b=>a≤b)→(MG x l).Pairwise (λa b=>a≤b)
 |[],_=>List.pairwise_singleton _ _
 |c::l,d=>by
  have f:=zv.1 d;unfold MG;by_cases g:x<c
  · rw[if_pos g];refine zv.2 ⟨λz h=>?_,d⟩;rcases vw.1 h with rfl|h
    · exact zw g
    · exact zx (zw g) (f.1 z h)
  · rw[if_neg g];refine zv.2 ⟨λz h=>?_,Pq x l f.2⟩;rcases vw.1 ((M8 x l).mem_iff.1 h) with rfl|h
    · exact List.not_lt.1 g
    · exact f.1 z h
theorem N6:∀l,(Ht l).Pairwise (λa b=>a≤b)
 |[]=>.nil
 |x::l=>Pq x _ (N6 l)
theorem Acj{b c:List (List UInt8)}(d:b.Perm c):(b.mergeSort λx f=>decide (x≤f))=Ht c:=by
 have g:∀a h i:List UInt8,leB a h=true→leB h i=true→leB a i=true:=λa h i j k=>by simp only[leB,decide_eq_true_eq] at *;exact zx j k
 have l:∀a h:List UInt8,(leB a h||leB h a)=true:=λa h=>by simp only[leB,Bool.or_eq_true,decide_eq_true_eq];exact List.le_total a h
 refine List.Perm.eq_of_pairwise (le:=λa h=>leB a h=true) (λa h _ _ j k=>?_) (List.pairwise_mergeSort g l b) ((N6 c).imp λ{a h} m=>by simpa[leB] using m) (((List.mergeSort_perm b leB).trans d).trans (Fb c).symm);simp only[leB,decide_eq_true_eq] at j k;exact List.le_antisymm j k
theorem Jq{a:Type}{p:a→Bool}:∀{l:List a},TE p l=true↔∀x∈l,p x=true
 |[]=>⟨λ_ _ b=>(yT b).elim,λ_=>rfl⟩
 |x::l=>by
  show(wg false (TE p l) (p x):Bool)=true↔_;cases e:p x with
  |true=>show TE p l=true↔_;rw[Jq];exact⟨λb c d=>(vw.1 d).elim (λf=>by rw[f];exact e) (b c),λb c d=>b c (xK _ d)⟩
  |false=>exact⟨(λb=>by cases b),λb=>by rw[b x (yS)] at e;cases e⟩
theorem gS{b:Bool}(h:Bm b=true):b=false:=by cases b with|true=>cases h|false=>rfl
theorem Yy(b:List UInt8):Tj (sv b) (sv b)=true:=by show An (vS b.length b.length) (vS (enc b) (enc b))=true;rw[wZ,wZ];rfl
theorem UP:∀{b:Es}{c:List (List UInt8)},b.map (λe=>e.1)=c.map sv→Nb b=true→(b.map λe=>e.2.2).Nodup∧c.Nodup
 |[],[],_,_=>⟨.nil,.nil⟩
 |[],_::_,d,_=>by cases d
 |_::_,[],d,_=>by cases d
 |e::b,g::c,d,h=>by
  have i:=ve.inj d;have h:An (TE (λf=>An (Bm (Tj e.1 f.1)) (Bm (vS e.2.2 f.2.2))) b) (Nb b)=true:=h;obtain⟨a,j⟩:=Ao h;have a:=Jq.1 a;obtain⟨k,l⟩:=UP i.2 j;refine⟨xX.2 ⟨λm=>?_,k⟩,xX.2 ⟨λm=>?_,l⟩⟩
  · obtain⟨f,n,o⟩:=xQ.1 m;have:=gS (Ao (a f n)).2;rw[o,wZ] at this;cases this
  · have:sv g∈b.map λe=>e.1:=by rw[i.2];exact zy m
    obtain⟨f,n,o⟩:=xQ.1 this;have:=gS (Ao (a f n)).1;have h0:e.1=sv g:=i.1;have o:f.1=sv g:=o;rw[o,h0,Yy] at this;cases this
theorem Aop{μ:Mu}:∀{a:Es}{b:List MapEntry},Ez μ a b→(∀e∈a,Qj e.1=true)→∃c:List (List UInt8),b.map (λx=>x.key)=c.map Proofs.encStr∧a.map (λe=>e.1)=c.map sv∧b.map (λx=>x.born)=a.map (λe=>e.2.2)∧∀d∈c,d.length≤1000000
 |[],_,g,_=>by cases(show _=[] from g);exact⟨[],rfl,rfl,rfl,λ_ g=>(yT g).elim⟩
 |e::a,_,⟨x,b,rfl,h,_,i,j⟩,k=>by
  obtain⟨d,l,m,n⟩:=Axd (k e (yS)) h;obtain⟨c,k1,k2,k3,k4⟩:=Aop j λf o=>k f (xK _ o);refine⟨d::c,by simp[l,k1],by simp[m,k2],by simp[←i,k3],λp q=>?_⟩;rcases vw.1 q with rfl|q
  · exact n
  · exact k4 p q
theorem Bc.Aza{a:Type}{μ:Mu}{b:Hp a}{c d:World}(f:Bc μ b c)(g:Below c.heap.size c d){o:Ob a}{l:Loc}(h:c.heap.size≤l.blk)(i:∀j,Mu.le μ j→Ke j d l o):
 Bc (μ.set b.next l) (b.new o) d∧BF μ b c (μ.set b.next l) (b.new o) d:=by
 have k:μ b.next=Option.none:=f.none (Nat.le_refl _);have m:=Mu.LU (l:=l) k;have n:∀p q,b.at p≠.dead→μ p=some q→q.blk<c.heap.size:=λp q s t=>(f.ob p q s t).lt s;have u:(b.new o).next.nat=b.next.nat+1:=P.Ce _;refine⟨⟨?_,?_,?_,?_⟩,⟨m,g.size,λv w _=>g.block v w,?_,⟨by omega,λp s e=>?_⟩,g.os,g.tape,g.output⟩⟩
 · intro p q s;rw[u];by_cases e:p=b.next
   · subst e;omega
   · rw[Mu.Bs _ _ e] at s;have:=f.fresh p q s;omega
 · intro p s;rw[u] at s;rw[CO,if_neg (λe=>by subst e;omega)];exact f.dead p (by omega)
 · intro p q s t;rw[CO] at s ⊢;by_cases e:p=b.next
   · subst e;rw[if_pos rfl];rw[Mu.BD] at t;cases t;exact i _ m
   · rw[if_neg e] at s ⊢;rw[Mu.Bs _ _ e] at t;have r:=f.ob p q s t;exact(r.mono m).world (g.block _ (r.lt s))
 · intro p x q y s a t h j;rw[CO] at s a;by_cases e:p=b.next
   · by_cases d:x=b.next
     · rw[e,d]
     · rw[if_neg d] at a;rw[e,Mu.BD] at t;cases t;rw[Mu.Bs _ _ d] at h;have:=n x y a h;omega
   · rw[if_neg e] at s;rw[Mu.Bs _ _ e] at t;have k:b.at p≠.dead:=λc=>by rw[c] at s;cases s
     by_cases d:x=b.next
     · rw[d,Mu.BD] at h;cases h;have:=n p q k t;omega
     · rw[if_neg d] at a;rw[Mu.Bs _ _ d] at h;exact f.inj p x q y s a t h j
 · rintro v w ⟨p,q,s,t,rfl⟩;rw[CO] at s;by_cases e:p=b.next
   · rw[e,Mu.BD] at t;cases t;omega
   · rw[if_neg e] at s;rw[Mu.Bs _ _ e] at t;exact⟨p,q,s,t,rfl⟩
 · have u:p≠b.next:=λd=>by subst d;omega
   exact⟨by rw[Mu.Bs _ _ u];exact e,by rw[CO,if_neg u]⟩
theorem MR:∀(l:List U)(K:List U→Prop),QG l K=K l
 |[],_=>rfl
 |x::l,K=>by show BB x (λx=>QG l (λr=>K (x::r)))=_;rw[BI,MR l]
theorem Bhk:PP.underlying 9=some .string:=Proofs.Tryz.underlying9
theorem jh{a:List UInt8}(b:a.length≤1000000):keyOf PP 9 (Proofs.encStr a)=some (.string a):=by
 have c:(ByteArray.mk a.toArray).size≤maxLen:=by
  have:(ByteArray.mk a.toArray).size=a.length:=by simp[ByteArray.size]
  rw[this];exact vY b (by decide)
 have:=WideMaps.keyOf_string_mk (P:=PP) Bhk c;rw[this]
theorem Agc{μ:Mu}{b:H}{q:World}(b1:Bc μ b q){p b6:P}{t:Tm}{n z:Nat}{e:TypeId}{k:Es}{a3:Nat}(d3:b.at p=.row t n z e true)(f7:0<n)(g5:AD t 0=.map b6)(d1:b.at b6=.map k a3)(a8:Nt k a3=true){a9:KV}
 (f2:QG (Xj k) (λc=>wj (a9 .Af b) (λ_ _ _=>Hp.Bu b (.row (Ai c 0 .e) (len c) 0 9 false) (λd u=>a9 (.slice d 0 (len c) 1 false) u)) c)) {o:Loc} (f6:μ p=some o):
 Calls PP 37 #[.func (.func 66) #[] #[.pointer (some ⟨o.blk,o.off+0,none⟩)]] q λe b7=>∃v s av u,e=.returned v∧Bc s u b7∧BF μ b q s u b7∧VR s av v∧a9 av u:=by
 obtain⟨a7,w⟩:=Ao a8;obtain⟨w,c3⟩:=Ao w;have a7:=vX a7;rw[BU] at a7;have w:=Jq.1 w;have y:=b1.ob p o (by rw[d3];exact λe=>nomatch e) f6;rw[d3] at y;obtain⟨cs,h6,c7,e5,g7,_⟩:=y;obtain⟨f9,i1⟩:=g7 rfl;obtain⟨i2,d4,d5,_⟩:=e5.2.2 0 f7;rw[g5] at d5;obtain⟨b0,f5,rfl⟩:=d5;have d2:=b1.ob b6 b0 (by rw[d1];exact λe=>nomatch e) f5;rw[d1] at d2;obtain⟨i,g8,e8⟩:=d2;obtain⟨h,b2,b3,b4,b8⟩:=Aop e8 λe e7=>(Ao (w e e7)).1;obtain⟨h2,h3⟩:=UP b3 c3;have f4:i.size=k.length:=by have:=congrArg yI b4;simpa using this
 have h7:h.length=k.length:=by have:=congrArg yI b3;simpa using this.symm
 rw[f9] at d4 ⊢;have b5:q.cell? ⟨o.blk,0,none⟩=some (.map (some b0.blk)):=by rw[GQ c7];exact d4
 have e1:o.blk<q.heap.size:=(Array.getElem?_eq_some_iff.1 c7).1;let j:Value→Option (DataW Unit×List MemPlace):=λ_=>some (.nil,[]);have f3:∀x∈i.toList,∃d∈h,x.key=Proofs.encStr d:=λx a0=>by
  have:x.key∈h.map Proofs.encStr:=by rw[←b2];exact zy a0
  obtain⟨d,m,e⟩:=xQ.1 this;exact⟨d,m,e.symm⟩
 have g1:∀x∈i.toList,∀d,x.key=Proofs.encStr d→d∈h→WideElems.rd PP 9 j x=some (.string d,.nil):=λx _ d e m=>by unfold WideElems.rd;rw[e,jh (b8 d m)];rfl
 have F1:∀x∈i.toList,x.born<a3:=λx a0=>by
  have:x.born∈k.map λe=>e.2.2:=by rw[←b4];exact zy a0
  obtain⟨f,e9,c0⟩:=xQ.1 this;have:=vX (Ao (w f e9)).2;have d9:Nat.add f.2.2 1=f.2.2+1:=rfl;have c0:f.2.2=x.born:=c0;omega
 have F2:(i.toList.map λx=>x.born).Nodup:=by rw[b4];exact h2
 have F3:(i.toList.map λx=>x.key).Nodup:=by rw[b2];exact List.pairwise_map.2 (h3.imp λ{a d} e3 e=>e3 (encStr_inj e))
 have d7:WideElems.Fit PP 9 j i a3:=⟨vY (by rw[f4];exact a7) (by decide),⟨F1,F2,F3⟩,λx a0=>by obtain⟨d,m,e⟩:=f3 x a0;exact⟨_,g1 x a0 d e m⟩⟩;let D0:DataW Unit:=.map ((i.toList.map (WideElems.rg PP 9 j)).foldr DataW.insert []);have g0:q.ownsMap PP 9 j b0.blk k.length D0:=⟨i,a3,g8,d7,by omega,rfl⟩;have c9:(strKeys D0).Perm h:=by
  show(((i.toList.map (WideElems.rg PP 9 j)).foldr DataW.insert []).map λp=>Go.strOf p.1).Perm h;refine((WideShapes.sorted_perm _).map _).trans ?_;rw[List.map_map];have:i.toList.map ((λp=>Go.strOf p.1)∘WideElems.rg PP 9 j)=h:=by
   have h1:∀(a6:List MapEntry)(cs:List (List UInt8)),a6.map (λx=>x.key)=cs.map Proofs.encStr→(∀a1∈cs,a1.length≤1000000)→a6.map ((λp=>Go.strOf p.1)∘WideElems.rg PP 9 j)=cs:=by
    intro a6;induction a6 with
    |nil=>intro cs b _;cases cs with
     |nil=>rfl
     |cons=>cases b
    |cons d6 a6 g9=>intro cs b a8;cases cs with
     |nil=>cases b
     |cons a1 cs=>have b:=ve.inj b;rw[List.map_cons,g9 cs b.2 λd8 e6=>a8 d8 (xK _ e6)];congr 1;show Go.strOf ((WideElems.rd PP 9 j d6).getD _).1=a1;unfold WideElems.rd;have h0:d6.key=Proofs.encStr a1:=b.1;rw[h0,jh (a8 a1 yS)];rfl
   exact h1 _ _ b2 b8
  rw[this]
 have g4:Maps.size D0≤1000:=by show((i.toList.map (WideElems.rg PP 9 j)).foldr DataW.insert []).length≤1000;rw[length_sorted];simp;omega
 have g2:SeqGives Fence.wide 2 PP 66 #[.pointer (some ⟨o.blk,0,none⟩)] Proofs.encStr (λa5=>a5.Perm (strKeys D0)) (Maps.size D0) q:=
  Proofs.AnyZ.keys_gives (ρ:=Proofs.Tryz.keys38_ren) { Proofs.Tryz.keys38 with } Fence.wide _ trivial rfl (by omega) o.blk b0.blk k.length D0 q e1 b5 g0
 have b9:=Proofs.AnyZ.sorted_in Proofs.Tryz.sorted37 Fence.wide 5 trivial trivial trivial trivial rfl (by omega) (Proofs.Tryz.sorts37 _) (Proofs.enters_of Proofs.Tryz.func65 (by kernel_rfl) rfl) 66 #[.pointer (some ⟨o.blk,0,none⟩)] trivial (Proofs.enters_of Proofs.Tryz.func66 (by kernel_rfl) rfl) _ (Maps.size D0) (vY g4 (by decide)) (by omega) q g2;change CallsIn _ _ PP 37 _ _ _ at b9;refine(callsIn_wide.1 b9).mono ?_;rintro d9 b7 ⟨v,a5,rfl,c5,⟨d0,y⟩,f8,m⟩;rw[Acj (c5.trans c9)] at d0 y;have g3:a5.length=h.length:=(c5.trans c9).length_eq;have r:=f2;rw[MR,O0 k h b3] at r;generalize e2:Ht h=c at r d0 y;have c6:c.length=h.length:=by rw[←e2];exact(Fb h).length_eq
 rcases y with⟨rfl,h0⟩|⟨c1,a2,a4,rfl,f0,e4,i0,h8,h9,g6⟩
 · cases c with
   |nil=>exact⟨_,μ,.Af,b,rfl,b1.below m,.below m,rfl,r⟩
   |cons=>simp at c6;omega
 · cases c with
   |nil=>have h0:a5=[]:=List.eq_nil_of_length_eq_zero (by rw[g3,←c6];rfl);exact nomatch f8.2 h0
   |cons x c=>
    have r:Hp.Bu b (.row (Ai ((x::c).map sv) 0 .e) (len ((x::c).map sv)) 0 9 false) (λd u=>a9 (.slice d 0 (len ((x::c).map sv)) 1 false) u):=r;rw[Hf,BU] at r;have c4:((x::c).map sv).length=a5.length:=by rw[s9];omega
    generalize c2:(x::c).map sv=L at r c4;have b5:∀(s:Mu)(g:Nat),g<L.length→∃v,a4[0+g]? =some v∧VR s (AD (Ai L 0 .e) g) v∧(AD (Ai L 0 .e) g).one=true:=λs g hi=>by
     have c8:g<(x::c).length:=by rw[←c2,s9] at hi;exact hi
     have f1:a4.toList[g]? =some (Proofs.encStr (x::c)[g]):=by have:=congrArg (λl=>l[g]?) g6;simp only[List.getElem?_take] at this;rw[if_pos (by omega),ya,wq c8] at this;simpa using this
     have e0:AD (Ai L 0 .e) g=sv (x::c)[g]:=by rw[Am,if_pos (by omega),List.getD_eq_getElem?_getD,←c2,ya,Nat.sub_zero,wq c8];rfl
     rw[e0];refine⟨_,?_,Axg _,rfl⟩;rw[wJ,←Array.getElem?_toList];exact f1
    obtain⟨h4,h5⟩:=b1.Aza m (o:=.row (Ai L 0 .e) L.length 0 9 false) (l:=⟨c1,0,a2⟩) f0 λs _=>⟨a4,(0,0),e4,⟨by show a2=a4.size;omega,by show 0+L.length≤a4.size;omega,b5 s⟩,(λe=>nomatch e),λ_ g _ _=>by show¬(0≤g∧g<0);omega⟩;refine⟨_,μ.set b.next ⟨c1,0,a2⟩,.slice b.next 0 L.length 1 false,_,rfl,h4,h5,⟨_,_,by rw[c4],by omega,⟨(λe=>nomatch e),_,Mu.BD _ _ _⟩,.inr ⟨_,Mu.BD _ _ _,rfl,?_⟩⟩,r⟩;show 0+0+a2*1≤a2;omega
theorem Ada{v:U}{a:H}{b:KV}(c:sK v a b):W1 (.func 37) [v] a b:=by
 unfold sK at c;split at c
 · rename_i d p o;cases f:An (vS d 66) (vS o 0) with
   |false=>rw[f] at c;exact c.elim
   |true=>
    rw[f] at c;obtain⟨g,h⟩:=Ao f;obtain rfl:=vW g;obtain rfl:=vW h;have c:=(show(match a.at p with
     |.row t n _ _ i=>V (An i (vU 1 n)) (UM (AD t 0) (λj=>match a.at j with
      |.map k l=>Xn k l a b
      |_=>False)) False
     |_=>False:Prop) from c)
    split at c
    · rename_i t n z e i m;cases r:An i (vU 1 n) with
      |false=>rw[r] at c;exact c.elim
      |true=>
       rw[r] at c;obtain⟨rfl,r⟩:=Ao r;have c:UM (AD t 0) (λj=>match a.at j with
        |.map k l=>Xn k l a b
        |_=>False):=c
       unfold UM at c;split at c
       · rename_i j s;split at c
         · rename_i k l u;unfold Xn at c;cases w:Nt k l with
           |false=>rw[w] at c;exact c.elim
           |true=>
            rw[w] at c;intro μ i x y d f g h;have g:x=.func 37:=by cases x<;>first|exact g.symm|exact g.elim
            obtain⟨a,b,j,k,l⟩:=h;cases(show b=[] from l);obtain⟨f,i,ws,rfl,x,a,h,_⟩:=k;have x:f=.func 66:=by cases f<;>first|exact x.symm|exact x.elim
            have a:i=#[]:=by apply Array.ext';exact a
            obtain⟨q,b,l,⟨k,f,rfl⟩,i⟩:=h;cases(show b=[] from i);have l:ws=#[.pointer (some ⟨k.blk,k.off+0,none⟩)]:=by apply Array.ext';exact l
            have j:y=#[.func (.func 66) #[] #[.pointer (some ⟨k.blk,k.off+0,none⟩)]]:=by apply Array.ext';rw[j,x,a,l]
            subst g;subst j;exact .inl ⟨37,rfl,.inr ⟨Proofs.enters_of Proofs.Tryz.func37 (by kernel_rfl) rfl _ _,Agc d m (vX r) s u w c f⟩⟩
         · exact c.elim
       · exact c.elim
    · exact c.elim
 · exact c.elim
end Go.Den
namespace Go.Den
open Go.RowKit
set_option maxRecDepth 100000
theorem jO{a:List U}{b:H}{c:KV}(d:VF a (λv=>sK v b c)):W1 (.func 37) a b c:=by
 unfold VF at d;split at d
 · exact Ada d
 · exact d.elim
theorem JZ(a:Nat):∀n,C4 PP (CP env) G (λp=>p) (Ml a n)
 |0=>λ_ _ _ _ _ _ _ _ _ _ _ _ b=>b.elim
 |n+1=>λμ c d fn f g h i j k m o b=>by
  cases fn with
  |func q=>
   have b:V (vS q 37) (VF g (λv=>sK v c i)) (Uv (Ml a n) a q g c i):=b;cases r:vS q 37 with
   |true=>rw[r] at b;cases vW r;exact jO b μ d f h j k m o
   |false=>rw[r] at b;exact Y6 (JZ a n) (show Uv (Ml a n) a q g c i from b) μ d f h j k m o
  |yield l=>exact Pe mixed AO (JZ a n) (show LR env (Ml a n) (PG PP env G) l g c i from b) μ d f h j k m o
  |_=>exact b.elim
theorem Va{a:FuncId}{b:List U}{m n:Nat}(c:Ml m n (.func a) b h0 isT=True):Pure PP G h0 a b (.bool true):=
 Nw (Wv (JZ m n) (c.mpr trivial)) λ_ _ c=>Z8 c
end Go.Den
namespace Go.Den
open Go.RowKit
set_option maxRecDepth 100000
theorem UN{a b:Bool}{h:H}{k:Bool→H→Prop}:AM (λk1=>gate false a (k1 b h) (k1 true h)) k=k (a||b) h:=by cases a<;>rfl
end Go.Den
namespace Go.Den
open Go.RowKit
set_option maxRecDepth 100000
theorem G8{a b:Bool}{c:H}{Q:(Bool→H→Prop)→Prop}{d:Bool→H→Prop}(f:∀g,g b c→Q g)(h:d (a||b) c):AM (λk1=>gate false a (Q k1) (k1 true c)) d:=by
 cases a with
 |true=>exact h
 |false=>exact f d h
theorem DR{a b:Bool}{c:H}{Q:(Bool→H→Prop)→Prop}{d:Bool→H→Prop}(f:∀g,g b c→Q g)(h:d (a&&b) c):AM (λk1=>gate true a (Q k1) (k1 false c)) d:=by
 cases a with
 |true=>exact f d h
 |false=>exact h
theorem Gn{a:Type}{x:a}{K:a→Prop}:oV (some x) K=K x:=rfl
theorem M2(b:Bool):No b b=true:=by cases b<;>rfl
theorem C9{m:Nat}(h:m≤9223372036854775807):wrap .i64 (vJ m)=vJ m:=wrap64 (by show _≤((m:Nat):Int);omega) (by show((m:Nat):Int)≤_;omega)
end Go.Den
noncomputable section
namespace Go.Den
open Go.RowKit
set_option maxRecDepth 100000
theorem P.beq_refl:∀p:P,P.beq p p=true
 |.z=>rfl
 |.l p=>P.beq_refl p
 |.r p=>P.beq_refl p
section
variable{h:H}{o:Ob FT}{b c:P}
theorem CY(a:b.nat<h.next.nat):(h.new o).at b=h.at b:=by rw[CO,if_neg (λe=>by subst e;exact absurd a (Nat.lt_irrefl _))]
theorem AQ(a:c≠b):(h.put b o).at c=h.at c:=by rw[Eb,if_neg a]
theorem Bd:(h.new o).next.nat=h.next.nat+1:=P.Ce _
theorem Dc:(h.put b o).next=h.next:=rfl
end
def ub(x:UInt8):U:=.int .u8 (vJ x.toNat)
def TW(l:List UInt8):List U:=l.map ub
theorem OY:∀l:List UInt8,Ei (TW l)=some (l.map (·.toNat))
 |[]=>rfl
 |x::l=>by show(Option.rec none (λn=>Option.rec none (λl=>wg none (some (n::l)) (vU n 255)) (Ei (TW l))) (byteOfCell (ub x)):Option (List Nat))=_;rw[show byteOfCell (ub x)=some x.toNat from rfl,OY l];show(wg none (some (x.toNat::l.map (·.toNat))) (vU x.toNat 255):Option (List Nat))=_;rw[wY (by have:=x.toNat_lt;omega)];rfl
theorem bn:∀l:List UInt8,KP (l.map (·.toNat))=enc l
 |[]=>rfl
 |x::l=>by show x.toNat+256*KP (l.map (·.toNat))=_;rw[bn l];rfl
theorem ia(l:List UInt8):strOf (l.map (·.toNat))=S l:=by show U.str (len (l.map (·.toNat))) (KP (l.map (·.toNat)))=_;rw[BU,s9,bn]
abbrev TB:TypeId:=5
def ei8:TI:=⟨.int .u8,1,1,[.int .u8 (.ofNat 0)],false,true,[]⟩
def T1(n:Int):Tm:=Ai [.int .u8 n] 0 (Ai [.int .u8 (.ofNat 0)] 0 .e)
theorem Aof(n:Int)(a:H):AE env 79 (λe b=>Ap 1 [(0,.int .u8 n)] a e b)=some (.slice a.next 0 1 1 true,a.new (.row (T1 n) 1 0 TB true)):=by kernel_rfl
theorem ue(x y:U)(h:H):AB env .append [79,79] [x,y] h=BK (some false) x y h TB ei8:=by kernel_rfl
theorem Bgn(x y:U)(h:H):AB env .append [79,9] [x,y] h=BK (some false) x y h TB ei8:=by kernel_rfl
def L6(t:Tm)(l:List UInt8):Prop:=∀i (hi:i<l.length),AD t i=ub l[i]
theorem L6.get{t:Tm}{l:List UInt8}(a:L6 t l):Cp t l.length 0=TW l:=by
 rw[GB];apply List.ext_getElem
 · simp[TW]
 · intro b c d;have hi:b<l.length:=by simpa using c
   simp only[List.getElem_map,List.getElem_range,TW,wJ];exact a b hi
theorem W4{n:Nat}(a:n≤1099511627776):Bl ei8 n=true:=by have e:Bl ei8 n=An (An true true) (An (vU n 1099511627776) (vU (Nat.mul n 1) 140737488355328)):=rfl;rw[e,wY a,wY (show Nat.mul n 1≤140737488355328 by show n*1≤_;omega)];rfl
theorem Oi{b:P}{o n z:Nat}{t:Bool}{K:Nat→Prop}:Bz (.slice b o n z t) K=K n:=rfl
theorem Fh{K:Nat→Prop}:Bz .Af K=K 0:=rfl
theorem UA{A:Prop}:BE .Af .Af A=A:=rfl
theorem Aj{b:P}{o:Nat}{h:H}:Ag (.ptr b o) h=some (.ptr b o,h):=rfl
theorem KR{b:P}{K:U→Prop}:Ac 0 (.ptr b 0) K=K (.ptr b 0):=rfl
theorem Ii{b:P}{K:U→Prop}:Ac 1 (.ptr b 0) K=K (.ptr b 1):=rfl
theorem Bew{a:P}{b:H}{c:KV}(d:c (.ptr a 0) b):W1 (.func 151) [.ptr a 0] b c:=by refine Aln ?_;refine By rfl ?_;rw[show C1 .Fw [.ptr a 0] b=some (.ptr a 0,b) from rfl,Ad];exact d
theorem Aso(a:P):Dh env .neq 195 (.ptr a 0) (.ptr a 0)=some (.bool false):=by
 have e:dz env 195 (.ptr a 0) (.ptr a 0)=(wg none (some true) (P.beq a a):Option Bool):=by kernel_rfl
 have b:Dh env .neq 195 (.ptr a 0) (.ptr a 0)=ff (dz env 195 (.ptr a 0) (.ptr a 0)):=rfl;rw[b,e,P.beq_refl];rfl
theorem Auw(b:P):Dh env .eql 195 (.ptr b 0) .Bn=some (.bool false):=by kernel_rfl
theorem Akp:Dh env .eql 195 .Bn .Bn=some (.bool true):=by kernel_rfl
section
variable{h:H}{b:P}{t:Tm}
theorem Ahv(a:h.at b=.row t 2 0 197 true):D4 env h 195 283 (.ptr b 0)=some (.ptr b 0,h):=by
 have e:D4 env h 195 283 (.ptr b 0)=GP env 195 b 0 h (CG (h.at b)):=by kernel_rfl
 have c:GP env 195 b 0 h (CG (Ob.row t 2 0 197 true:Ob FT))=some (.ptr b 0,h):=by kernel_rfl
 rw[e,a,c]
theorem Aks(a:h.at b=.row t 2 0 197 true):D4 env h 283 195 (.ptr b 0)=some (.ptr b 0,h):=by
 have e:D4 env h 283 195 (.ptr b 0)=IC env b 0 197 h (CG (h.at b)):=by kernel_rfl
 have c:IC env b 0 197 h (CG (Ob.row t 2 0 197 true:Ob FT))=some (.ptr b 0,h):=by kernel_rfl
 rw[e,a,c]
theorem Akx{a:KV}(c:h.at b=.row t 2 0 197 true)(h0:AD t 0=.Bn∨AD t 0=.ptr b 0)
 (d:∀f g,f.at b=.row g 2 0 197 true→AD g 0=.ptr b 0→AD g 1=AD t 1→f.next=h.next→(∀i,i≠b→f.at i=h.at i)→a (.tuple []) f):W1 (.func 106) [.ptr b 0] h a:=by
 refine Apn (n:=1) AJ (Bej ?_);unfold P8;rw[Aj,Ad,KR];refine C6 c (by decide) ?_;rcases h0 with h0|h0
 · rw[h0,Akp,Gn,AL];refine By rfl ?_;rw[Ahv c,Ad];refine Bew ?_;rw[Aks c,Ad,Aj,Ad,KR];refine FU c (Nat.le_refl _) (by decide) rfl ?_;refine d _ _ (Bg _ _ _) ?_ ?_ rfl (λi j=>AQ j)
   · rw[Am];simp
   · rw[Am];simp
 · rw[h0,Auw,Gn,AL];refine AR rfl ?_;rw[Aj,Ad,KR];refine C6 c (by decide) ?_;rw[h0,Aso,Gn,AL];refine AR rfl ?_;exact d h t c h0 rfl rfl (λ_ _=>rfl)
end
theorem RR(a:H):∀(l:List UInt8),BH a 1 (S l)=some (l.length,TW l):=λl=>by
 show(some (l.length,byteCells l.length (enc l)):Option (Nat×List U))=_;have:∀l:List UInt8,byteCells l.length (enc l)=TW l:=by
  intro l;induction l with
  |nil=>rfl
  |cons x l b=>obtain⟨c,d⟩:=M5 x l;show(.int .u8 (.ofNat (Nat.mod (enc (x::l)) 256))::byteCells l.length (Nat.div (enc (x::l)) 256):List U)=_;rw[c,d,b];rfl
 rw[this]
theorem Anl(x y:U)(h:H):AB env .unsafeString [232,3] [x,y] h=I9 env x (Bf y) h:=by kernel_rfl
theorem Aph(x:U)(h:H):AB env .unsafeSliceData [79] [x] h=EK x h:=rfl
theorem isB:isByte env TB=true:=by kernel_rfl
end Go.Den
namespace Go.Den
set_option maxRecDepth 100000
theorem Ahy:Pure PP G h0 25 [.str 3 6499937] (.bool true):=Va (m:=5000) (n:=2000) (by kernel_rfl)
end Go.Den
