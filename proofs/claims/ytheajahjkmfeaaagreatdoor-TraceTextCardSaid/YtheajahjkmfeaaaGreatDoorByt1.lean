/-
 Proof.
-/
import Derived.Test.YtheajahjkmfeaaaGreatDoorRunE
import Derived.Test.YtheajahjkmfeaaaGreatDoorDenQ
import Derived.KernelRfl
noncomputable section
namespace Go.Den
open Go.RowKit
set_option maxRecDepth 100000
def Bd7:List (Ob FT):=List.replicate 9 .dead
def A3a:List Loc:=[⟨0,0,0⟩,⟨1,0,0⟩,⟨2,0,0⟩,⟨3,0,0⟩,⟨4,0,0⟩,⟨5,0,0⟩,⟨6,0,0⟩,⟨7,0,0⟩,⟨8,0,0⟩]
theorem Bdg(w:World):Sim (mu0 A3a) (Aa3 Bd7) w:=As8 rfl rfl fun i o c h _=>by
 have:o=.dead:=by
  have:=List.mem_of_getElem? h
  exact List.eq_of_mem_replicate this
 subst this;trivial
theorem Avv:Hj (mu0 A3a) G:=Ak1 fun g hg=>by
 have hg:g<9:=hg
 refine⟨⟨g,0,0⟩,?_,rfl,rfl⟩
 match g,hg with
 |0,_|1,_|2,_|3,_|4,_|5,_|6,_|7,_|8,_=>rfl
abbrev h0:H:=Aa3 Bd7
abbrev PP:Program:=Proofs.Tryz.prog
abbrev W1:CF:=SW PP G
theorem use{F:FuncId}{args:List AV}{r:AV}(hp:Pure PP G h0 F args r)(ha:Qs args=true)(hr:plain r=true){h:H}{k:KV}(hk:k r h):W1 (.func F) args h k:=Aua Bdg Avv rfl hp ha hr hk
theorem Lj{F:FuncId}{args:List AV}{r:AV}(hp:Pure PP G h0 F args r){h:H}{k:KV}(hk:k r h)(ha:Qs args=true:=by rfl)(hr:plain r=true:=by rfl):W1 (.func F) args h k:=use hp ha hr hk
theorem Boy(s t:List UInt8):Pure PP G h0 186 [S s,S t] (.bool (decide (s.take t.length=t))):=by
 refine Bb7 (n:=1) Bg (Bni ?_)
 unfold Aej
 refine Fa (fun e=>?_) (fun e=>?_)
 · rw[Mn,decide_eq_true_eq] at e
   have e:t.length≤s.length:=Int.ofNat_le.1 e
   refine Alb e ?_
   rw[Fj]
 · rw[Mn,decide_eq_false_iff_not] at e
   have e:¬t.length≤s.length:=fun h=>e (Int.ofNat_le.2 h)
   have:¬s.take t.length=t:=fun h=>by
    have:=congrArg List.length h
    simp at this;omega
   show AV.bool false=_
   rw[decide_eq_false this]
theorem Bo5(s t:List UInt8):Pure PP G h0 141 [S s,S t] (.bool (decide (s.take t.length=t))):=by
 refine Bci (n:=1) Bg (Bnt ?_)
 exact Lj (Boy s t) (rfl:AV.bool _=AV.bool _)
end Go.Den
namespace Go.Den
open Go.RowKit
set_option maxRecDepth 100000
theorem pure_run{F:FuncId}{args:List AV}{r:AV}(h:calls 100000 100000 (.func F) args h0 (fun v _=>v=r)=(r=r)):Pure PP G h0 F args r:=
 A2t (Abj 100000 100000) (h.mpr rfl)
theorem Qj{s t:List UInt8}(h:s≠t):Dv s.length (enc s) t.length (enc t)=false:=by rw[Fj,decide_eq_false h]
end Go.Den
namespace Go.Den
open Go.RowKit
set_option maxRecDepth 100000
theorem wrap64{n:Int}(h1: -9223372036854775808≤n)(h2:n≤9223372036854775807):wrap .i64 n=n:=by
 rw[Mh]
 simp[IntKind.wrap,IntKind.bits,IntKind.signed]
 omega
def Uo(L:List UInt8)(x:UInt8):Int:=Oz x.toNat L.length (enc L) 0
theorem Aab(L:List UInt8)(x:UInt8):(Uo L x<0)↔x∉L:=by
 unfold Uo
 rw[Oy (by have:=x.toNat_lt;omega)]
 have ex:x.toNat.toUInt8=x:=by rw[Nat.toUInt8,UInt8.ofNat_toNat]
 rw[ex]
 cases h:L.findIdx? (·==x) with
 |none=>
  rw[List.findIdx?_eq_none_iff] at h
  constructor
  · intro _ hm;have:=h x hm;simp at this
  · intro _;show(-1:Int)<0;omega
 |some j=>
  have hj:=List.findIdx?_eq_some_iff_getElem.1 h
  obtain⟨hlt,he,_⟩:=hj
  constructor
  · intro hn;exfalso
    have hn:((0+j:Nat):Int)<0:=hn
    omega
  · intro hm;exact absurd (by rw[←(beq_iff_eq.1 he)];exact List.getElem_mem hlt) hm
theorem Bot(L:List UInt8)(x:UInt8):Pure PP G h0 220 [S L,.int .u8 (Int.ofNat x.toNat)] (.int .i64 (Uo L x)):=by
 refine Bbv ?_
 refine Dp rfl ?_
 have hx:Nat.ble x.toNat 255=true:=Nat.ble_eq_true_of_le (by have:=x.toNat_lt;omega)
 have e:Gl .indexByte [S L,.int .u8 (Int.ofNat x.toNat)] h0=some (.int .i64 (Uo L x),h0):=by
  show(Bool.rec (motive:=fun _=>Option (AV×H)) none (some (.int .i64 (Oz x.toNat L.length (enc L) 0),h0)) (Nat.ble x.toNat 255))=_
  rw[hx];rfl
 rw[e,Ad]
theorem Bjn(L:List UInt8)(x:UInt8):Pure PP G h0 188 [S L,.int .u8 (Int.ofNat x.toNat)] (.int .i64 (Uo L x)):=by
 refine Bb5 (n:=1) Bg (Bng ?_)
 unfold Aeh
 refine Lj (Bot L x) ?_
 rw[Bj]
theorem Baz(L:List UInt8)(x:UInt8):Pure PP G h0 187 [S L,.int .u8 (Int.ofNat x.toNat)] (.int .i64 (Uo L x)):=by
 refine Bb6 (n:=1) Bg (Bnh ?_)
 unfold Aei
 refine Lj (Bjn L x) ?_
 rw[Bj]
theorem toNat_eq(c:UInt8)(n:Nat)(hn:n<256):Bx (Int.ofNat c.toNat) (Int.ofNat n)=decide (c=UInt8.ofNat n):=by
 rw[Jw,Bool.eq_iff_iff,beq_iff_eq,decide_eq_true_eq]
 constructor
 · intro h
   have h:c.toNat=n:=Int.ofNat.inj h
   subst h;simp
 · intro h;subst h
   show Int.ofNat _=Int.ofNat _
   congr 1
   simp;omega
theorem Wh(s:List UInt8):Dv s.length (enc s) 0 0=decide (s=[]):=Fj (t:=[])
end Go.Den
noncomputable section
namespace Go.Den
open Go.RowKit
set_option maxRecDepth 100000
def Ad8(x:AV):Bool:=match x with
 |.str l _=>Nat.ble l 1000000
 |_=>false
def ltV(x y:AV):Bool:=match x with
 |.str l c=>match y with
  |.str m d=>ltS l c m d
  |_=>false
 |_=>false
def Ahj(x y:AV):Bool:=match x with
 |.str l c=>match y with
  |.str m d=>Dv l c m d
  |_=>false
 |_=>false
def A06(x:AV)(l:List AV):List AV:=List.rec [x] (fun y r ih=>Bool.rec (y::ih) (x::y::r) (ltV x y)) l
def Amd(es:Es):List AV:=List.rec [] (fun e _ ih=>A06 e.1 ih) es
def Al0{α:Type}(p:α→Bool)(l:List α):Bool:=List.rec true (fun x _ ih=>Bool.rec false ih (p x)) l
def Abu(es:Es):Bool:=List.rec true (fun e r ih=>An (Al0 (fun f=>An (Ci (Ahj e.1 f.1)) (Ci (Nat.beq e.2.2 f.2.2))) r) ih) es
def Abe(es:Es)(ck:Nat):Bool:=An (Nat.ble (len es) 1000) (An (Al0 (fun e=>An (Ad8 e.1) (Nat.ble (Nat.add e.2.2 1) ck)) es) (Abu es))
def Af1(l:List AV):(List AV→Prop)→Prop:=List.rec (motive:=fun _=>(List AV→Prop)→Prop) (fun K=>K []) (fun x _ ih K=>Cj x (fun x=>ih (fun r=>K (x::r)))) l
def sK2(es:Es)(ck:Nat)(h:H)(k:KV):Prop:=
 cnd (Abe es ck) (Af1 (Amd es) (fun T=>List.rec (k .Ai h) (fun _ _ _=>Hp.Cs h (.row (Aj T 0 .e) (len T) 0 9 false) (fun b h'=>k (.slice b 0 (len T) 1 false) h')) T)) False
def Asf(v:AV)(K:P→Prop):Prop:=match v with
 |.map m=>K m
 |_=>False
def sK(v:AV)(h:H)(k:KV):Prop:=match v with
 |.func (.func i) [] [.ptr p o]=>cnd (An (Nat.beq i 61) (Nat.beq o 0)) (match h.at p with
  |.row t n _ _ w=>cnd (An w (Nat.ble 1 n)) (Asf (Aw t 0) (fun m=>match h.at m with
   |.map es ck=>sK2 es ck h k
   |_=>False)) False
  |_=>False) False
 |_=>False
def Aqz(a:List AV)(K:AV→Prop):Prop:=match a with
 |[v]=>K v
 |_=>False
def Abk(m n:Nat):CF:=Nat.rec (fun _ _ _ _=>False) (fun _ c fn a h k=>Fn.rec
 (fun i=>cnd (Nat.beq i 37) (Aqz a (fun v=>sK v h k)) (Ar1 c m i a h k))
 (fun _=>False) (fun _ _=>False) (fun _ _ _ _=>False) (fun l=>Tc env c (Aah PP env G) l a h k) fn) n
end Go.Den
namespace Go.Den
open Go.RowKit
set_option maxRecDepth 100000
theorem Aaw{a b:Bool}{h:H}{k:Bool→H→Prop}:Ay (fun k1=>gate false a (k1 b h) (k1 true h)) k=k (a||b) h:=by
 cases a<;>rfl
theorem Nj{a b:Bool}{h:H}{k:Bool→H→Prop}:Ay (fun k1=>gate true a (k1 b h) (k1 false h)) k=k (a&&b) h:=by
 cases a<;>rfl
end Go.Den
namespace Go.Den
open Go.RowKit
set_option maxRecDepth 100000
theorem Aae{a b:Bool}{h:H}{Q:(Bool→H→Prop)→Prop}{k:Bool→H→Prop}(hq:∀k',k' b h→Q k')(hk:k (a||b) h):Ay (fun k1=>gate false a (Q k1) (k1 true h)) k:=by
 cases a with
 |true=>exact hk
 |false=>exact hq k hk
theorem Mc{a b:Bool}{h:H}{Q:(Bool→H→Prop)→Prop}{k:Bool→H→Prop}(hq:∀k',k' b h→Q k')(hk:k (a&&b) h):Ay (fun k1=>gate true a (Q k1) (k1 false h)) k:=by
 cases a with
 |true=>exact hq k hk
 |false=>exact hk
theorem Oj{α:Type}{x:α}{K:α→Prop}:oV (some x) K=K x:=rfl
theorem Xg(b:Bool):Ajq b b=true:=by cases b<;>rfl
theorem Pu{m:Nat}(h:m≤9223372036854775807):wrap .i64 (Int.ofNat m)=Int.ofNat m:=wrap64 (by show _≤((m:Nat):Int);omega) (by show((m:Nat):Int)≤_;omega)
end Go.Den
noncomputable section
namespace Go.Den
open Go.RowKit
set_option maxRecDepth 100000
theorem P.beq_refl:∀p:P,P.beq p p=true
 |.z=>rfl
 |.l p=>P.beq_refl p
 |.r p=>P.beq_refl p
section
variable{h:H}{o:Ob FT}{b c:P}
theorem Gq(hb:b.nat<h.next.nat):(h.new o).at b=h.at b:=by
 rw[Fs,if_neg (fun e=>by subst e;exact absurd hb (Nat.lt_irrefl _))]
theorem Az(hc:c≠b):(h.put b o).at c=h.at c:=by rw[Rm,if_neg hc]
theorem Bf:(h.new o).next.nat=h.next.nat+1:=P.Dx _
theorem Dq:(h.put b o).next=h.next:=rfl
end
def ub(x:UInt8):AV:=.int .u8 (Int.ofNat x.toNat)
def ubs(l:List UInt8):List AV:=l.map ub
theorem Abf:∀l:List UInt8,Gs (ubs l)=some (l.map (·.toNat))
 |[]=>rfl
 |x::l=>by
  show(Option.rec none (fun n=>Option.rec none (fun l=>Bool.rec none (some (n::l)) (Nat.ble n 255)) (Gs (ubs l))) (byteOfCell (ub x)):Option (List Nat))=_
  rw[show byteOfCell (ub x)=some x.toNat from rfl,Abf l]
  show(Bool.rec none (some (x.toNat::l.map (·.toNat))) (Nat.ble x.toNat 255):Option (List Nat))=_
  rw[Nat.ble_eq_true_of_le (by have:=x.toNat_lt;omega)];rfl
theorem Ap6:∀l:List UInt8,Ud (l.map (·.toNat))=enc l
 |[]=>rfl
 |x::l=>by
  show x.toNat+256*Ud (l.map (·.toNat))=_
  rw[Ap6 l];rfl
theorem Asz(l:List UInt8):strOf (l.map (·.toNat))=S l:=by
 show AV.str (len (l.map (·.toNat))) (Ud (l.map (·.toNat)))=_
 rw[De,List.length_map,Ap6]
abbrev TB:TypeId:=5
def ei8:TI:=⟨.int .u8,1,1,[.int .u8 (.ofNat 0)],false,true,[]⟩
def T1(n:Int):Tm:=Aj [.int .u8 n] 0 (Aj [.int .u8 (.ofNat 0)] 0 .e)
theorem Bjv(n:Int)(h:H):Ap env 68 (fun e ei=>Ak 1 [(0,.int .u8 n)] h e ei)=some (.slice h.next 0 1 1 true,h.new (.row (T1 n) 1 0 TB true)):=by kernel_rfl
theorem A4i(x y:AV)(h:H):Ar env .append [68,68] [x,y] h=Co (some false) x y h TB ei8:=by kernel_rfl
theorem Bpb(x y:AV)(h:H):Ar env .append [68,9] [x,y] h=Co (some false) x y h TB ei8:=by kernel_rfl
def Wc(t:Tm)(l:List UInt8):Prop:=∀i (hi:i<l.length),Aw t i=ub l[i]
theorem Wc.get{t:Tm}{l:List UInt8}(hc:Wc t l):Dy t l.length 0=ubs l:=by
 rw[Kc]
 apply List.ext_getElem
 · simp[ubs]
 · intro i h1 h2
   have hi:i<l.length:=by simpa using h1
   simp only[List.getElem_map,List.getElem_range,ubs,Nat.zero_add]
   exact hc i hi
theorem Ap8{n:Nat}(hn:n≤1099511627776):Bv ei8 n=true:=by
 have e:Bv ei8 n=An (An true true) (An (Nat.ble n 1099511627776) (Nat.ble (Nat.mul n 1) 140737488355328)):=rfl
 rw[e,Nat.ble_eq_true_of_le hn,Nat.ble_eq_true_of_le (show Nat.mul n 1≤140737488355328 by show n*1≤_;omega)];rfl
theorem A00{b:P}{o n z:Nat}{t:Bool}{K:Nat→Prop}:Cz (.slice b o n z t) K=K n:=rfl
theorem Lh{K:Nat→Prop}:Cz .Ai K=K 0:=rfl
theorem Aba{A:Prop}:eqC .Ai .Ai A=A:=rfl
theorem Am{b:P}{o:Nat}{h:H}:Ag (.ptr b o) h=some (.ptr b o,h):=rfl
theorem Af6{b:P}{K:AV→Prop}:Ac 0 (.ptr b 0) K=K (.ptr b 0):=rfl
theorem Pf{b:P}{K:AV→Prop}:Ac 1 (.ptr b 0) K=K (.ptr b 1):=rfl
theorem Bo3{b:P}{h:H}{k:KV}(hk:k (.ptr b 0) h):W1 (.func 143) [.ptr b 0] h k:=by
 refine Bbw ?_
 refine Dp rfl ?_
 rw[show Gl .Iy [.ptr b 0] h=some (.ptr b 0,h) from rfl,Ad]
 exact hk
theorem Beb(b:P):Hh env .neq 181 (.ptr b 0) (.ptr b 0)=some (.bool false):=by
 have e:eqA env 181 (.ptr b 0) (.ptr b 0)=(Bool.rec none (some true) (P.beq b b):Option Bool):=by kernel_rfl
 have e2:Hh env .neq 181 (.ptr b 0) (.ptr b 0)=Auv (eqA env 181 (.ptr b 0) (.ptr b 0)):=rfl
 rw[e2,e,P.beq_refl];rfl
theorem Bf2(b:P):Hh env .eql 181 (.ptr b 0) .Cm=some (.bool false):=by kernel_rfl
theorem A87:Hh env .eql 181 .Cm .Cm=some (.bool true):=by kernel_rfl
section
variable{h:H}{b:P}{t:Tm}
theorem Bbd(ha:h.at b=.row t 2 0 183 true):Ia env h 181 276 (.ptr b 0)=some (.ptr b 0,h):=by
 have e:Ia env h 181 276 (.ptr b 0)=Lm env 181 b 0 h (Em (h.at b)):=by kernel_rfl
 have e2:Lm env 181 b 0 h (Em (Ob.row t 2 0 183 true:Ob FT))=some (.ptr b 0,h):=by kernel_rfl
 rw[e,ha,e2]
theorem Bbc(ha:h.at b=.row t 2 0 183 true):Ia env h 276 181 (.ptr b 0)=some (.ptr b 0,h):=by
 have e:Ia env h 276 181 (.ptr b 0)=Pc env b 0 183 h (Em (h.at b)):=by kernel_rfl
 have e2:Pc env b 0 183 h (Em (Ob.row t 2 0 183 true:Ob FT))=some (.ptr b 0,h):=by kernel_rfl
 rw[e,ha,e2]
theorem c96{k:KV}(ha:h.at b=.row t 2 0 183 true)(h0:Aw t 0=.Cm∨Aw t 0=.ptr b 0)
 (hk:∀h' t',h'.at b=.row t' 2 0 183 true→Aw t' 0=.ptr b 0→Aw t' 1=Aw t 1→h'.next=h.next→(∀c,c≠b→h'.at c=h.at c)→k (.tuple []) h'):W1 (.func 96) [.ptr b 0] h k:=by
 refine w96 (n:=1) Bg (g96 ?_)
 unfold Amj
 rw[Am,Ad,Af6]
 refine Eh ha (by decide) ?_
 rcases h0 with h0|h0
 · rw[h0,A87,Oj,Bn]
   refine Dp rfl ?_
   rw[Bbd ha,Ad]
   refine Bo3 ?_
   rw[Bbc ha,Ad,Am,Ad,Af6]
   refine Iw ha (Nat.le_refl _) (by decide) rfl ?_
   refine hk _ _ (Ba _ _ _) ?_ ?_ rfl (fun c hc=>Az hc)
   · rw[Ah];simp
   · rw[Ah];simp
 · rw[h0,Bf2,Oj,Bn]
   refine Cp rfl ?_
   rw[Am,Ad,Af6]
   refine Eh ha (by decide) ?_
   rw[h0,Beb,Oj,Bn]
   refine Cp rfl ?_
   exact hk h t ha h0 rfl rfl (fun _ _=>rfl)
end
theorem Adt(h:H):∀(l:List UInt8),Ck h 1 (S l)=some (l.length,ubs l):=fun l=>by
 show(some (l.length,byteCells l.length (enc l)):Option (Nat×List AV))=_
 have:∀l:List UInt8,byteCells l.length (enc l)=ubs l:=by
  intro l
  induction l with
  |nil=>rfl
  |cons x l ih=>
   obtain⟨h1,h2⟩:=Xc x l
   show(.int .u8 (.ofNat (Nat.mod (enc (x::l)) 256))::byteCells l.length (Nat.div (enc (x::l)) 256):List AV)=_
   rw[h1,h2,ih];rfl
 rw[this]
theorem Bcs(x y:AV)(h:H):Ar env .unsafeString [225,3] [x,y] h=Rl env x (Bp y) h:=by kernel_rfl
theorem Bdj(x:AV)(h:H):Ar env .unsafeSliceData [68] [x] h=Hi x h:=rfl
theorem isB:isByte env TB=true:=by kernel_rfl
end Go.Den
