/-
 Proof.
-/
import Derived.Test.YtmgalljhidgnoaaGreatDoorDenD
import Derived.Calls
import Derived.RangeFuncIn
import Derived.RangeFuncLeaves
import Derived.RangeFuncRecord
import Derived.Test.YtmgalljhidgnoaaGreatDoorDenA
import Derived.Laws.Externs
import Derived.Laws.LoneSync
import Derived.Below
import Derived.ProofKit
import Derived.WalkKit
import Derived.Lay
import Derived.MakeChecks
import Derived.SevenTiedAt
open Bool renaming rec → wg, false_eq_true → wO, noConfusion → xm, and_eq_true → vK, not_eq_true' → xV
open Option renaming rec → wz, map_some → wV, none → wA, isSome_iff_exists → xW
open List renaming rec → wj, nodup_cons → xX, append_nil → vi, findIdx?_cons → xA, foldl_cons → wS, range → xM, length_cons → l6, drop_eq_getElem_cons → o9, getElem?_eq_getElem → wq, getD_eq_getElem?_getD → vM, getElem?_eq_none → xY, all_cons → xZ, getElem?_map → ya, getElem?_zipIdx → yc, all_eq_true → wm
open Nat renaming ble → vU, beq → vS, lt_of_lt_of_le → vZ, beq_refl → wZ, le_refl → vE, mod → vT, div → vR, add → vN, zero_add → wJ, add_zero → wX, eq_of_beq_eq_true → vW, sub_zero → we, lt_or_ge → vG, shiftRight_eq_div_pow → wM, ble_eq_true_of_le → wY
open Int renaming ofNat → vJ
noncomputable section
namespace Go.Den
open Go.RowKit
section
variable{ro:Option Nat}{P:Program}{Q:Exit→Act→World→Prop}{a:Act}{w:World}
theorem calm{fr:Frame}{cs:List Frame}{w:World}:(lone fr cs w).fenced P (Fo ro):=fenced_wide P _
theorem ph(n:Nat):(Fo ro).room n:=λ_ h=>by cases h
theorem XQ{b:Frame}{a:Act}{k:List Item}{cs:List Frame}{w:World}{c:Code}:step P (lone (b.atR a (.code (.scope c)::k)) cs w)=.next (lone (b.atR a (.code c::.inScope c::k)) cs w):=
 step_lone_go (by simp[stepG,stepG.exec,Frame.atR])
theorem SA{b:Frame}{a:Act}{k:List Item}{cs:List Frame}{w:World}{c:Code}:step P (lone (b.atR a (.inScope c::k)) cs w)=.next (lone (b.atR a k) cs w):=
 step_lone_go (by simp[stepG,stepG.exec,Frame.atR])
def E8(ro:Option Nat)(P:Program)(b:Code)(Q:Exit→Act→World→Prop)(a:Act)(w:World):Prop:=
 ∀(c:Frame)(d:List Item)(cs:List Frame),c.roundOf=ro→∃e f g,Q e f g∧ArrivesIn (Machine.fenced P (Fo ro)) P (lone (c.atR a (.code b::.inLoop b::d)) cs w) c d cs e f g
def FX(ro:Option Nat)(P:Program)(c:Code)(Q:Exit→Act→World→Prop)(a:Act)(w:World):Prop:=match c with
 |.loop c=>E8 ro P c Q a w
 |c=>c.wpIn (Fo ro) 0 P Q a w
theorem E8.wp{c:Code}(d:E8 ro P c Q a w):(Code.loop c).wpIn (Fo ro) 0 P Q a w:=by intro b f cs g _ _;obtain⟨e,h,i,j,k⟩:=d b f cs g;exact⟨e,h,i,j,.of_steps (.one calm stepR_loop) k⟩
theorem FX.wp{c:Code}(h:FX ro P c Q a w):c.wpIn (Fo ro) 0 P Q a w:=by cases c<;>first|exact h|exact E8.wp h
theorem E8.of{c:Code}(d:c.wpIn (Fo ro) 0 P (Exit.then (E8 ro P c Q) Q) a w):E8 ro P c Q a w:=by
 intro b f cs g;obtain⟨e,h,i,j,k⟩:=d b (.inLoop c::f) cs g trivial (ph _);cases e with
 |normal=>obtain⟨m,n,o,p,q⟩:=j b f cs g;exact⟨m,n,o,p,.of_steps (StepsIn.trans k (.one calm stepR_inLoop)) q⟩
 |exit id=>exact⟨_,h,i,j,.pass (x:=.inLoop c) rfl (λ_ _=>.inl (by simp)) k⟩
 |goto l=>exact⟨_,h,i,j,.pass (x:=.inLoop c) rfl (λ_ _=>.inl (by simp)) k⟩
 |ret=>exact⟨_,h,i,j,.pass (x:=.inLoop c) rfl (λ_ _=>.inl (by simp)) k⟩
 |panic r=>exact⟨_,h,i,j,.pass (x:=.inLoop c) rfl (λ_ _=>.inl (by simp)) k⟩
 |outgrown=>exact⟨_,h,i,j,.pass (x:=.inLoop c) rfl (λ_ _=>.inl (by simp)) k⟩
def FE(ro:Option Nat)(P:Program)(b c:Code)(Q:Exit→Act→World→Prop)(a:Act)(w:World):Prop:=
 ∀(d:Frame)(f:List Item)(cs:List Frame),d.roundOf=ro→∃e g h,Q e g h∧ArrivesIn (Machine.fenced P (Fo ro)) P (lone (d.atR a (.code c::.inScope b::f)) cs w) d f cs e g h
def Exit.inScope(ro:Option Nat)(P:Program)(b:Code)(Q:Exit→Act→World→Prop):Exit→Act→World→Prop
 |.goto l,a,w=>match findLabel b l with
  |some c=>FE ro P b c Q a w
  |none=>Q (.goto l) a w
 |e,a,w=>Q e a w
theorem FE.of{d c:Code}(f:c.wpIn (Fo ro) 0 P (Exit.inScope ro P d Q) a w):FE ro P d c Q a w:=by
 intro b g cs h;obtain⟨e,i,j,k,m⟩:=f b (.inScope d::g) cs h trivial (ph _);cases e with
 |normal=>exact⟨.normal,i,j,k,StepsIn.trans m (.one calm SA)⟩
 |exit id=>exact⟨.exit id,i,j,k,λn o=>m.1 n (by simp[exitTo,o]),λp o=>m.2 p (by simp[exitTo,o])⟩
 |goto l=>
  simp only[Exit.inScope] at k;cases q:findLabel d l with
  |none=>rw[q] at k;exact⟨.goto l,i,j,k,λn o=>m.1 n (by simp[gotoIn,q,o]),λp o=>m.2 p (by simp[gotoIn,q,o])⟩
  |some r=>rw[q] at k;obtain⟨s,t,u,v,x⟩:=k b g cs h;exact⟨s,t,u,v,.of_steps (m.1 _ (by simp[gotoIn,q])) x⟩
 |ret=>exact⟨_,i,j,k,m⟩
 |panic y=>exact⟨_,i,j,k,m⟩
 |outgrown=>exact⟨_,i,j,k,m⟩
theorem FE.wp{c:Code}(d:FE ro P c c Q a w):(Code.scope c).wpIn (Fo ro) 0 P Q a w:=by intro b f cs g _ _;obtain⟨e,h,i,j,k⟩:=d b f cs g;exact⟨e,h,i,j,.of_steps (.one calm XQ) k⟩
end
theorem SP{b:Option Nat}{P:Program}{c:Code}{Q Q':Exit→Act→World→Prop}{a:Act}{d:World}(f:c.wpIn (Fo b) 0 P Q a d)(g:∀e a d,Q e a d→Q' e a d):c.wpIn (Fo b) 0 P Q' a d:=wpIn_mono f g
def Agn(x:AX):Exit:=match x with
 |.normal=>.normal
 |.exit id=>.exit id
 |.goto l=>.goto l
 |.ret=>.ret
abbrev QT:=Exit→Act→World→Prop
section
variable{ro:Option Nat}{P:Program}{E:Env}{BP:Ak}{N G:Nat}{nr:Bool}
def er(P:Program)(E:Env)(BP:Ak)(N G id:Nat)(a:List Oper)(b:Bool):Bool:=wg (wz (wz true (λBG=>EB P E N G a BG none [] []) (ML a)) (λ_=>true) (FN BP id)) (wz true (λc=>wj true (λ_ _ _=>Nm P E N G a c) c) (FN BP id)) b
def DN(P:Program)(E:Env)(BP:Ak)(N G:Nat)(nr:Bool)(a:Code):Bool:=Code.rec (motive:=λ_=>Bool)
 true (λid b c=>er P E BP N G id b.toList c) (λ_ _ x d=>An x d) (λa _ _ x d=>An (CS G a) (An x d)) (λ_ _ x=>x) (λ_ x=>x)
 (λf _ _ _ _ _=>An nr (An (CS G f) (vU (kT BP) N))) (λ_=>true) (λ_ x=>x) (λ_=>true) (λ_=>true) true (λ_=>true) a
theorem Gk{l:Nat}:∀{a r:Code},DN P E BP N G nr a=true→findLabel a l=some r→DN P E BP N G nr r=true
 |.seq x b,r,c,d=>by
  obtain⟨f,g⟩:=Ao (show An (DN P E BP N G nr x) (DN P E BP N G nr b)=true from c);unfold findLabel at d;cases h:findLabel x l with
  |some i=>rw[h] at d;cases d;have:=Gk f h;show An (DN P E BP N G nr i) (DN P E BP N G nr b)=true;rw[this,g];rfl
  |none=>rw[h] at d;exact Gk g d
 |.label j,r,c,d=>by
  unfold findLabel at d;split at d
  · cases d;rfl
  · cases d
 |.skip,r,c,d=>by cases d
 |.region ..,r,c,d=>by cases d
 |.cond ..,r,c,d=>by cases d
 |.block ..,r,c,d=>by cases d
 |.loop ..,r,c,d=>by cases d
 |.rangeFunc ..,r,c,d=>by cases d
 |.exit ..,r,c,d=>by cases d
 |.scope ..,r,c,d=>by cases d
 |.goto ..,r,c,d=>by cases d
 |.ret,r,c,d=>by cases d
 |.refuse ..,r,c,d=>by cases d
def Abp(ro:Option Nat)(P:Program)(c:Code)(Q:QT):Option (Code×QT):=match c with
 |.seq a b=>some (a,Exit.then (FX ro P b Q) Q)
 |.cond _ a _=>some (a,Q)
 |.block id a=>some (a,Exit.inBlock id Q)
 |.loop a=>some (a,Exit.then (E8 ro P a Q) Q)
 |.scope a=>some (a,Exit.inScope ro P a Q)
 |_=>none
def Aaq(c:Code)(Q:QT):Option (Code×QT):=match c with
 |.seq _ b=>some (b,Q)
 |.cond _ _ b=>some (b,Q)
 |_=>none
def J1(ro:Option Nat)(P:Program)(n:Nat)(c:Code)(Q:QT):Option (Code×QT):=match c with
 |.scope a=>match findLabel a n with
  |some r=>some (r,Exit.inScope ro P a Q)
  |none=>none
 |_=>none
def Cc(ro:Option Nat)(P:Program)(c0:Code)(Q0:QT):Pos→Option (Code×QT)
 |.root=>some (c0,Q0)
 |.l p=>match Cc ro P c0 Q0 p with
  |some q=>Abp ro P q.1 q.2
  |none=>none
 |.r p=>match Cc ro P c0 Q0 p with
  |some q=>Aaq q.1 q.2
  |none=>none
 |.lab p n=>match Cc ro P c0 Q0 p with
  |some q=>J1 ro P n q.1 q.2
  |none=>none
theorem Ea{c0:Code}{Q0:QT}(h0:DN P E BP N G nr c0=true):∀{p:Pos}{c:Code}{Q:QT},Cc ro P c0 Q0 p=some (c,Q)→DN P E BP N G nr c=true
 |.root,c,Q,b=>by cases b;exact h0
 |.l p,c,Q,b=>by
  simp only[Cc] at b;cases d:Cc ro P c0 Q0 p with
  |none=>rw[d] at b;cases b
  |some q=>
   rw[d] at b;obtain⟨f,Q'⟩:=q;have g:=Ea h0 d;cases f<;>simp only[Abp] at b<;>cases b
   · exact(Ao g).1
   · exact(Ao (Ao g).2).1
   · exact g
   · exact g
   · exact g
 |.r p,c,Q,b=>by
  simp only[Cc] at b;cases d:Cc ro P c0 Q0 p with
  |none=>rw[d] at b;cases b
  |some q=>
   rw[d] at b;obtain⟨f,Q'⟩:=q;have g:=Ea h0 d;cases f<;>simp only[Aaq] at b<;>cases b
   · exact(Ao g).2
   · exact(Ao (Ao g).2).2
 |.lab p n,c,Q,b=>by
  simp only[Cc] at b;cases d:Cc ro P c0 Q0 p with
  |none=>rw[d] at b;cases b
  |some q=>
   rw[d] at b;obtain⟨f,Q'⟩:=q;have g:=Ea h0 d;cases f<;>simp only[J1] at b<;>try cases b
   rename_i a;cases h:findLabel a n with
   |none=>rw[h] at b;cases b
   |some r=>rw[h] at b;cases b;exact Gk (show DN P E BP N G nr a=true from g) h
theorem Pos.beq_eq:∀{p q:Pos},Pos.beq p q=true→p=q
 |.root,q,a=>by cases q<;>first|rfl|cases a
 |.l p,q,a=>by cases q<;>first|(rw[Pos.beq_eq (show Pos.beq p _=true from a)])|cases a
 |.r p,q,a=>by cases q<;>first|(rw[Pos.beq_eq (show Pos.beq p _=true from a)])|cases a
 |.lab p n,q,a=>by
  cases q<;>try cases a
  rename_i q b;obtain⟨c,d⟩:=Ao (show An (vS n b) (Pos.beq p q)=true from a);rw[Bh c,Pos.beq_eq d]
theorem cN{cs:As}{p:Pos}{a:Nat}(b:cutAt cs p=some a):(p,a)∈cs:=by
 induction cs with
 |nil=>cases b
 |cons c cs d=>
  have b:(wg (cutAt cs p) (some c.2) (Pos.beq c.1 p):Option Nat)=some a:=b;cases f:Pos.beq c.1 p with
  |true=>rw[f] at b;have b:c.2=a:=Option.some.inj b;have:=Pos.beq_eq f;subst b;subst this;simp
  |false=>rw[f] at b;exact List.mem_cons_of_mem _ (d b)
variable{call:CF}{Bw:As}{J:Jump}{c0:Code}{Q0:QT}{Df:Mu}{h0:H}{w0:World}
def E7(r:Nat):Deferred:={ target:=.collected r,args:=#[] }
def Marks(n0:Nat)(μ:Mu)(h:H)(w:World)(a:List Deferred):Prop:=∃b:List Nat,a=b.map E7∧b.Nodup∧∀r∈b,n0≤r∧r<w.heap.size∧w.heap[r]? =some (.deferred (some []))∧¬Own μ h r
theorem Marks.nil{n0:Nat}{μ:Mu}{h:H}{w:World}:Marks n0 μ h w []:=⟨[],rfl,List.nodup_nil,λr h=>by cases h⟩
theorem Marks.ext{n0:Nat}{μ d:Mu}{h h':H}{w f:World}{ds:List Deferred}(g:Marks n0 μ h w ds)(x:BF μ h w d h' f):Marks n0 d h' f ds:=by obtain⟨i,e,j,k⟩:=g;exact⟨i,e,j,λr l=>let ⟨a,b,c,m⟩:=k r l;⟨a,vZ b x.size,(x.keep r b m).trans c,λo=>m (x.own r b o)⟩⟩
theorem Ke.Wh{μ:Mu}{a:World}{l:Loc}{o:Ob FT}(r:Ke μ a l o)(b:o≠.dead){x:Option (List Deferred)}(c:a.heap[l.blk]? =some (.deferred x)):False:=by
 cases o with
 |dead=>exact b rfl
 |row t n z e d=>obtain⟨cs,g,h,_⟩:=r;rw[c] at h;cases h
 |ext i n=>obtain⟨cs,e,g,h,_⟩:=r;rw[c] at h;cases h
 |map j k=>obtain⟨m,h,_⟩:=r;rw[c] at h;cases h
 |iter len p pos=>obtain⟨q,h,_⟩:=r;rw[c] at h;cases h
 |loop f q s u=>obtain⟨x,h,_⟩:=r;rw[c] at h;cases h
 |Hq v w y a=>obtain⟨b,_,h,_⟩:=r;rw[c] at h;cases h
theorem Bc.Wh{μ:Mu}{a:H}{b:World}(c:Bc μ a b){r:Nat}{x:Option (List Deferred)}(d:b.heap[r]? =some (.deferred x)):∀f l,a.at f≠.dead→μ f=some l→l.blk≠r:=by intro f l g h e;subst e;exact(c.ob f l g h).Wh g d
theorem Bc.Ako{μ:Mu}{a:H}{b:World}(c:Bc μ a b){r:Nat}{x:Option (List Deferred)}(d:b.heap[r]? =some (.deferred x)):¬Own μ a r:=by rintro⟨f,l,g,h,e⟩;exact c.Wh d f l (λi=>by rw[i] at g;cases g) h e
theorem Bc.shut{μ:Mu}{a:H}{b:World}(c:Bc μ a b){r:Nat}{x:Option (List Deferred)}(d:b.heap[r]? =some (.deferred x))(f:Obj):Bc μ a (b.putObj r f):=by exact⟨c.fresh,c.dead,λg l h i=>(c.ob g l h i).world (World.putObj_heap_other (c.Wh d g l h i)),c.inj⟩
theorem BF.shut{Df μ:Mu}{h0 a:H}{w0 b:World}(x:BF Df h0 w0 μ a b){r:Nat}(c:w0.heap.size≤r)(d:Obj):BF Df h0 w0 μ a (b.putObj r d):=by
 refine⟨x.le,?_,λf g h=>?_,x.own,x.ghost,x.os,x.tape,x.output⟩
 · rw[World.putObj_size];exact x.size
 · rw[World.putObj_heap_other (by omega)];exact x.keep f g h
theorem Og{P:Program}{fn:Func}{b:Array Value}{c:Ending→World→Prop}{Df μ:Mu}{h0 d:H}{w0:World}:∀(f:List Nat)(g:World),f.Nodup→(∀r∈f,w0.heap.size≤r∧r<g.heap.size∧g.heap[r]? =some (.deferred (some [])))→Bc μ d g→BF Df h0 w0 μ d g→
    (∀h,Bc μ d h→BF Df h0 w0 μ d h→∃v,(results fn b).run P h=.ok v h∧c (.returned v) h)→LeavesInM (Fo none) 0 P fn b c (f.map E7) .returning g
  |[],g,_,_,i,x,j=>j g i x
  |r::f,g,k,l,i,x,j=>by obtain⟨m,n,o⟩:=l r (by simp);obtain⟨p,k⟩:=xX.1 k;refine⟨(λe=>by cases e),.inl ⟨r,_,rfl,run_takeDeferred o,?_⟩⟩;refine Og f _ k (λq s=>?_) (i.shut o _) (x.shut m _) j;obtain⟨a,t,u⟩:=l q (by simp[s]);refine⟨a,by rw[World.putObj_size];exact t,?_⟩;rw[World.putObj_heap_other (λe=>p (by rw[←e];exact s))];exact u
structure At(G N:Nat)(Df:Mu)(h0:H)(w0:World)(μ:Mu)(f:FT)(h:H)(a:Act)(w:World):Prop where
 fr:FR μ N a.defers f a
 marks:Marks w0.heap.size μ h w a.defers
 RC:Bc μ h w
 ext:BF Df h0 w0 μ h w
 gl:DE μ G
theorem At.next{G N:Nat}{Df:Mu}{h0:H}{w0:World}{μ b:Mu}{f c:FT}{h h':H}{a d:Act}{w g:World}(s:At G N Df h0 w0 μ f h a w)(i:FR b N a.defers c d)(j:Bc b h' g)(k:BF μ h w b h' g):At G N Df h0 w0 b c h' d g:=by
 have e:=i.defs;refine⟨?_,?_,j,s.ext.trans k,s.gl.mono k.le⟩
 · rw[e];exact i
 · rw[e];exact s.marks.ext k
def KT(G N:Nat)(Df:Mu)(h0:H)(w0:World)(K:Fp)(Q:QT):Prop:=∀x μ f h a w,At G N Df h0 w0 μ f h a w→K x f h→Q (Agn x) a w
def sa(ro:Option Nat)(P:Program)(Bw:As)(c0:Code)(Q0:QT)(G N:Nat)(Df:Mu)(h0:H)(w0:World)(J:Jump):Prop:=
 ∀p L c Q,(p,L)∈Bw→Cc ro P c0 Q0 p=some (c,Q)→∀μ f h a w,At G N Df h0 w0 μ f h a w→J L f h→FX ro P c Q a w
theorem Dj{p:Pos}{f:FT}{a:H}{b:Prop}(c:enter Bw J p f a b):(∃d,(p,d)∈Bw∧J d f a)∨b:=by
 unfold enter at c;cases g:cutAt Bw p with
 |none=>rw[g] at c;exact .inr c
 |some d=>rw[g] at c;exact .inl ⟨d,cN g,c⟩
theorem Ib(b:sa ro P Bw c0 Q0 G N Df h0 w0 J){p:Pos}{c:Code}{Q:QT}(d:Cc ro P c0 Q0 p=some (c,Q)){μ:Mu}{f:FT}{g:H}{a:Act}{h:World}(i:At G N Df h0 w0 μ f g a h)(j:enter Bw J p f g False):FX ro P c Q a h:=by
 rcases Dj j with⟨k,l,m⟩|n
 · exact b p k c Q l d μ f g a h i m
 · exact n.elim
theorem Pk{b:FT→H→Prop}{K:Fp}{c:Code}{Q:QT}(d:∀μ f g a h,At G N Df h0 w0 μ f g a h→b f g→E8 ro P c Q a h)(i:KT G N Df h0 w0 K Q):KT G N Df h0 w0 (cJ b K) (Exit.then (E8 ro P c Q) Q):=by
 intro x μ f g a h j k;cases x with
 |normal=>exact d μ f g a h j k
 |exit id=>exact i (.exit id) _ _ _ _ _ j k
 |goto l=>exact i (.goto l) _ _ _ _ _ j k
 |ret=>exact i .ret _ _ _ _ _ j k
theorem Se{b:FT→H→Fp→Prop}{K:Fp}{c:Code}{Q:QT}(d:∀μ f g a h,At G N Df h0 w0 μ f g a h→b f g K→FX ro P c Q a h)(i:KT G N Df h0 w0 K Q):KT G N Df h0 w0 (pw b K) (Exit.then (FX ro P c Q) Q):=by
 intro x μ f g a h j k;cases x with
 |normal=>exact d μ f g a h j k
 |exit id=>exact i (.exit id) _ _ _ _ _ j k
 |goto l=>exact i (.goto l) _ _ _ _ _ j k
 |ret=>exact i .ret _ _ _ _ _ j k
theorem MK{id:Nat}{K:Fp}{Q:QT}(b:KT G N Df h0 w0 K Q):KT G N Df h0 w0 (Xr id K) (Exit.inBlock id Q):=by
 intro x μ f c a d g h;cases x with
 |normal=>exact b .normal _ _ _ _ _ g h
 |exit j=>
  have h:(wg (K (.exit j) f c) (K .normal f c) (vS j id):Prop):=h;show(if j=id then Q .normal a d else Q (.exit j) a d);cases i:vS j id with
  |true=>rw[i] at h;rw[if_pos (Bh i)];exact b .normal _ _ _ _ _ g h
  |false=>rw[i] at h;rw[if_neg (λe=>by subst e;rw[wZ] at i;cases i)];exact b (.exit j) _ _ _ _ _ g h
 |goto l=>exact b (.goto l) _ _ _ _ _ g h
 |ret=>exact b .ret _ _ _ _ _ g h
theorem JL{b:Code}{c:Nat→FT→H→Prop}{K:Fp}{Q:QT}(d:∀l r,findLabel b l=some r→∀μ f g a h,At G N Df h0 w0 μ f g a h→c l f g→FX ro P r (Exit.inScope ro P b Q) a h)(i:KT G N Df h0 w0 K Q):KT G N Df h0 w0 (Om b c K) (Exit.inScope ro P b Q):=by
 intro x μ f g a h k m;cases x with
 |normal=>exact i .normal _ _ _ _ _ k m
 |exit j=>exact i (.exit j) _ _ _ _ _ k m
 |ret=>exact i .ret _ _ _ _ _ k m
 |goto l=>
  have m:(wz (K (.goto l) f g) (λ_=>c l f g) (findLabel b l):Prop):=m;show Exit.inScope ro P b Q (.goto l) a h;simp only[Exit.inScope];cases n:findLabel b l with
  |none=>rw[n] at m;exact i (.goto l) _ _ _ _ _ k m
  |some r=>rw[n] at m;exact FE.of (FX.wp (d l r n _ _ _ _ _ k m))
section
variable(hm:P.follows .mixedOrders=true)(ok:Bt P E)(Dv:C4 P (CP E) G (fun p=>p) call)(hj:sa ro P Bw c0 Q0 G N Df h0 w0 J)(hk:DN P E BP N G nr c0=true)(O4:nr=true→ro=none)
include hm ok Dv
theorem gJ{b:Array Oper}{c:Bool}{id:Nat}{Q:QT}{μ:Mu}{f:FT}{d:H}{a:Act}{g:World}{K:Fp}(h:er P E BP N G id b.toList c=true)(i:At G N Df h0 w0 μ f d a g)(j:Apv E call BP id b.toList c f d (λf d=>K .normal f d))(k:KT G N Df h0 w0 K Q):(Code.region id b c).wpIn (Fo ro) 0 P Q a g:=by
 cases c with
 |true=>
  obtain⟨l,m,j⟩:=HP (show oV (FN BP id) (λl=>(wj False (λ_ _ _=>oV (UI E b.toList l) (λBG=>E3 E call BG f d (λf d=>K .normal f d))) l:Prop)) from j);cases l with
  |nil=>exact j.elim
  |cons n l=>
   have h:Nm P E N G b.toList (n::l)=true:=by have h:(wz true (λl=>wj true (λ_ _ _=>Nm P E N G b.toList l) l) (FN BP id):Bool)=true:=h;rw[m] at h;exact h
   exact tN hm ok Dv h i.fr i.RC i.gl j λo p r s t u v w x y=>k .normal _ _ _ _ _ (i.next u v w) y
 |false=>
  have m:FN BP id=none:=by
   cases g:FN BP id with
   |none=>rfl
   |some q=>have j:(wz (oV (ML b.toList) (λBG=>DL E call BG f d (λf d=>K .normal f d))) (λ_=>False) (FN BP id):Prop):=j;rw[g] at j;exact j.elim
  have j:(wz (oV (ML b.toList) (λBG=>DL E call BG f d (λf d=>K .normal f d))) (λ_=>False) (FN BP id):Prop):=j;rw[m] at j;obtain⟨BG,hi,j⟩:=HP (show oV (ML b.toList) (λBG=>DL E call BG f d (λf d=>K .normal f d)) from j);have h:EB P E N G b.toList BG none [] []=true:=by unfold er at h;rw[m,hi] at h;exact h
  have:=Mg (ro:=ro) (Q:=Q) (rest:=[]) ok Dv BG (gs:=[]) h i.fr i.RC i.gl (λc j=>by simp at j) j ?_
  · rw[vi,aA hi] at this;exact wpIn_region_list this
  · intro o p r s t u v w _ _ y;exact k .normal _ _ _ _ _ (i.next u v w) y
omit hm in
theorem TR{a2:Operand}{s:Array Tmp}{k j:Code}{Q:QT}{μ:Mu}{f:FT}{h:H}{a:Act}{w:World}{K:Fp}(d:At G N Df h0 w0 μ f h a w)(d7:kT BP≤N)(e6:CS G a2=true)
 (p:NP E call ⟨s.toList,k,j,BP,kT BP⟩ (eval' E a2 f) (H3 (Ou BP) f) h (λx h=>Wt x (.normal::Anq (aD j)) (λd3=>K d3 f h))) (f9:KT G N Df h0 w0 K Q):(Code.rangeFunc a2 s k j).wpIn (Fo none) 0 P Q a w:=by
 obtain⟨fn,g6,g7,f7,p⟩:=jt p;obtain⟨i,p⟩:=Dz p;rw[Hf] at p;refine wpIn_rangeFunc λb3 _=>?_;have c2:=d.fr.eval (E:=E) d.gl e6;rw[f7] at c2;obtain⟨b1,d1,ws,e,a3,d5,d6,g9⟩:=c2;have c9:Bc μ h (w.alloc (.deferred (some []))):=by refine⟨d.RC.fresh,d.RC.dead,λb l m a4=>?_,d.RC.inj⟩;have a0:=d.RC.ob b l m a4;exact a0.world (Below.heap_alloc w _ _ (a0.lt m))
 have d2:BF μ h w μ h (w.alloc (.deferred (some []))):=⟨.refl μ,by rw[World.size_alloc];omega,λc6 hk _=>Below.heap_alloc w _ c6 hk,λ_ _ o=>o,⟨vE _,λ_ _ e=>⟨e,rfl⟩⟩,rfl,rfl,rfl⟩;have c3:(w.alloc (.deferred (some []))).heap[w.heap.size]? =some (.deferred (some [])):=DW _ _;obtain⟨g2,a1⟩:=c9.alloc (.loop (H3 (Ou BP) f) ⟨s.toList,k,j,BP,kT BP⟩ .ready .normal) (.loop { state:=.ready,pending:=none,fn:=b3,tmps:=a.tmps,params:=s,assign:=k,body:=j,defers:=w.heap.size }) 0 0
  λa9 e9=>⟨_,DW _ _,rfl,rfl,rfl,rfl,rfl,Nat.le_trans d7 d.fr.size,λt=>VR.mono e9 _ _ (by
   rcases Ov f (Ou BP) t with y|y
   · rw[y];trivial
   · rw[y];exact d.fr.get t)⟩
 have f8:VR (μ.set h.next ⟨(w.alloc (.deferred (some []))).heap.size,0,0⟩) (.func (.yield h.next.nat) [] []) (.func (.yield (w.alloc (.deferred (some []))).heap.size) #[] #[]):=
  ⟨_,_,_,rfl,⟨_,by rw[Tb];exact Mu.BD _ _ _,rfl⟩,(rfl:([]:List Value)=[]),(rfl:([]:List Value)=[]),rfl⟩
 have e2:=Dv _ _ _ fn b1 _ (d1++#[.func (.yield (w.alloc (.deferred (some []))).heap.size) #[] #[]]++ws) _ g2 (d.gl.mono a1.le) (a3.mono a1.le) (by simp only[Array.toList_append];refine(BN.append (BN.mono a1.le _ _ d5) ?_).append (BN.mono a1.le _ _ d6);exact(show BN _ [_] [_] from⟨_,[],rfl,f8,rfl⟩)) p;obtain⟨g,rfl⟩:∃g,fn=.func g:=by cases fn<;>first|exact⟨_,rfl⟩|cases i
 have e4:b1=.func g:=by cases b1<;>simp only[LC] at a3<;>first|(cases a3;rfl)|cases a3
 subst e4;rcases e2 with⟨g8,b7,e0⟩|⟨l,g5,h1,k,j,b7,_⟩
 case inr=>cases b7
 cases b7;have c1:∀b0 w,(callFunc g b0).run P w=.ok (.enter g b0) w:=by
  intro b0 w;simp only[RB] at i;cases b6:E.fn g with
  |none=>simp only[b6] at i;cases i
  |some b2=>
   simp only[b6] at i;cases m:b2.body with
   |none=>simp only[m] at i;cases i
   |some c=>
    simp only[m] at i;have f2 : (b2.name == "runtime.NumGoroutine") = false := by simpa using i
    unfold callFunc;rw[Aa (show program.run P w=.ok P w from rfl),ok.fn g b2 b6];simp only[f2,m,wO,if_false];rfl
 rcases e0 with⟨v,u,_,_,_,c0,_⟩|⟨_,e1⟩
 · rw[c1] at c0;cases c0
 have f6:(w.alloc (.deferred (some []))).heap.size=w.heap.size+1:=World.size_alloc _ _;refine⟨_,_,_,{ target:=.fn (.func g) ws,args:=d1++#[.func (.yield (w.heap.size+1)) #[] #[]] },((w.alloc (.deferred (some []))).alloc (.loop { state:=.ready,pending:=none,fn:=b3,tmps:=a.tmps,params:=s,assign:=k,body:=j,defers:=w.heap.size })),g,_,_,run_enterLoop_outer b3 a.tmps s k j,?_,λ_ _=>trivial,c1 _ _,λh=>xm h,?_⟩
 · show(Deferred.ofValue (a.eval a2) (#[Operand.const (.func (.yield (w.heap.size+1)) #[] #[])].map a.eval)).run P _=_;rw[e,show(#[Operand.const (.func (.yield (w.heap.size+1)) #[] #[])].map a.eval)=#[.func (.yield (w.heap.size+1)) #[] #[]] from by simp[Act.eval]];rfl
 rw[←f6];refine Tx (Calls.mono e1 λe u e3=>?_);obtain⟨v,a9,av,(b4:H),rfl,a6,a7,_,n⟩:=e3;replace a6:@Bc FT a9 b4 u:=a6;replace a7:@BF FT _ _ _ a9 b4 u:=a7;obtain⟨b9,c7,d0,a5,b5,n⟩:=LI n;obtain⟨c4,n⟩:=Dz n;rw[Gi] at n;have a4:=a7.le _ _ (Mu.BD μ h.next ⟨(w.alloc (.deferred (some []))).heap.size,0,0⟩);have a0:=a6.ob h.next _ (by rw[b5];nofun) a4;rw[b5] at a0;obtain⟨r,q,f5,c5,f3,d8,d9,f1,e5⟩:=a0;have f4:=run_endLoop (P:=P) q (by rw[f5];intro y;rw[y] at c4;cases c4);have f0:(w.alloc (.deferred (some []))).heap.size<u.heap.size:=(Array.getElem?_eq_some_iff.1 q).1;obtain⟨g3,g4⟩:=a6.put (b:=h.next) (by rw[b5];rfl) a4 (.loop b9 c7 .exhausted a5) (u.putObj (w.alloc (.deferred (some []))).heap.size (.loop { r with state:=.exhausted }))
  (World.putObj_size) (λc6 hk=>World.putObj_heap_other hk) ⟨_,World.putObj_heap_same f0,rfl,c5,f3,d8,d9,f1,e5⟩ rfl rfl rfl
 have a8:=(a1.trans a7).trans g4;have d0:At G N Df h0 w0 a9 f (b4.put h.next (.loop b9 c7 .exhausted a5)) { a with defers:=[E7 w.heap.size]++a.defers } (u.putObj (w.alloc (.deferred (some []))).heap.size (.loop { r with state:=.exhausted })):=by
  refine⟨⟨d.fr.size,λt=>VR.mono a8.le _ _ (d.fr.get t),rfl⟩,?_,g3,d.ext.trans (d2.trans a8),d.gl.mono a8.le⟩;obtain⟨c8,b8,g0,e7⟩:=d.marks.ext d2;refine Marks.ext (h:=h) (μ:=μ) (w:=w.alloc (.deferred (some []))) ⟨w.heap.size::c8,?_,?_,?_⟩ a8
  · show E7 w.heap.size::a.defers=_;rw[b8];rfl
  · refine xX.2 ⟨λhm=>?_,g0⟩;obtain⟨g1,d4,_,e8⟩:=d.marks;have:g1=c8:=by have:=d4.symm.trans b8;exact(List.map_inj_right (f:=E7) (λx d3 h=>by cases h;rfl)).1 this
    subst this;exact Nat.lt_irrefl _ (e8 _ hm).2.1
  · intro r q;rcases List.mem_cons.1 q with rfl|q
    · exact⟨d.ext.size,by rw[World.size_alloc];omega,c3,c9.Ako c3⟩
    · exact e7 r q
 refine⟨r.pending,_,f4,?_⟩;have:=f9 a5 _ _ _ _ _ d0 (Tf n);rw[c5] at this ⊢;cases a5 with
 |normal=>exact this
 |exit id=>exact wpIn_exit this
 |goto l=>exact wpIn_goto this
 |ret=>exact wpIn_ret this
include hj hk O4
theorem Ds:∀(c:Code)(p:Pos)(Q:QT),Cc ro P c0 Q0 p=some (c,Q)→∀μ f d a g K,At G N Df h0 w0 μ f d a g→Hk E call BP Bw J c p f d K→KT G N Df h0 w0 K Q→FX ro P c Q a g
 |.skip,p,Q,h,μ,f,d,a,g,K,i,j,k=>by
  rcases Dj j with⟨m,hm,n⟩|j
  · exact hj p m _ Q hm h μ f d a g i n
  · exact wpIn_skip (k .normal _ _ _ _ _ i j)
 |.label l,p,Q,h,μ,f,d,a,g,K,i,j,k=>by
  rcases Dj j with⟨m,hm,n⟩|j
  · exact hj p m _ Q hm h μ f d a g i n
  · exact wpIn_label (k .normal _ _ _ _ _ i j)
 |.exit id,p,Q,h,μ,f,d,a,g,K,i,j,k=>by
  rcases Dj j with⟨m,hm,n⟩|j
  · exact hj p m _ Q hm h μ f d a g i n
  · exact wpIn_exit (k (.exit id) _ _ _ _ _ i j)
 |.goto l,p,Q,h,μ,f,d,a,g,K,i,j,k=>by
  rcases Dj j with⟨m,hm,n⟩|j
  · exact hj p m _ Q hm h μ f d a g i n
  · exact wpIn_goto (k (.goto l) _ _ _ _ _ i j)
 |.ret,p,Q,h,μ,f,d,a,g,K,i,j,k=>by
  rcases Dj j with⟨m,hm,n⟩|j
  · exact hj p m _ Q hm h μ f d a g i n
  · exact wpIn_ret (k .ret _ _ _ _ _ i j)
 |.refuse o,p,Q,h,μ,f,d,a,g,K,i,j,k=>j.elim
 |.rangeFunc q s t u,p,Q,h,μ,f,d,a,g,K,i,j,k=>by
  rcases Dj j with⟨m,hm,n⟩|j
  · exact hj p m _ Q hm h μ f d a g i n
  · obtain⟨v,w⟩:=Ao (show An nr _=true from Ea hk h);obtain⟨w,y⟩:=Ao w;cases O4 v;exact TR ok Dv i (Bq y) w j k
 |.region id o q,p,Q,h,μ,f,d,a,g,K,i,j,k=>by
  rcases Dj j with⟨m,hm,n⟩|j
  · exact hj p m _ Q hm h μ f d a g i n
  · exact gJ hm ok Dv (Ea hk h) i j k
 |.seq x s,p,Q,h,μ,f,d,a,g,K,i,j,k=>by
  rcases Dj j with⟨m,hm,n⟩|j
  · exact hj p m _ Q hm h μ f d a g i n
  · have t:Cc ro P c0 Q0 (.l p)=some (x,Exit.then (FX ro P s Q) Q):=by simp only[Cc,h];rfl
    have u:Cc ro P c0 Q0 (.r p)=some (s,Q):=by simp only[Cc,h];rfl
    have:=FX.wp (Ds x (.l p) _ t μ f d a g _ i j (Se (c:=s) (λμ f d a g i j=>Ds s (.r p) Q u μ f d a g K i j k) k));exact wpIn_seq (SP this λe a g v=>by cases e<;>first|exact FX.wp v|exact v)
 |.cond c x s,p,Q,h,μ,f,d,a,g,K,i,j,k=>by
  rcases Dj j with⟨m,hm,n⟩|j
  · exact hj p m _ Q hm h μ f d a g i n
  · have t:Cc ro P c0 Q0 (.l p)=some (x,Q):=by simp only[Cc,h];rfl
    have u:Cc ro P c0 Q0 (.r p)=some (s,Q):=by simp only[Cc,h];rfl
    have w:=(Ao (show An (CS G c) _=true from Ea hk h)).1;obtain⟨b,y,j⟩:=Ec j;have o:=i.fr.eval (E:=E) i.gl w;rw[y] at o;refine wpIn_cond (t:=b) o ?_;cases b with
    |true=>exact FX.wp (Ds x (.l p) Q t μ f d a g K i j k)
    |false=>exact FX.wp (Ds s (.r p) Q u μ f d a g K i j k)
 |.block id x,p,Q,h,μ,f,d,a,g,K,i,j,k=>by
  rcases Dj j with⟨m,hm,n⟩|j
  · exact hj p m _ Q hm h μ f d a g i n
  · have t:Cc ro P c0 Q0 (.l p)=some (x,Exit.inBlock id Q):=by simp only[Cc,h];rfl
    exact wpIn_block (FX.wp (Ds x (.l p) _ t μ f d a g _ i j (MK k)))
 |.loop x,p,Q,h,μ,f,d,a,g,K,i,j,k=>by
  rcases Dj j with⟨m,hm,n⟩|j
  · exact hj p m _ Q hm h μ f d a g i n
  · have t:Cc ro P c0 Q0 (.l p)=some (x,Exit.then (E8 ro P x Q) Q):=by simp only[Cc,h];rfl
    exact E8.of (FX.wp (Ds x (.l p) _ t μ f d a g _ i j (Pk (λμ f d a g i j=>Ib hj h i j) k)))
 |.scope x,p,Q,h,μ,f,d,a,g,K,i,j,k=>by
  rcases Dj j with⟨m,hm,n⟩|j
  · exact hj p m _ Q hm h μ f d a g i n
  · have t:Cc ro P c0 Q0 (.l p)=some (x,Exit.inScope ro P x Q):=by simp only[Cc,h];rfl
    refine FE.wp (FE.of (FX.wp (Ds x (.l p) _ t μ f d a g _ i j (JL (λl r q μ f d a g i j=>?_) k))));have v:Cc ro P c0 Q0 (.lab p l)=some (r,Exit.inScope ro P x Q):=by simp only[Cc,h,J1,q]
    exact Ib hj v i j
end
end
end Go.Den
namespace Go.Den
open Go.RowKit
section
variable{P:Program}{N G:Nat}
def ZE(b:Array Value)(r:ResultVar):Sem Value:=match r with
 |.tmp t=>pure (b.getD t undef)
 |.cell a t=>do loadVar t (←asAddr (b.getD a undef))
def sn(a:List Value):Value:=match a with
 |[v]=>v
 |a=>.tuple a.toArray
theorem JM{fn:Func}{a:Array Value}{b:World}{vs:List Value}(c:(fn.results.toList.mapM (ZE a)).run P b=.ok vs b):
 (results fn a).run P b=.ok (sn vs) b:=by
 unfold results;have d:(fn.results.mapM (ZE a)).run P b=.ok vs.toArray b:=by rw[Array.mapM_eq_mapM_toList,map_eq_pure_bind,Aa c];rfl
 refine Eq.trans (Aa (a:=vs.toArray) (w':=b) d) ?_
 match vs with
 |[]=>rfl
 |[v]=>rfl
 |v::f::vs=>rw[dif_neg (by simp)];rfl
end
section
variable{P:Program}
def Hi(e:Ext)(a:Array Value):Sem Value:=match e with
 |.Fw=>Extern.AbiNoEscape.same a
 |.nothing=>pure (.tuple #[])
 |.address=>match a[0]? with
  |some (Value.pointer (some _))=>pure (.tuple #[])
  | _ => stuck "internal/race: an address expected"
 |.indexByte=>Extern.BytealgIndexByte.indexByte a
 |.count=>Extern.BytealgCount.count a
 |.clone=>Extern.MapsClone.clone a
 |.Gf b=>Extern.Atomic.loadT (.int b) a
 |.Fv _=>Extern.Atomic.storeT a
 |.Jc b=>Extern.Atomic.update (Op.intArith .add) b true a
 |.Jr b=>Extern.Atomic.casT (.int b) a
 |.Wl=>Extern.Atomic.loadT .ptr a
 |.Wx=>Extern.Atomic.swapT .ptr a
 |.gb=>Extern.Atomic.casT .ptr a
theorem MD{n:Nat}(h:n≤255):(n.toUInt8).toNat=n:=by show(UInt8.ofNat n).toNat=n;simp;omega
theorem Amo(x:UInt8){n:Nat}(h:n≤255):vS x.toNat n=(x==n.toUInt8):=by
 rw[DY,Bool.eq_iff_iff];simp only[decide_eq_true_eq,beq_iff_eq];constructor
 · intro e;apply UInt8.toNat_inj.1;rw[MD h,e]
 · intro e;rw[e,MD h]
theorem M5(x:UInt8)(l:List UInt8):vT (enc (x::l)) 256=x.toNat∧vR (enc (x::l)) 256=enc l:=by
 have a:=x.toNat_lt;constructor
 · show enc (x::l)%256=_;simp only[enc];omega
 · show enc (x::l) / 256=_;simp only[enc];omega
theorem KM{a:Nat}(b:a≤255):∀(l:List UInt8)(c:Nat),Ij a l.length (enc l) c=match l.findIdx? (·==a.toUInt8) with
    |some j=>((c+j:Nat):Int)
    |none=>-1
  |[],c=>rfl
  |x::l,c=>by
    obtain⟨d,f⟩:=M5 x l;show(wg (Ij a l.length (vR (enc (x::l)) 256) (vN c 1)) (.ofNat c) (vS (vT (enc (x::l)) 256) a):Int)=_;rw[d,f,Amo x b,xA];cases g:x==a.toUInt8 with
    |true=>simp
    |false=>
      simp only[wO,if_false];rw[KM b l (vN c 1)];cases l.findIdx? (·==a.toUInt8) with
      |none=>rfl
      |some j=>simp only[wV];show((c+1+j:Nat):Int)=_;congr 1;omega
theorem Lw{a:Nat}(b:a≤255):∀(l:List UInt8)(c:Nat),Jg a l.length (enc l) c=l.foldl (λn x=>if x==a.toUInt8 then n+1 else n) (c:Int)
 |[],c=>rfl
 |x::l,c=>by
  obtain⟨d,f⟩:=M5 x l;show(wg (Jg a l.length (vR (enc (x::l)) 256) c) (Jg a l.length (vR (enc (x::l)) 256) (vN c 1)) (vS (vT (enc (x::l)) 256) a):Int)=_;rw[d,f,Amo x b,wS];cases g:x==a.toUInt8 with
  |true=>exact Lw b l (c+1)
  |false=>exact Lw b l c
theorem ZV(a:ByteArray)(b:UInt8):(xM a.size).find? (λc=>a[c]! ==b)=a.data.toList.findIdx? (·==b):=by
 have d:∀(l:List UInt8)(f:Nat→UInt8)(g:Nat),(∀(c:Nat)(h:c<l.length),f (g+c)=l[c])→(List.range' g l.length).find? (λc=>f c==b)=(l.findIdx? (·==b)).map (g+·):=by
  intro l;induction l with
  |nil=>intro f g _;rfl
  |cons x l i=>
   intro f g k;have h0:f g=x:=k 0 (by simp);rw[l6,List.range'_succ,List.find?_cons,xA,h0];cases m:x==b with
   |true=>simp
   |false=>
    simp only[wO,if_false];rw[i f (g+1) (λc h=>by have:=k (c+1) (by simpa using h);rw[show g+1+c=g+(c+1) from by omega,this];rfl)];cases l.findIdx? (·==b) with
    |none=>rfl
    |some j=>simp only[wV];congr 1;omega
 have:=d a.data.toList (λc=>a[c]!) 0 (λc h=>by have n:c<a.size:=h;rw[wJ];show a[c]! =_;rw[getElem!_pos a c n];rfl);rw[List.range_eq_range'];refine(this.trans ?_);cases a.data.toList.findIdx? (·==b)<;>simp
theorem Wo(a:ByteArray)(b:UInt8)(c:Int):a.foldl (λn x=>if x==b then n+1 else n) c=a.data.toList.foldl (λn x=>if x==b then n+1 else n) c:=by
 have d:∀(n j:Nat)(f:Int)(g:a.size≤a.size),n+j=a.size→(ByteArray.foldlM.loop (λ(h:Int) i=>(pure (if i==b then h+1 else h):_root_.Id Int)) a a.size g n j f:_root_.Id Int).run=(a.data.toList.drop j).foldl (λn x=>if x==b then n+1 else n) f:=by
  intro n;induction n with
  |zero=>intro j f g k;unfold ByteArray.foldlM.loop;rw[dif_neg (by omega),List.drop_eq_nil_of_le (by show a.data.toList.length≤j;have:a.data.toList.length=a.size:=rfl;omega)];rfl
  |succ n l=>
   intro j f g k;unfold ByteArray.foldlM.loop;have m:j<a.size:=by omega
   rw[dif_pos m,o9 (show j<a.data.toList.length from m),wS];exact l (j+1) _ g (by omega)
 have:=d a.size 0 c (vE _) (by omega);rw[List.drop_zero] at this;rw[←this];unfold ByteArray.foldl ByteArray.foldlM;rw[dif_pos (vE _)];rfl
theorem args1{μ:Mu}{a:List U}{b:Array Value}(c:BN μ a b.toList)(d:a.length=1):∃x v,a=[x]∧b=#[v]∧VR μ x v:=by
 match a,c with
 |[x],c=>obtain⟨v,l,e,f,g⟩:=c;cases(show l=[] from g);exact⟨x,v,rfl,by apply Array.ext';simpa using e,f⟩
theorem args2{μ:Mu}{a:List U}{b:Array Value}(c:BN μ a b.toList)(d:a.length=2):∃x f v g,a=[x,f]∧b=#[v,g]∧VR μ x v∧VR μ f g:=by
 match a,c with
 |[x,f],c=>obtain⟨v,l,e,h,g,i,j,k,m⟩:=c;cases(show i=[] from m);subst j;exact⟨x,f,v,g,rfl,by apply Array.ext';simpa using e,h,k⟩
theorem qA{μ:Mu}{a:List U}{b:Array Value}(c:BN μ a b.toList)(d:a.length=3):∃x f z v g t,a=[x,f,z]∧b=#[v,g,t]∧VR μ x v∧VR μ f g∧VR μ z t:=by
 match a,c with
 |[x,f,z],c=>obtain⟨v,l,e,h,g,i,j,k,t,m,n,o,p⟩:=c;cases(show m=[] from p);subst n;subst j;exact⟨x,f,z,v,g,t,rfl,by apply Array.ext';simpa using e,h,k,o⟩
theorem KZ{k:IntKind}{v:U}{n:Int}(h:LD k v=some n):v=.int k n:=by
 cases v<;>simp only[LD] at h<;>try cases h
 rename_i j m;split at h
 · rename_i e;cases e;cases h;rfl
 · cases h
theorem Bc.cellAt{a:Type}{μ:Mu}{b:Hp a}{c:World}(d:Bc μ b c){f:Go.Den.P}{o:Nat}{l:Loc}(g:μ f=some l){x:U}{h:Hp a}(i:b.write f o [x]=some h):(c.cell? ⟨l.blk,l.off+o,wA⟩).isSome=true:=by
 have j:=d.rowOf g rfl;unfold Hp.write Hp.Ew at i;cases k:CG (b.at f) with
 |no=>rw[k] at i;cases i
 |ext m n=>rw[k] at i;cases i
 |row t n z e p=>rw[k] at i;obtain⟨q,i⟩:=AK (show LA b f o [x] wA some t n z e p=some h from i);obtain⟨r,i⟩:=AK i;have r:o+1≤n:=Bq r;obtain⟨_,s,cs,u,w,y,a,_⟩:=j.1 t n z e p k;rw[g] at w;cases w;obtain⟨v,c,_⟩:=a.2.2 o (by omega);rw[GQ y,c];rfl
theorem fm{a:Type}(P:Program){μ:Mu}{b:Hp a}{c:World}(d:Bc μ b c){f:Go.Den.P}{o:Nat}{l:Loc}(g:μ f=some l){k:IntKind}{h:Int}{i:Hp a}(j:b.write f o [.int k h]=some i):
 (c.cell? ⟨l.blk,l.off+o,none⟩).isSome=true∧c.frozen? ⟨l.blk,l.off+o,none⟩=false∧Bc μ i (c.setCell ⟨l.blk,l.off+o,none⟩ (.int k h))∧BF μ b c μ i (c.setCell ⟨l.blk,l.off+o,none⟩ (.int k h)):=by
 obtain⟨m,n,p,q,r,s,t,u⟩:=d.write (Pr:=P) (good:=λo=>o=some i) (bad:=none) (λe=>nomatch e) (k:=some) (vs:=[.int k h]) g j ⟨_,[],rfl,rfl,rfl⟩ rfl;rw[g] at q;cases q;cases u;have v:(storeCells ⟨l.blk,l.off+o,none⟩ [.int k h]).run P c=(store ⟨l.blk,l.off+o,none⟩ (.int k h)).run P c:=by
  show(do store ((⟨l.blk,l.off+o,none⟩:Addr).add 0) (.int k h);pure ():Sem Unit).run P c=_;rw[E1,wX,Sem.run_bind];cases(store ⟨l.blk,l.off+o,none⟩ (.int k h)).run P c with
  |ok w c=>rfl
  |halt b c=>rfl
 rw[v,run_store P c _ (.int k h) .plain rfl] at r;have x:=d.cellAt g j;obtain⟨y,a⟩:=xW.1 x;rw[a] at r;cases f:c.frozen? ⟨l.blk,l.off+o,none⟩ with
 |true=>rw[f] at r;cases r
 |false=>rw[f] at r;have r:(Result.ok () (c.setCell ⟨l.blk,l.off+o,none⟩ (.int k h)):Result Unit)=.ok () n:=r;cases r;exact⟨x,rfl,s,t⟩
theorem eQ{b:Type}{μ:Mu}{c:Hp b}{d:World}(f:Bc μ c d){g:Go.Den.P}{o:Nat}{l:Loc}(h:μ g=some l){v:U}{k:IntKind}{n:Int}(i:c.E4 g o=some v)(hi:LD k v=some n):d.cell? ⟨l.blk,l.off+o,none⟩=some (.int k n):=by obtain⟨j,m,a,p,q,r,_,s⟩:=f.E4 (good:=λo=>o=some v) (bad:=none) (λe=>nomatch e) (k:=some) h i;rw[h] at p;cases p;cases s;rw[KZ hi] at r;rw[q,show m=_ from r]
theorem LY{v p:U}(a:Lm v=some p):p=v∧v.one=true∧∀μ b,VR μ v b→∃q,b=.pointer q:=by
 cases v<;>simp only[Lm] at a<;>cases a
 · exact⟨rfl,rfl,λμ b c=>⟨_,c⟩⟩
 · exact⟨rfl,rfl,λμ b ⟨l,_,c⟩=>⟨_,c⟩⟩
theorem jW{x a:U}(b:Adm x a=true):x=a:=by
 cases x<;>simp only[Adm] at b<;>try cases b
 · cases a<;>simp only at b<;>first|rfl|cases b
 · cases a<;>simp only at b<;>try cases b
   obtain⟨c,d⟩:=Ao b;rw[Go.Den.P.beq_eq c,vW d]
theorem ft{a:Type}(P:Program){μ:Mu}{b:Hp a}{c:World}(d:Bc μ b c){f:Go.Den.P}{o:Nat}{l:Loc}(g:μ f=some l){h:U}(i:h.one=true){q:Option Addr}(j:VR μ h (.pointer q)){k:Hp a}(m:b.write f o [h]=some k):
 (c.cell? ⟨l.blk,l.off+o,none⟩).isSome=true∧c.frozen? ⟨l.blk,l.off+o,none⟩=false∧Bc μ k (c.setCell ⟨l.blk,l.off+o,none⟩ (.pointer q))∧BF μ b c μ k (c.setCell ⟨l.blk,l.off+o,none⟩ (.pointer q)):=by
 obtain⟨n,p,r,s,t,u,v,w⟩:=d.write (Pr:=P) (good:=λo=>o=some k) (bad:=none) (λe=>nomatch e) (k:=some) (vs:=[.pointer q]) g m ⟨_,[],rfl,j,rfl⟩ (by simp[i]);rw[g] at s;cases s;cases w;have x:(storeCells ⟨l.blk,l.off+o,none⟩ [.pointer q]).run P c=(store ⟨l.blk,l.off+o,none⟩ (.pointer q)).run P c:=by
  show(do store ((⟨l.blk,l.off+o,none⟩:Addr).add 0) (.pointer q);pure ():Sem Unit).run P c=_;rw[E1,wX,Sem.run_bind];cases(store ⟨l.blk,l.off+o,none⟩ (.pointer q)).run P c with
  |ok y c=>rfl
  |halt b c=>rfl
 rw[x,run_store P c _ (.pointer q) .plain rfl] at t;have a:=d.cellAt g m;obtain⟨f,h⟩:=xW.1 a;rw[h] at t;cases n:c.frozen? ⟨l.blk,l.off+o,none⟩ with
 |true=>rw[n] at t;cases t
 |false=>rw[n] at t;have t:(Result.ok () (c.setCell ⟨l.blk,l.off+o,none⟩ (.pointer q)):Result Unit)=.ok () p:=t;cases t;exact⟨a,rfl,u,v⟩
theorem Wj{b:Type}{μ:Mu}{c:Hp b}{d:World}(f:Bc μ c d){g:Go.Den.P}{o:Nat}{l:Loc}(h:μ g=some l){v p:U}(i:c.E4 g o=some v)(hi:Lm v=some p):∃q,d.cell? ⟨l.blk,l.off+o,none⟩=some (.pointer q)∧VR μ p (.pointer q):=by obtain⟨j,k,a,m,n,r,_,s⟩:=f.E4 (good:=λo=>o=some v) (bad:=none) (λe=>nomatch e) (k:=some) h i;rw[h] at m;cases m;cases s;obtain⟨rfl,_,t⟩:=LY hi;obtain⟨q,rfl⟩:=t _ _ r;exact⟨q,n,r⟩
theorem Aai{c9:Type}{μ:Mu}{a5:Hp c9}{i:World}(f:Bc μ a5 i){e:Ext}{a6:List U}{c8:Array Value}(w:BN μ a6 c8.toList)(s:∀n,rQ e=some n→a6.length=n){r:U×Hp c9}(a:C1 e a6 a5=some r):
 CM P μ a5 i (Hi e c8) r.1 r.2:=by
 have d4:∀(b9:Nat→Nat→Nat→Int),Qn b9 (DZ a6) (arg1 a6) a5=some r→a6.length=2→∃str c l a0,c8=#[.string str,.int .u8 (vJ c)]∧Dk l a0 str∧c≤255∧r=(.int .i64 (b9 l a0 c),a5):=by
  intro b9 a s;obtain⟨x,m,v,y,rfl,rfl,d,g⟩:=args2 w s;simp only[DZ,arg1] at a;cases x<;>simp only[Qn] at a<;>try cases a
  obtain⟨c,b2,a⟩:=Ah a;obtain⟨c3,a⟩:=AK a;cases a;have:=Kl b2;subst this;obtain⟨str,rfl,e8⟩:=d;have g:y=.int .u8 (vJ c):=g;subst g;exact⟨str,c,_,_,rfl,e8,Bq c3,rfl⟩
 cases e
 case Fw=>obtain⟨x,v,rfl,rfl,d⟩:=args1 w (s 1 rfl);cases a;exact .here f rfl d
 case nothing=>cases a;exact .here f (v:=.tuple #[]) rfl (VR.undef μ)
 case address=>
  cases a6 with
  |nil=>cases a
  |cons x l=>obtain⟨v,f5,e,d,_⟩:=w;cases x<;>simp only[C1,DZ] at a<;>cases a;obtain⟨q,f2,rfl⟩:=d;refine .here f (v:=.tuple #[]) ?_ (VR.undef μ);simp only[Hi];rw[←Array.getElem?_toList,e];rfl
 case indexByte=>
  obtain⟨str,c,l,a0,rfl,⟨rfl,rfl⟩,b2,rfl⟩:=d4 _ a (s 2 rfl);have hi:=KM b2 str.data.toList 0;refine .here f (v:=.int .i64 (Ij c str.size (enc str.data.toList) 0)) ?_ rfl;show(Extern.BytealgIndexByte.indexByte #[.string str,.int .u8 (vJ c)]).run P i=_;have b3:Extern.BytealgIndexByte.indexByte #[.string str,.int .u8 (vJ c)]=(match(xM str.size).find? λc7=>str[c7]! ==c.toUInt8 with
   |some c7=>pure (goInt c7)
   |none=>pure (goInt (-1))):=rfl
  rw[b3,ZV];have c0:Ij c str.size (enc str.data.toList) 0=_:=hi;rw[c0];cases str.data.toList.findIdx? (·==c.toUInt8) with
  |none=>rfl
  |some j=>simp only[wJ];rfl
 case count=>obtain⟨str,c,l,a0,rfl,⟨rfl,rfl⟩,b2,rfl⟩:=d4 _ a (s 2 rfl);have hi:=Lw b2 str.data.toList 0;refine .here f (v:=.int .i64 (Jg c str.size (enc str.data.toList) 0)) ?_ rfl;have b3:Hi .count #[.string str,.int .u8 (vJ c)]=pure (goInt (str.foldl (λn x=>if x==c.toUInt8 then n+1 else n) ((0:Nat):Int))):=rfl;have c0:Jg c str.size (enc str.data.toList) 0=_:=hi;rw[b3,Wo,c0];rfl
 case clone=>
  obtain⟨x,v,rfl,rfl,d⟩:=args1 w (s 1 rfl);have a:aQ x a5=some r:=a;obtain⟨t,c,rfl,d1⟩:∃t c,x=.iface t (.map c)∧U9 t (EJ (a5.at c)) a5=some r:=by
   cases x with
   |iface t u=>cases u with
    |map c=>exact⟨t,c,rfl,a⟩
    |_=>cases a
   |_=>cases a
  obtain⟨p,e3,e6⟩:=Ah d1;clear a d1;cases e6;obtain⟨m,rfl,d2,c2,rfl⟩:=d;obtain⟨l,d5,h,e0,e1⟩:=f.Pa c2 (GS e3);rw[h] at c2;cases c2;obtain⟨e9,f0⟩:=f.alloc (.map p.1 p.2) (.map d5 p.2) 0 0 λf6 c3=>⟨d5,DW _ _,e1.mono c3⟩
  refine⟨.iface t (.map (some i.heap.size)),_,_,?_,e9,f0,⟨_,rfl,_,Mu.BD _ _ _,rfl⟩⟩;have b3:Hi .clone #[.iface t (.map (some d2.blk))]=(do
   let .map entries d6 ← getObj d2.blk | stuck "maps.clone: a map expected"
   pure (.iface t (.map (some (←newObj (.map entries d6)))))):=rfl
  rw[b3];rw[Aa (De e0 (by intros;simp))];rfl
 case Gf b=>
  obtain⟨x,v,rfl,rfl,d⟩:=args1 w (s 1 rfl);cases x<;>simp only[C1,DZ,iM] at a<;>try cases a
  obtain⟨y,c6,a⟩:=Ah a;obtain⟨n,a9,a⟩:=Ah a;cases a;obtain⟨l,h,rfl⟩:=d;have k:=eQ f h c6 a9;refine .here f (v:=.int b n) ?_ rfl;show(Sem.run P (do Extern.Atomic.read (.int b) (←asAddr (.pointer (some _)))) i)=_;simp[Extern.Atomic.read,asAddr,k,Result.andThen]
 case Fv b=>
  obtain⟨x,m,v,y,rfl,rfl,d,g⟩:=args2 w (s 2 rfl);cases x<;>simp only[C1,DZ,arg1,aG] at a<;>try cases a
  obtain⟨n,a9,a⟩:=Ah a;obtain⟨b6,a1,a⟩:=Ah a;cases a;obtain⟨l,h,rfl⟩:=d;rw[KZ a9] at g;cases(show y=.int b n from g);obtain⟨k,a2,a3,a4⟩:=fm P f h a1;obtain⟨a0,k⟩:=xW.1 k;refine⟨.tuple #[],_,μ,?_,a3,a4,VR.undef μ⟩;show(Sem.run P (do
   store (←asAddr (.pointer (some _))) (.int b n) .atomic
   pure Extern.Atomic.none_) i)=_
  simp[asAddr,k,a2,run_store P i _ (.int b n) .atomic rfl,Result.andThen,Extern.Atomic.none_]
 case Jc b=>
  obtain⟨x,m,v,y,rfl,rfl,d,g⟩:=args2 w (s 2 rfl);cases x<;>simp only[C1,DZ,arg1,tG] at a<;>try cases a
  obtain⟨a0,a7,a⟩:=Ah a;obtain⟨n,a9,a⟩:=Ah a;obtain⟨u,a8,a⟩:=Ah a;obtain⟨b6,a1,a⟩:=Ah a;cases a;obtain⟨l,h,rfl⟩:=d;rw[KZ a8] at g;cases(show y=.int b u from g);have k:=eQ f h a7 a9;obtain⟨_,a2,a3,a4⟩:=fm P f h a1;refine⟨.int b (wrap b (AW n u)),_,μ,?_,a3,a4,rfl⟩;have e7:(Op.intArith .add b n u).run P i=.ok (.int b (wrap b (AW n u))) i:=by rw[Hd,Tz];rfl
  show(Sem.run P (do
   let o ←asAddr (.pointer (some _));let b8 ←Extern.Atomic.read (.int b) o;let new ←Op.intArith .add b (←asInt b8) (←asInt (.int b u))
   store o new .atomic
   pure (if true=true then new else b8)) i)=_
  simp[Extern.Atomic.read,asAddr,asInt,asIntOf,k,a2,e7,run_store P i _ (.int b (wrap b (AW n u))) .atomic rfl,Result.andThen]
 case Jr b=>
  obtain⟨x,m,z,v,y,t,rfl,rfl,d,g,b1⟩:=qA w (s 3 rfl);cases x<;>simp only[C1,DZ,arg1,qZ] at a<;>try cases a
  obtain⟨a0,a7,a⟩:=Ah a;obtain⟨n,a9,a⟩:=Ah a;obtain⟨u,a8,a⟩:=Ah a;obtain⟨q,c1,a⟩:=Ah a;obtain⟨b7,a⟩:=AK a;obtain⟨b6,a1,a⟩:=Ah a;cases a;obtain⟨l,h,rfl⟩:=d;rw[KZ a8] at g;cases(show y=.int b u from g);have c1:LD b z=some q:=c1;rw[KZ c1] at b1;cases(show t=.int b q from b1);have e2:n=u:=by rw[Fi] at b7;simpa using b7
  subst e2;have k:=eQ f h a7 a9;obtain⟨_,a2,a3,a4⟩:=fm P f h a1;refine⟨.bool true,_,μ,?_,a3,a4,rfl⟩;show(Sem.run P (do
   let o ←asAddr (.pointer (some _))
   if ← Extern.Atomic.touchesFrozen o then unsupported (.unsafePointer "a write to bytes that a string shares")
   let eq ←match Extern.Atomic.T.int b,←Extern.Atomic.read (.int b) o,Value.int b n with
    |_,.int _ x,.int _ m=>pure (x==m)
    |.ptr,.pointer x,.pointer m=>samePointer x m
    |.int _,.pointer (some _),.int _ 0|.int _,.int _ 0,.pointer (some _)=>pure false
    |.int _,.pointer (some _),_|.int _,_,.pointer (some _)=>unsupported .addressObserved
    | _, _, _ => stuck "atomic.CompareAndSwap: old is no T"
   if eq then store o (.int b q) .atomic
   pure (Value.bool eq)) i)=_
  simp[Extern.Atomic.touchesFrozen,Extern.Atomic.read,asAddr,viewAt,World.shape?_isSome_of_cell? k,k,a2,run_store P i _ (.int b q) .atomic rfl,Result.andThen]
 case Wl=>
  obtain⟨x,v,rfl,rfl,d⟩:=args1 w (s 1 rfl);cases x<;>simp only[C1,DZ,fw] at a<;>try cases a
  obtain⟨y,c6,a⟩:=Ah a;obtain⟨p,b4,a⟩:=Ah a;cases a;obtain⟨l,h,rfl⟩:=d;obtain⟨q,k,b0⟩:=Wj f h c6 b4;refine .here f (v:=.pointer q) ?_ b0;show(Sem.run P (do Extern.Atomic.read .ptr (←asAddr (.pointer (some _)))) i)=_;simp[Extern.Atomic.read,asAddr,k,Result.andThen]
 case Wx=>
  obtain⟨x,m,v,y,rfl,rfl,d,g⟩:=args2 w (s 2 rfl);cases x<;>simp only[C1,DZ,arg1,jj] at a<;>try cases a
  obtain⟨a0,a7,a⟩:=Ah a;obtain⟨p,b4,a⟩:=Ah a;obtain⟨z,b5,a⟩:=Ah a;obtain⟨b6,a1,a⟩:=Ah a;cases a;obtain⟨l,h,rfl⟩:=d;obtain⟨q,k,b0⟩:=Wj f h a7 b4;obtain⟨rfl,c4,c5⟩:=LY b5;obtain⟨r,rfl⟩:=c5 _ _ g;obtain⟨_,a2,a3,a4⟩:=ft P f h c4 g a1;refine⟨.pointer q,_,μ,?_,a3,a4,b0⟩;show(Sem.run P (do
   let o ←asAddr (.pointer (some _));let b8 ←Extern.Atomic.read .ptr o
   store o (.pointer r) .atomic
   pure b8) i)=_
  simp[Extern.Atomic.read,asAddr,k,a2,run_store P i _ (.pointer r) .atomic rfl,Result.andThen]
 case gb=>
  obtain⟨x,m,z,v,y,t,rfl,rfl,d,g,b1⟩:=qA w (s 3 rfl);cases x<;>simp only[C1,DZ,arg1,sq] at a<;>try cases a
  obtain⟨a0,a7,a⟩:=Ah a;obtain⟨p,b4,a⟩:=Ah a;obtain⟨u,a8,a⟩:=Ah a;obtain⟨f1,b5,a⟩:=Ah a;obtain⟨b7,a⟩:=AK a;obtain⟨b6,a1,a⟩:=Ah a;cases a;obtain⟨l,h,rfl⟩:=d;obtain⟨q,k,b0⟩:=Wj f h a7 b4;obtain rfl:=jW b7;obtain⟨rfl,_,e4⟩:=LY a8;obtain⟨r,rfl⟩:=e4 _ _ g;have b5:Lm z=some f1:=b5;obtain⟨rfl,c4,c5⟩:=LY b5;obtain⟨d3,rfl⟩:=c5 _ _ b1;have e5:q=r:=by
   cases p<;>simp only[Lm] at a8<;>cases a8
   · cases b0;cases g;rfl
   · obtain⟨f3,d7,d8⟩:=b0;obtain⟨f4,d0,d9⟩:=g;rw[d7] at d0;cases d0;cases d8;cases d9;rfl
  subst e5;obtain⟨_,a2,a3,a4⟩:=ft P f h c4 b1 a1;refine⟨.bool true,_,μ,?_,a3,a4,rfl⟩;show(Sem.run P (do
   let o ←asAddr (.pointer (some _))
   if ← Extern.Atomic.touchesFrozen o then unsupported (.unsafePointer "a write to bytes that a string shares")
   let eq ←match Extern.Atomic.T.ptr,←Extern.Atomic.read .ptr o,Value.pointer q with
    |_,.int _ x,.int _ m=>pure (x==m)
    |.ptr,.pointer x,.pointer m=>samePointer x m
    |.int _,.pointer (some _),.int _ 0|.int _,.int _ 0,.pointer (some _)=>pure false
    |.int _,.pointer (some _),_|.int _,_,.pointer (some _)=>unsupported .addressObserved
    | _, _, _ => stuck "atomic.CompareAndSwap: old is no T"
   if eq then store o (.pointer d3) .atomic
   pure (Value.bool eq)) i)=_
  cases q<;>simp[Extern.Atomic.touchesFrozen,Extern.Atomic.read,asAddr,samePointer,sameAddr,viewAt,World.shape?_isSome_of_cell? k,k,a2,run_store P i _ (.pointer d3) .atomic rfl,Result.andThen]
end
end Go.Den
namespace Go.Den
open Go.RowKit
section
variable{ro:Option Nat}{P:Program}{E:Env}{N G:Nat}{nr:Bool}{call:CF}{BP:Ak}{Bw:As}{J:Jump}{c0:Code}{Q0:QT}{K0:Fp}{Df:Mu}{h0:H}{w0:World}
section
variable(hm:P.follows .mixedOrders=true)(ok:Bt P E)(Dv:C4 P (CP E) G (fun p=>p) call)(hj:sa ro P Bw c0 Q0 G N Df h0 w0 J)(hk:DN P E BP N G nr c0=true)(O4:nr=true→ro=none)
include hm ok Dv hj hk O4
theorem jT(c:Code)(p:Pos)(Q:QT)(b:Cc ro P c0 Q0 p=some (c,Q)){μ:Mu}{f:FT}{d:H}{a:Act}{g:World}{K:Fp}(h:At G N Df h0 w0 μ f d a g)(i:Acn E call BP Bw J c p f d K)(j:KT G N Df h0 w0 K Q):FX ro P c Q a g:=by
 cases c with
 |skip=>exact wpIn_skip (j .normal _ _ _ _ _ h i)
 |label l=>exact wpIn_label (j .normal _ _ _ _ _ h i)
 |exit id=>exact wpIn_exit (j (.exit id) _ _ _ _ _ h i)
 |goto l=>exact wpIn_goto (j (.goto l) _ _ _ _ _ h i)
 |ret=>exact wpIn_ret (j .ret _ _ _ _ _ h i)
 |refuse k=>exact i.elim
 |rangeFunc m n o q=>obtain⟨s,t⟩:=Ao (show An nr _=true from Ea hk b);obtain⟨t,u⟩:=Ao t;cases O4 s;exact TR ok Dv h (Bq u) t i j
 |region id v w=>exact gJ hm ok Dv (Ea hk b) h i j
 |seq x y=>
  have k:Cc ro P c0 Q0 (.l p)=some (x,Exit.then (FX ro P y Q) Q):=by simp only[Cc,b];rfl
  have m:Cc ro P c0 Q0 (.r p)=some (y,Q):=by simp only[Cc,b];rfl
  have:=FX.wp (Ds hm ok Dv hj hk O4 x (.l p) _ k μ f d a g _ h i (Se (c:=y) (λμ f d a g h i=>Ds hm ok Dv hj hk O4 y (.r p) Q m μ f d a g K h i j) j));exact wpIn_seq (SP this λe a g n=>by cases e<;>first|exact FX.wp n|exact n)
 |cond c x y=>
  have k:Cc ro P c0 Q0 (.l p)=some (x,Q):=by simp only[Cc,b];rfl
  have m:Cc ro P c0 Q0 (.r p)=some (y,Q):=by simp only[Cc,b];rfl
  have o:=(Ao (show An (CS G c) _=true from Ea hk b)).1;obtain⟨q,s,i⟩:=Ec i;have t:=h.fr.eval (E:=E) h.gl o;rw[s] at t;refine wpIn_cond (t:=q) t ?_;cases q with
  |true=>exact FX.wp (Ds hm ok Dv hj hk O4 x (.l p) Q k μ f d a g K h i j)
  |false=>exact FX.wp (Ds hm ok Dv hj hk O4 y (.r p) Q m μ f d a g K h i j)
 |block id x=>
  have k:Cc ro P c0 Q0 (.l p)=some (x,Exit.inBlock id Q):=by simp only[Cc,b];rfl
  exact wpIn_block (FX.wp (Ds hm ok Dv hj hk O4 x (.l p) _ k μ f d a g _ h i (MK j)))
 |loop x=>
  have k:Cc ro P c0 Q0 (.l p)=some (x,Exit.then (E8 ro P x Q) Q):=by simp only[Cc,b];rfl
  exact E8.of (FX.wp (Ds hm ok Dv hj hk O4 x (.l p) _ k μ f d a g _ h i (Pk (λμ f d a g h i=>Ib hj b h i) j)))
 |scope x=>
  have k:Cc ro P c0 Q0 (.l p)=some (x,Exit.inScope ro P x Q):=by simp only[Cc,b];rfl
  refine FE.wp (FE.of (FX.wp (Ds hm ok Dv hj hk O4 x (.l p) _ k μ f d a g _ h i (JL (λl r u μ f d a g h i=>?_) j))));have v:Cc ro P c0 Q0 (.lab p l)=some (r,Exit.inScope ro P x Q):=by simp only[Cc,b,J1,u]
  exact Ib hj v h i
theorem Md(b:KT G N Df h0 w0 K0 Q0):∀(p:Pos){c d:Code}{Q:QT}{K:Fp},Cc ro P c0 Q0 p=some (c,Q)→JG E call BP Bw J c0 K0 p=some (d,K)→d=c∧KT G N Df h0 w0 K Q
 |.root,c,d,Q,K,g,h=>by cases g;cases h;exact⟨rfl,b⟩
 |.l p,c,d,Q,K,g,h=>by
  simp only[Cc] at g;have h:(wz none (λq=>ckL E call BP Bw J p q.1 q.2) (JG E call BP Bw J c0 K0 p):CK)=some (d,K):=h;cases i:Cc ro P c0 Q0 p with
  |none=>rw[i] at g;cases g
  |some q=>
   rw[i] at g;obtain⟨j,Qd⟩:=q;cases k:JG E call BP Bw J c0 K0 p with
   |none=>rw[k] at h;cases h
   |some z=>
    rw[k] at h;obtain⟨m,Kd⟩:=z;obtain⟨rfl,o⟩:=Md b p i k;cases m<;>simp only[Abp] at g<;>try cases g
    · rename_i x s;cases h;have t:Cc ro P c0 Q0 (.r p)=some (s,Qd):=by simp only[Cc,i];rfl
      exact⟨rfl,Se (c:=s) (λμ f u a v w y=>Ds hm ok Dv hj hk O4 s (.r p) Qd t μ f u a v Kd w y o) o⟩
    · cases h;exact⟨rfl,o⟩
    · cases h;exact⟨rfl,MK o⟩
    · cases h;exact⟨rfl,Pk (λμ f u a v w y=>Ib hj i w y) o⟩
    · rename_i x;cases h;refine⟨rfl,JL (λl r s μ f u a v w y=>?_) o⟩;have t:Cc ro P c0 Q0 (.lab p l)=some (r,Exit.inScope ro P c Qd):=by simp only[Cc,i,J1,s]
      exact Ib hj t w y
 |.r p,c,d,Q,K,g,h=>by
  simp only[Cc] at g;have h:(wz none (λq=>ckR q.1 q.2) (JG E call BP Bw J c0 K0 p):CK)=some (d,K):=h;cases i:Cc ro P c0 Q0 p with
  |none=>rw[i] at g;cases g
  |some q=>
   rw[i] at g;obtain⟨j,Qd⟩:=q;cases k:JG E call BP Bw J c0 K0 p with
   |none=>rw[k] at h;cases h
   |some z=>
    rw[k] at h;obtain⟨m,Kd⟩:=z;obtain⟨rfl,o⟩:=Md b p i k;cases m<;>simp only[Aaq] at g<;>try cases g
    · cases h;exact⟨rfl,o⟩
    · cases h;exact⟨rfl,o⟩
 |.lab p n,c,d,Q,K,g,h=>by
  simp only[Cc] at g;have h:(wz none (λq=>Acf Bw J p n q.1 q.2) (JG E call BP Bw J c0 K0 p):CK)=some (d,K):=h;cases i:Cc ro P c0 Q0 p with
  |none=>rw[i] at g;cases g
  |some q=>
   rw[i] at g;obtain⟨j,Qd⟩:=q;cases k:JG E call BP Bw J c0 K0 p with
   |none=>rw[k] at h;cases h
   |some z=>
    rw[k] at h;obtain⟨m,Kd⟩:=z;obtain⟨rfl,o⟩:=Md b p i k;cases m<;>simp only[J1] at g<;>try cases g
    rename_i x;have h:(wz none (λr=>some (r,Om x (λl f u=>enter Bw J (.lab p l) f u False) Kd)) (findLabel x n):CK)=some (d,K):=h;cases s:findLabel x n with
    |none=>rw[s] at g;cases g
    |some r=>
     rw[s] at g h;cases g;cases h;refine⟨rfl,JL (λl r s μ f u a v w y=>?_) o⟩;have t:Cc ro P c0 Q0 (.lab p l)=some (r,Exit.inScope ro P x Qd):=by simp only[Cc,i,J1,s]
     exact Ib hj t w y
end
theorem SG(b:P.follows .mixedOrders=true)(c:Bt P E)(d:C4 P (CP E) G (λp=>p) call)(g:DN P E BP N G nr c0=true)(h:nr=true→ro=none)(i:KT G N Df h0 w0 K0 Q0)(Jn:Nat→Jump)(j:∀k f l,¬Jn 0 k f l)
 (m:∀n p k,(p,k)∈Bw→∀f l,Jn (n+1) k f l→EL E call BP Bw (Jn n) c0 K0 p f l):∀n,sa ro P Bw c0 Q0 G N Df h0 w0 (Jn n):=by
 intro n;induction n with
 |zero=>intro p k o Q _ _ μ f l a q _ r;exact(j k f l r).elim
 |succ n s=>
  intro p k o Q t u μ f l a q v r;have w:=m n p k t f l r;unfold EL at w;cases x:JG E call BP Bw (Jn n) c0 K0 p with
  |none=>rw[x] at w;exact w.elim
  |some z=>rw[x] at w;obtain⟨y,K⟩:=z;obtain⟨rfl,j⟩:=Md b c d s g h i p u x;exact jT b c d s g h y p Q u v w j
end
section
variable{P:Program}{E:Env}{G:Nat}
def SW(P:Program)(G:Nat):CF:=λfn a b c=>∀(μ:Mu)(d:World)(g:Fn)(h:Array Value),Bc μ b d→DE μ G→LC μ fn g→BN μ a h.toList→(∃f,g=.func f∧
    ((∃v i j av k,(callFunc f h).run P d=.ok (.value v) i∧Bc j k i∧BF μ b d j k i∧VR j av v∧c av k)∨
     ((callFunc f h).run P d=.ok (.enter f h) d∧Calls P f h d λe i=>∃v j av k,e=.returned v∧Bc j k i∧BF μ b d j k i∧VR j av v∧c av k)))∨
    fR P h d g λe i=>∃v j av k,e=.returned v∧Bc j k i∧BF μ b d j k i∧VR j av v∧c av k
theorem AJ:C4 P (CP E) G (λp=>p) (SW P G):=λμ _ w _ a _ b _ s c d f g=>g μ w a b s c d f
theorem Wv{a:CF}(b:C4 P (CP E) G (λp=>p) a){fn:Fn}{c:List U}{d:H}{f:KV}(g:a fn c d f):SW P G fn c d f:=λμ h i j k l m n=>b μ d h fn i c j f k l m n g
theorem Nw{fn:Fn}{a:List U}{b:H}{c d:KV}(g:SW P G fn a b c)(h:∀v i,c v i→d v i):SW P G fn a b d:=λμ j k m n o p q=>by
 rcases g μ j k m n o p q with⟨f,e,r⟩|⟨l,s,t,u,w,e,x,y⟩
 case inr=>refine .inr ⟨l,s,t,u,w,e,x,y.mono λe a b=>?_⟩;obtain⟨v,c,av,i,d,g,j,k,m⟩:=b;exact⟨v,c,av,i,d,g,j,k,h _ _ m⟩
 refine .inl ⟨f,e,?_⟩;rcases r with⟨v,a,c,av,i,n,o,d,g,j⟩|⟨n,o⟩
 · exact .inl ⟨v,a,c,av,i,n,o,d,g,h _ _ j⟩
 · refine .inr ⟨n,o.mono λe a b=>?_⟩;obtain⟨v,c,av,i,d,g,j,k,m⟩:=b;exact⟨v,c,av,i,d,g,j,k,h _ _ m⟩
theorem uN(b:Bt P E){μ:Mu}{N:Nat}{f:FT}{h:H}{a:Act}{c:World}{d:List Deferred}(fr:FR μ N d f a)(g:Bc μ h c){r:ResultVar}{k:U→Prop}(i:Aad E f h r k):∃av v,(ZE a.tmps r).run P c=.ok v c∧VR μ av v∧k av:=by
 cases r with
 |tmp t=>exact⟨_,_,rfl,fr.get t,i⟩
 |cell x t=>have j:=Vk (E:=E) (h:=h) (k:=λv _=>k v) (t:=t) (a:=f x) i;obtain⟨m,n,o,j⟩:=JP (good:=λp:Prop=>p) (λh=>h) j;obtain⟨q,hi,j⟩:=H9 (good:=λp:Prop=>p) (λh=>h) j;have s:=fr.get x;rw[o] at s;obtain⟨av,v,u,w,i⟩:=TS (P:=P) (C:=CP E) (good:=λp:Prop=>p) b (λh=>h) g hi j s;refine⟨av,v,?_,w,i⟩;obtain⟨l,j,e⟩:=s;unfold Instr.loadAt at u;simp only[ZE];rw[e] at u ⊢;exact u
theorem OM(b:Bt P E){μ:Mu}{N:Nat}{f:FT}{c:H}{a:Act}{d:World}{g:List Deferred}(fr:FR μ N g f a)(h:Bc μ c d):
    ∀{i:List ResultVar}{j:List U→Prop},Pc E f c i j→∃k m,(i.mapM (ZE a.tmps)).run P d=.ok m d∧BN μ k m∧j k
  |[],j,n=>⟨[],[],rfl,(rfl:([]:List Value)=[]),n⟩
  |r::i,j,n=>by obtain⟨av,v,o,p,n⟩:=uN b fr h (show Aad E f c r (λv=>Pc E f c i (λl=>j (v::l))) from n);obtain⟨k,m,q,s,n⟩:=OM b fr h n;refine⟨av::k,v::m,?_,⟨v,m,rfl,p,s⟩,n⟩;rw[List.mapM_cons,Aa o,Aa q];rfl
theorem U3{μ:Mu}{b:List U}{c:List Value}(d:BN μ b c):VR μ (Ta b) (sn c):=by
 match b,d with
 |[],d=>cases(show c=[] from d);exact⟨_,rfl,(rfl:([]:List Value)=[])⟩
 |[a],d=>obtain⟨v,c,rfl,f,g⟩:=d;cases(show c=[] from g);exact f
 |a::h::l,d=>obtain⟨v,c,rfl,f,g⟩:=d;obtain⟨i,c,rfl,g,j⟩:=g;exact⟨_,rfl,v,_,rfl,f,i,c,rfl,g,j⟩
theorem At.leave{b μ:Mu}{h0 c:H}{d g:World}{N:Nat}{f:FT}{a:Act}(h:At G N b h0 d μ f c a g){fn:Func}{R:Ending→World→Prop}
 (i:∀j,Bc μ c j→BF b h0 d μ c j→∃v,(results fn a.tmps).run P j=.ok v j∧R (.returned v) j):LeavesInM (Fo none) 0 P fn a.tmps R a.defers .returning g:=by
 obtain⟨k,e,l,m⟩:=h.marks;rw[e];exact Og k g l (λr n=>let ⟨a,o,p,_⟩:=m r n;⟨a,o,p⟩) h.RC h.ext i
theorem pH (a : P.follows .mixedOrders = true) (b : Bt P E) {c : CF} (d : C4 P (CP E) G (λp => p) c) (BP : Ak) {g : FuncId} {fn : Func} {h : Code} (i : P.funcs[g]? = some fn) (j : fn.body = some h) (k : (fn.name == "runtime.NumGoroutine") = false)
 (m:DN P E BP fn.ntmps G true h=true) (o:KV) (Bw:As) (Jn:Nat→Jump) (q:∀r f s,¬Jn 0 r f s)
 (u:∀n p r,(p,r)∈Bw→∀f s,Jn (n+1) r f s→EL E c BP Bw (Jn n) h (Ax E fn.results.toList o) p f s) (w:(.root,0)∈Bw) {n:Nat} {y:List U} {s:H} (a0:Jn n 0 (Ab y) s):SW P G (.func g) y s o:=by
 intro μ c r a1 a2 a3 a4 a5;have a6:r=.func g:=by cases r<;>simp only[LC] at a4<;>first|(cases a4;rfl)|cases a4
 refine .inl ⟨g,a6,.inr ⟨?_,?_⟩⟩
 · unfold callFunc;rw[Aa (show program.run P c=.ok P c from rfl),i];simp only[k,j,wO,if_false];rfl
 · have r:=a5.length;simp only[Array.length_toList] at r;have fr:FR μ fn.ntmps [] (Ab y) { tmps:=a1++Array.replicate (fn.ntmps-a1.size) undef,defers:=[] }:=by
    refine⟨by simp;omega,λt=>?_,rfl⟩;have hi:Ab y t=y.getD t .undef:=Sj.init y t;rw[hi];simp only[Array.getD_eq_getD_getElem?,Array.getElem?_append];by_cases g:t<a1.size
    · rw[if_pos g];have k:y[t]? =some (y[t]'(by omega)):=wq (by omega);obtain⟨v,r,w⟩:=a5.get t _ k;rw[vM,k,←Array.getElem?_toList,r];exact w
    · rw[if_neg g,vM,xY (by omega)];have:(Array.replicate (fn.ntmps-a1.size) undef)[t-a1.size]?.getD undef=undef:=by rw[Array.getElem?_replicate];split<;>rfl
      rw[this];exact VR.undef μ
   refine callsIn_wide.1 (callsIn_of_wp_marks (F:=Fo none) (n:=0) i j trivial (FX.wp (ro:=none) ?_));have y:KT G fn.ntmps μ s c (Ax E fn.results.toList o) (bodyPostM (Fo none) 0 P fn λe k=>∃v r av g,e=.returned v∧Bc r g k∧BF μ s c r g k∧VR r av v∧o av g):=by
    intro x r i g j k a4 a6;have fin:Pc E i g fn.results.toList (λl=>o (Ta l) g)→LeavesInM (Fo none) 0 P fn j.tmps (λe k=>∃v r av g,e=.returned v∧Bc r g k∧BF μ s c r g k∧VR r av v∧o av g) j.defers .returning k:=by intro a0;refine a4.leave λi j k=>?_;obtain⟨o,i,a5,a1,a0⟩:=OM (P:=P) b a4.fr j a0;exact⟨_,JM a5,_,r,_,g,rfl,j,k,U3 a1,a0⟩
    cases x with
    |normal=>exact fin a6
    |ret=>exact fin a6
    |exit id=>exact a6.elim
    |goto l=>exact a6.elim
   exact SG a b d m (λ_=>rfl) y Jn q u n .root 0 h _ w rfl μ _ s _ c ⟨fr,.nil,a2,.refl _ _ _,a3⟩ a0
def PG(P:Program)(E:Env)(G:Nat)(s:OX):Bool:=An (DN P E s.BP s.n G false s.assign) (An (DN P E s.BP s.n G false s.body) (s.params.all λt=>Nat.blt t s.n))
theorem UD{μ:Mu}{N:Nat}:∀(a:List Tmp)(b:List U)(c:List Value)(f:FT)(ts:Array Value),a.all (λt=>Nat.blt t N)=true→a.length=b.length→BN μ b c→N≤ts.size→(∀t,VR μ (f t) (ts.getD t undef))→
    N≤((a.zip c).foldl (λts p=>ts.setIfInBounds p.1 p.2) ts).size∧∀t,VR μ (OO a b f t) (((a.zip c).foldl (λts p=>ts.setIfInBounds p.1 p.2) ts).getD t undef)
  |[],b,c,f,ts,_,_,_,d,g=>⟨d,g⟩
  |p::a,[],c,f,ts,_,h,_,_,_=>by cases h
  |p::a,v::b,c,f,ts,i,h,j,d,g=>by
    obtain⟨k,l,rfl,m,n⟩:=j;rw[xZ,vK] at i;have o:p<N:=by simpa using i.1
    refine UD a b l (Aq f p v) (ts.setIfInBounds p k) i.2 (by simpa using h) n (by simpa using d) λt=>?_;rw[EE,UC _ _ _ _ (vZ o d)];by_cases e:t=p
    · rw[if_pos e,if_pos e];exact m
    · rw[if_neg e,if_neg e];exact g t
theorem Pe(c:P.follows .mixedOrders=true)(d:Bt P E){g:CF}(h:C4 P (CP E) G (λp=>p) g){n:Nat}{i:List U}{j:H}{k:KV}(m:LR E g (PG P E G) n i j k):SW P G (.yield n) i j k:=by
 intro μ o s u w y g a0;obtain⟨a1,m⟩:=Dz m;have a2:eH n n=CH n:=Go.Den.P.Od (by rw[C5];exact Bh a1);rw[a2] at m;obtain⟨a1,rfl,q,a2,rfl⟩:∃a1,s=.yield a1∧∃q,μ (CH n)=some q∧a1=q.blk:=by cases s<;>first|exact⟨_,rfl,g⟩|exact g.elim
 obtain⟨f,s,g,a1,a3,m⟩:=LI m;obtain⟨g,m⟩:=Dz m;obtain⟨a1,a4⟩:=Ao g;obtain⟨g,a1⟩:=Ao a1;obtain⟨a5,a6⟩:=Ao a1;have a1:=w.ob (CH n) q (by rw[a3];nofun) a2;rw[a3] at a1;obtain⟨r,a3,a7,a8,a9,b0,b1,b2,b3⟩:=a1;have a7:s.params.length=i.length:=by have:=Bh a4;rw[BU,BU] at this;exact this.symm
 have a8:=a0.length;have a4:u.size=r.params.size:=by
  have:r.params.toList.length=s.params.length:=by rw[a9]
  simp only[Array.length_toList] at this a8;omega
 refine .inr ⟨q.blk,r.fn,_,r.assign,r.body,rfl,run_yield a3 a4,?_⟩;refine roundIn_of_wpIn trivial ?_;have a8:(r.params.zip u).foldl (λa3 (t,a)=>a3.setIfInBounds t a) r.tmps=(s.params.zip u.toList).foldl (λts p=>ts.setIfInBounds p.1 p.2) r.tmps:=by rw[←Array.foldl_toList,Array.toList_zip,a9]
 obtain⟨a4,a3⟩:=UD (μ:=μ) s.params i u.toList f r.tmps a6 a7 a0 b2 b3;rw[a8,b0,b1];have a9:At G s.n μ j o μ (OO s.params i f) j { tmps:=(s.params.zip u.toList).foldl (λts p=>ts.setIfInBounds p.1 p.2) r.tmps,defers:=[] } o:=⟨⟨a4,a3,rfl⟩,.nil,w,.refl _ _ _,y⟩;have i:∀c0 Q0,sa (some q.blk) P [] c0 Q0 G s.n μ j o PM:=λ_ _ p u w Q c=>by cases c
 refine FX.wp (ro:=some q.blk) (Ds c d h (BP:=s.BP) (Bw:=[]) (J:=PM) (c0:=s.assign) (N:=s.n) (i _ _) g (λe=>by cases e) s.assign .root _ rfl μ _ j _ o _ a9 m ?_);intro x y u w g m BC a0;cases x with
 |exit id=>exact a0.elim
 |goto l=>exact a0.elim
 |ret=>exact a0.elim
 |normal=>
  obtain⟨g,u,w,y,a6,a0⟩:=LI a0;obtain⟨a7,a0⟩:=Dz a0;rw[Gi] at a0;have b2:=BC.ext.le _ _ a2;have a1:=BC.RC.ob (CH n) q (by rw[a6];nofun) b2;rw[a6] at a1;obtain⟨b3,a8,b0,b1,a3,a4,a9,b4,b5⟩:=a1;have b6:b3.state=.ready:=by rw[b0];cases w<;>first|rfl|cases a7
  refine⟨_,run_beginRound a8 b6,?_⟩;have b0:q.blk<m.heap.size:=(Array.getElem?_eq_some_iff.1 a8).1;obtain⟨a7,b6⟩:=BC.RC.put (b:=CH n) (by rw[a6];rfl) b2 (.loop g u .busy y) (m.putObj q.blk (.loop { b3 with state:=.busy })) World.putObj_size (λk g=>World.putObj_heap_other g) ⟨_,World.putObj_heap_same b0,rfl,b1,a3,a4,a9,b4,b5⟩ rfl rfl rfl;have m:=BC.next (BC.fr.mono b6.le) a7 b6;refine FX.wp (ro:=some q.blk) (Ds c d h (BP:=s.BP) (Bw:=[]) (J:=PM) (c0:=s.body) (N:=s.n) (i _ _) a5 (λe=>by cases e) s.body .root _ rfl _ _ _ _ _ _ m a0 ?_);intro x u f3 y c w3 d a0;obtain⟨h,i,m,s,c,a0⟩:=LI a0;have m:=d.ext.le _ _ a2;have a1:=d.RC.ob (CH n) q (by rw[c];nofun) m;rw[c] at a1;obtain⟨r3,s,a8,a6,b2,b3,a3,a4,a9⟩:=a1;have b0:q.blk<w3.heap.size:=(Array.getElem?_eq_some_iff.1 s).1;have fin:∀(b1:AX),k (.bool (codeOf b1).isNone) (y.put (CH n) (.loop h i (if(codeOf b1).isNone then .ready else .done) b1))→
   ∃v b4,(Instr.endRound q.blk (codeOf b1)).run P w3=.ok v b4∧∃b5 a7 av b6,Ending.returned v=.returned b5∧Bc a7 b6 b4∧BF μ j o a7 b6 b4∧VR a7 av b5∧k av b6:=by
   intro b1 g;obtain⟨o,a5⟩:=d.RC.put (b:=CH n) (by rw[c];rfl) m (.loop h i (if(codeOf b1).isNone then .ready else .done) b1) (w3.putObj q.blk (.loop { r3 with state:=if(codeOf b1).isNone then .ready else .done,pending:=codeOf b1 })) World.putObj_size (λk g=>World.putObj_heap_other g) ⟨_,World.putObj_heap_same b0,rfl,rfl,b2,b3,a3,a4,a9⟩ rfl rfl rfl;exact⟨_,_,run_endRound (codeOf b1) s,_,u,.bool (codeOf b1).isNone,_,rfl,o,d.ext.trans a5,rfl,g⟩
  have pk:∀w b1 b,Hp.Gv y (CH n) (.loop h i w b1) (λj=>k (.bool b) j)→k (.bool b) (y.put (CH n) (.loop h i w b1)):=λ_ _ _ c=>by rw[Gi] at c;exact c
  cases x with
  |normal=>exact fin .normal (pk _ _ _ a0)
  |exit id=>exact fin (.exit id) (pk _ _ _ a0)
  |goto l=>exact fin (.goto l) (pk _ _ _ a0)
  |ret=>exact fin .ret (pk _ _ _ a0)
def SWD(P:Program)(G:Nat)(a:FuncId)(b:List U)(c:H)(d:KV):Prop:=∀(μ:Mu)(f:World)(g:Array Value)(h:FrameMode),Bc μ c f→DE μ G→BN μ b g.toList→
 (callFunc a g).run P f=.ok (.enter a g) f∧CallsDIn (Fo none) 0 P a g h f λe i j=>i=h∧∃v k av l,e=.returned v∧Bc k l j∧BF μ c f k l j∧VR k av v∧d av l
theorem YG{fn:Func}{a:Array Value}{b:Ending→World→Prop}:∀(c:List Nat)(w:World)(fr:Frame)(cs:List Frame),fr.mode=.returning→fr.defers=c.map E7→fr.tmps=a→P.funcs[fr.fn]? =some fn→fr.kind=.deferred→
    LeavesInM (Fo none) 0 P fn a b (c.map E7) .returning w→∃v d g,b (.returned v) d∧StepsIn (Machine.fenced P (Fo none)) P (lone fr cs w) (lone g cs d)∧g.kind=.deferred∧g.fn=fr.fn∧g.going P d (.returned v)
  |[],w,fr,cs,h,i,j,k,l,m=>by obtain⟨v,n,o⟩:=m;exact⟨v,w,fr,o,StepsIn.refl _,l,rfl,h,i,fn,k,j▸n⟩
  |r::c,w,fr,cs,h,i,j,k,l,m=>by
    obtain⟨p,m⟩:=m;rcases m with⟨q,d,s,t,u⟩|⟨_,x,y,f,a,s,_⟩
    · have b:=step_collected (cs:=cs) (P:=P) (w:=w) (by rw[h];exact λe=>by cases e) i s t;obtain⟨v,n,g,o,p,a,m,q⟩:=YG c d { fr with defers:=[]++c.map E7 } cs h rfl j k l u;exact⟨v,n,g,o,StepsIn.trans (.one calm b) p,a,m,q⟩
    · cases s
theorem PQ{f:FuncId}{fn:Func}{b:Code}{c:Array Value}{d:FrameMode}{g:World}{R:Ending→World→Prop}(h:P.funcs[f]? =some fn)(i:fn.body=some b)
 (_hR:∀e g,R e g→∃v,e=.returned v) (j:b.wpIn (Fo none) 0 P (λe a g=>(e=.normal∨e=.ret)∧∃k:List Nat,a.defers=k.map E7∧LeavesInM (Fo none) 0 P fn a.tmps R (k.map E7) .returning g) { tmps:=c++Array.replicate (fn.ntmps-c.size) undef,defers:=[] } g):
 CallsDIn (Fo none) 0 P f c d g λe l m=>l=d∧R e m:=by
 refine⟨trivial,λn cs o p=>?_⟩;let q:Frame:={ (default:Frame) with fn:=f,kind:=.deferred,roundOf:=none };have r:Frame.enter P f c .deferred=q.atR { tmps:=c++Array.replicate (fn.ntmps-c.size) undef,defers:=[] } [.code b]:=by simp[Frame.enter,Frame.atR,h,i,q]
 have s:({ n with mode:=d }:Frame)=n:=by subst o;rfl
 obtain⟨e,t,m,⟨u,k,w,x⟩,y⟩:=j q [] (n::cs) rfl trivial p;rw[←r] at y;have fin:∀b,StepsIn (Machine.fenced P (Fo none)) P (lone (Frame.enter P f c .deferred) (n::cs) g) (lone { q.atR t b with mode:=.returning } (n::cs) m)→
  ∃e l m fr,(l=d∧R e m)∧ComesIn (Machine.fenced P (Fo none)) P (lone (Frame.enter P f c .deferred) (n::cs) g) (lone fr ({ n with mode:=l }::cs) m) e∧fr.kind=.deferred∧fr.fn=f∧fr.going P m e:=by
  intro b i;obtain⟨v,o,j,r,c,g,l,a0⟩:=YG k m { q.atR t b with mode:=.returning } (n::cs) rfl w rfl h rfl x;exact⟨.returned v,d,o,j,⟨rfl,r⟩,by rw[s];exact StepsIn.trans i c,g,l,a0⟩
 rcases u with rfl|rfl
 · exact fin [] (StepsIn.trans y (.one (fenced_calm (fr:=q.atR t []) trivial p rfl) (stepR_end rfl)))
 · obtain⟨b,i⟩:=y.1 rfl;exact fin b i
theorem Sm {a : FuncId} {fn : Func} {b : Code} (c : P.funcs[a]? = some fn) (d : fn.body = some b) (f : (fn.name == "runtime.NumGoroutine") = false) (g : Array Value) (h : World) : (callFunc a g).run P h = .ok (.enter a g) h := by unfold callFunc;rw[Aa (show program.run P h=.ok P h from rfl),c];simp only[f,d,wO,if_false];rfl
theorem fr0{μ:Mu}{fn:Func}{a:List U}{b:Array Value}(c:BN μ a b.toList):FR μ fn.ntmps [] (Ab a) { tmps:=b++Array.replicate (fn.ntmps-b.size) undef,defers:=[] }:=by
 have d:=c.length;simp only[Array.length_toList] at d;refine⟨by simp;omega,λt=>?_,rfl⟩;have hi:Ab a t=a.getD t .undef:=Sj.init a t;rw[hi];simp only[Array.getD_eq_getD_getElem?,Array.getElem?_append];by_cases f:t<b.size
 · rw[if_pos f];have g:a[t]? =some (a[t]'(by omega)):=wq (by omega);obtain⟨v,h,i⟩:=c.get t _ g;rw[vM,g,←Array.getElem?_toList,h];exact i
 · rw[if_neg f,vM,xY (by omega)];have:(Array.replicate (fn.ntmps-b.size) undef)[t-b.size]?.getD undef=undef:=by rw[Array.getElem?_replicate];split<;>rfl
   rw[this];exact VR.undef μ
theorem Ahw (b : P.follows .mixedOrders = true) (c : Bt P E) {d : CF} (g : C4 P (CP E) G (λp => p) d) (BP : Ak) {h : FuncId} {fn : Func} {i : Code} (j : P.funcs[h]? = some fn) (k : fn.body = some i) (m : (fn.name == "runtime.NumGoroutine") = false)
 (o:DN P E BP fn.ntmps G true i=true) (q:KV) (Bw:As) (Jn:Nat→Jump) (r:∀s f t,¬Jn 0 s f t)
 (u:∀n p s,(p,s)∈Bw→∀f t,Jn (n+1) s f t→EL E d BP Bw (Jn n) i (Ax E fn.results.toList q) p f t) (w:(.root,0)∈Bw) {n:Nat} {y:List U} {t:H} (a0:Jn n 0 (Ab y) t):SWD P G h y t q:=by
 intro μ d h s y a1 a2;refine⟨Sm j k m _ _,PQ j k (λe h ⟨v,_,_,_,s,_⟩=>⟨v,s⟩) (FX.wp (ro:=none) ?_)⟩;have j:KT G fn.ntmps μ t d (Ax E fn.results.toList q) (λe a h=>(e=.normal∨e=.ret)∧∃k:List Nat,a.defers=k.map E7∧LeavesInM (Fo none) 0 P fn a.tmps (λe h=>∃v m av s,e=.returned v∧Bc m s h∧BF μ t d m s h∧VR m av v∧q av s) (k.map E7) .returning h):=by
  intro x m a3 s a4 h a5 a6;have fin:Pc E a3 s fn.results.toList (λl=>q (Ta l) s)→∃k:List Nat,a4.defers=k.map E7∧LeavesInM (Fo none) 0 P fn a4.tmps (λe h=>∃v m av s,e=.returned v∧Bc m s h∧BF μ t d m s h∧VR m av v∧q av s) (k.map E7) .returning h:=by
   intro a0;have a3:=a5.leave (fn:=fn) (R:=λe h=>∃v m av s,e=.returned v∧Bc m s h∧BF μ t d m s h∧VR m av v∧q av s) λa4 a7 a8=>by obtain⟨h,q,a4,a9,a0⟩:=OM (P:=P) c a5.fr a7 a0;exact⟨_,JM a4,_,m,_,s,rfl,a7,a8,U3 a9,a0⟩
   obtain⟨k,e,_,_⟩:=a5.marks;rw[e] at a3;exact⟨k,e,a3⟩
  cases x with
  |normal=>exact⟨.inl rfl,fin a6⟩
  |ret=>exact⟨.inr rfl,fin a6⟩
  |exit id=>exact a6.elim
  |goto l=>exact a6.elim
 exact SG b c g o (λ_=>rfl) j Jn r u n .root 0 i _ w rfl μ _ t _ d ⟨fr0 a2,.nil,y,.refl _ _ _,a1⟩ a0
def Iq(l:List Oper):J0:=wj .nil (λo _ a=>.op o a) l
theorem Rh:∀l:List Oper,(Iq l).flat=l
 |[]=>rfl
 |o::l=>by show o::(Iq l).flat=_;rw[Rh l]
def di(E:Env)(a:CF)(b c d g h:List Oper)(i j k:Operand)(D1 D3:List U→H→KV→Prop)(f:FT)(l:H)(m:KV):Prop:=
 DL E a (Iq b) f l λf l=>DL E a (Iq c) f l λn l=>DL E a (Iq d) n l λf l=>Be (eval' E j f) λt=>
  wg (D1 [eval' E i n] l λ_ l=>m .undef l)
   (DL E a (Iq g) f l λf3 l=>DL E a (Iq h) f3 l λ_ l=>D3 [eval' E k f3,.bool true] l λ_ l=>D1 [eval' E i n] l λ_ l=>m .undef l) t
theorem Ly(b:Bt P E){c:CF}(d:C4 P (CP E) G (λp=>p) c){g:Array Oper}{l rest:List Oper}{N:Nat}{h:List Deferred}(i:EB P E N G g.toList (Iq l) none [] []=true){Q:QT}{μ:Mu}{f:FT}{j:H}{a:Act}{k:World}{K:FT→H→Prop}
 (fr:FR μ N h f a) (m:Bc μ j k) (n:DE μ G) (o:DL E c (Iq l) f j K)
 (q:∀r s t u v,FR r N h s u→Bc r t v→BF μ j k r t v→DE r G→K s t→wpListIn (Fo none) 0 P g Q rest u v):wpListIn (Fo none) 0 P g Q (l++rest) a k:=by
 have:=Mg (ro:=none) (Q:=Q) (rest:=rest) b d (Iq l) (gs:=[]) i fr m n (λw o=>by simp at o) o (λr s t u v x y c _ _ g=>q r s t u v x y c (n.mono c.le) g);rwa [Rh] at this
theorem Uh{b:Array Oper}{o:Oper}{c:FuncId}{d:Array Operand}{f:Array TypeId}(g:o.op=.defer ⟨.value (.func c),d,f⟩)(h:o.guard=none)(i:o.dst=none){Q:QT}{a:Act}{j:World}
 (k:Q .normal { a with defers:={ target:=.fn (.func c) #[],args:=d.map a.eval }::a.defers } j):wpListIn (Fo none) 0 P b Q [o] a j:=by
 unfold wpListIn;rw[if_pos (by unfold Region.wanted;rw[h])];refine⟨λ_ _=>trivial,?_⟩;rw[show(Fo none).round=none from rfl,Oper.semAt_none];have l:execOp a.eval o=(do pure (.defer (←resolve a.eval ⟨.value (.func c),d,f⟩ o.type))):=by obtain⟨m,op,n,pos,p,q⟩:=o;cases g;rfl
 have r:resolve a.eval ⟨.value (.func c),d,f⟩ o.type=pure { target:=.fn (.func c) #[],args:=#[]++d.map a.eval }:=rfl;rw[l,r,Aa run_pure,Array.empty_append];show wpListIn (Fo none) 0 P b Q [] (Act.put _ o.dst undef) j;rw[i];exact k
theorem Aan(a:Bt P E){b:CF}(c:C4 P (CP E) G (λp=>p) b){d u1 u3:FuncId}{fn:Func}{i0 i1 i2 i3 i4:Nat}{o0 o1 o2 o3 o4:Array Oper}{d1 d3:Oper}{f g:List Oper}{h i j:Operand}{a1 a3:Array TypeId}
 (k : P.funcs[d]? = some fn) (l : fn.body = some (.seq (.region i0 o0 false) (.seq (.region i1 o1 false) (.seq (.region i2 o2 false) (.cond i (.seq (.region i3 o3 false) (.region i4 o4 false)) .skip))))) (m : (fn.name == "runtime.NumGoroutine") = false) (n : fn.results = #[])
 (o:o1.toList=f++[d1]) (q:o3.toList=g++[d3]) (r:d1.op=.defer ⟨.value (.func u1),#[h],a1⟩∧d1.guard=none∧d1.dst=none) (s:d3.op=.defer ⟨.value (.func u3),#[j,.const (.bool true)],a3⟩∧d3.guard=none∧d3.dst=none)
 (u:EB P E fn.ntmps G o0.toList (Iq o0.toList) none [] []=true) (k1:EB P E fn.ntmps G o1.toList (Iq f) none [] []=true) (k2:EB P E fn.ntmps G o2.toList (Iq o2.toList) none [] []=true) (k3:EB P E fn.ntmps G o3.toList (Iq g) none [] []=true) (k4:EB P E fn.ntmps G o4.toList (Iq o4.toList) none [] []=true)
 (w:CS G h=true) (x:CS G i=true) (q3:CS G j=true) {D1 D3:List U→H→KV→Prop} (y:∀a2 a4 a5,D1 a2 a4 a5→SWD P G u1 a2 a4 a5) (a6:∀a2 a4 a5,D3 a2 a4 a5→SWD P G u3 a2 a4 a5)
 {a2:List U} {a4:H} {a5:KV} (a7:di E b o0.toList f o2.toList g o4.toList h i j D1 D3 (Ab a2) a4 a5):SW P G (.func d) a2 a4 a5:=by
 intro μ f g i a2 a8 a9 b0;have i:g=.func d:=by cases g<;>simp only[LC] at a9<;>first|(cases a9;rfl)|cases a9
 refine .inl ⟨d,i,.inr ⟨Sm k l m _ _,callsIn_wide.1 (callsIn_of_wp_marks (F:=Fo none) (n:=0) k l trivial ?_)⟩⟩;have g:∀(d:Array Value) f,(results fn d).run P f=.ok (.tuple #[]) f:=λd f=>JM (vs:=[]) (by rw[n];rfl)
 -- the i deferred b
 have i:∀{m:Mu}{k:H}{l:World}{v:Value}{av:U}{d:Array Value},Bc m k l→BF μ a4 f m k l→VR m av v→D1 [av] k (λ_ a4=>a5 .undef a4)→
  LeavesInM (Fo none) 0 P fn d (λe n=>∃v b av a9,e=.returned v∧Bc b a9 n∧BF μ a4 f b a9 n∧VR b av v∧a5 av a9) [{ target:=.fn (.func u1) #[],args:=#[v] }] .returning l:=by
  intro m k l v av d f a5 b1 b2;obtain⟨d,b3⟩:=y _ _ _ b2 m l #[v] .returning f (a8.mono a5.le) ⟨v,[],rfl,b1,rfl⟩;refine⟨(λe=>by cases e),.inr ⟨λa4=>xm a4,.func u1,#[],u1,_,rfl,d,λ_ _=>trivial,b3.mono λe f n y=>?_⟩⟩;obtain⟨rfl,b1,b,b2,a9,rfl,b4,b5,_,b6⟩:=y;exact⟨_,g _ _,_,b,.undef,a9,rfl,b4,a5.trans b5,VR.undef b,b6⟩
 refine wpIn_seq (wpIn_region_list ?_);rw[←vi o0.toList];refine Ly a c u (fr0 b0) a2 a8 a7 λg a5 h0 a0 b7 b8 b9 c0 c1 a7=>?_;refine wpIn_seq (wpIn_region_list ?_);rw[o];refine Ly a c k1 b8 b9 c1 a7 λm g k u l o a2 a5 a8 a7=>?_;refine Uh r.1 r.2.1 r.2.2 ?_;have k:=o.eval (E:=E) a8 w;have l:FR m fn.ntmps [{ target:=.fn (.func u1) #[],args:=#[h].map u.eval }] g { u with defers:={ target:=.fn (.func u1) #[],args:=#[h].map u.eval }::u.defers }:=⟨o.size,o.get,by rw[o.defs]⟩;refine wpIn_seq (wpIn_region_list ?_);rw[←vi o2.toList];refine Ly a c k2 l a2 a8 a7 λr w m g o pq b4 b5 b0 a7=>?_;obtain⟨t,l,a7⟩:=Ec a7;have m:=pq.eval (E:=E) b0 x;rw[l] at m;refine wpIn_cond (t:=t) m ?_;have r:#[h].map u.eval=#[u.eval h]:=by simp
 cases t with
 |false=>refine wpIn_skip ?_;show LeavesInM (Fo none) 0 P fn g.tmps _ g.defers .returning o;rw[pq.defs,r];exact i b4 ((c0.trans a5).trans b5) (VR.mono b5.le _ _ k) a7
 |true=>
  refine wpIn_seq (wpIn_region_list ?_);rw[q];refine Ly a c k3 pq b4 b0 a7 λw f3 x l w3 m g o q a7=>?_;refine Uh s.1 s.2.1 s.2.2 ?_;have x:=m.eval (E:=E) q q3;have s:#[j,.const (.bool true)].map l.eval=#[l.eval j,.bool true]:=by simp[Act.eval]
  have b7:FR w fn.ntmps [{ target:=.fn (.func u3) #[],args:=#[j,.const (.bool true)].map l.eval },{ target:=.fn (.func u1) #[],args:=#[h].map u.eval }] f3 { l with defers:={ target:=.fn (.func u3) #[],args:=#[j,.const (.bool true)].map l.eval }::l.defers }:=⟨m.size,m.get,by rw[m.defs]⟩;refine wpIn_region_list ?_;rw[←vi o4.toList];refine Ly a c k4 b7 g q a7 λw h u m w4 b8 b9 c1 a2 a7=>?_;show LeavesInM (Fo none) 0 P fn m.tmps _ m.defers .returning w4;rw[b8.defs,r,s];have a:=(((c0.trans a5).trans b5).trans o).trans c1;obtain⟨d,b3⟩:=a6 _ _ _ a7 w w4 #[l.eval j,.bool true] .returning b9 a2 ⟨_,_,rfl,VR.mono c1.le _ _ x,_,[],rfl,rfl,rfl⟩;refine⟨(λe=>by cases e),.inr ⟨λa4=>xm a4,.func u3,#[],u3,_,rfl,d,λ_ _=>trivial,b3.mono λe f n y=>?_⟩⟩;obtain⟨rfl,b1,b,b2,a9,rfl,c,g,_,b6⟩:=y;exact i c (a.trans g) (VR.mono (o.le.trans (c1.le.trans g.le)) _ _ (VR.mono b5.le _ _ k)) b6
theorem Ajx{a:FuncId}{e:Ext}(b:∀(c:Array Value)(d:World),(callFunc a c).run P d=(do pure (.value (←Hi e c)):Sem Next).run P d){c:List U}{f:H}{g:KV}(h:∀n,rQ e=some n→c.length=n)(i:oK (C1 e c f) g):SW P G (.func a) c f g:=by
 intro μ d j k l m o p;have q:j=.func a:=by cases j<;>simp only[LC] at o<;>first|(cases o;rfl)|cases o
 obtain⟨v,r,s,t⟩:=iN i;obtain⟨u,w,x,y,c,f,g⟩:=Aai (P:=P) l p h s;refine .inl ⟨a,q,.inl ⟨u,w,x,v,r,?_,c,f,g,t⟩⟩;rw[b,Aa y];rfl
end
end Go.Den
namespace Go.Den
open Go.RowKit
theorem KG{a:Type}(b:a)(l:List a):∀(c:Nat)(t:Tr a)(d:Nat),Tr.EY b (MY b l c t) d=if c≤d∧d<c+l.length then l.getD (d-c) b else Tr.EY b t d:=by
 induction l with
 |nil=>intro c t d;rw[if_neg (by simp)];rfl
 |cons v l f=>
  intro c t d;show Tr.EY b (MY b l (c+1) (Tr.Mt b v t c)) d=_;rw[f,Tr.Th];by_cases g:d=c
  · subst g;rw[if_neg (by omega),if_pos rfl,if_pos (by simp)];simp
  · rw[if_neg g];by_cases h:c+1≤d∧d<c+1+l.length
    · rw[if_pos h,if_pos (by simp only[l6];omega)];have:d-c=(d-(c+1))+1:=by omega
      rw[this];rfl
    · rw[if_neg h,if_neg (by simp only[l6];omega)]
def gL(p:Program)(t:TypeId)(a:TypeInfo):Bool:=
 match p.underlying t,a.zero with
 |some b,some z=>z.cells.toList.all Ol&&((z.cells.toList.map ofValue).all U.one&&(match z with|.agg _=>Nv b|_=>!Nv b)&&(match b with|.struct c=>c.toList.all (λf=>decide (f.type<p.types.size)&&!Rc p f.type)|_=>true))
 |_,_=>false
def nv(p:Program):Bool:=p.types.toList.zipIdx.all λq=>Rc p q.2||gL p q.2 q.1
theorem UY{p:Program}{x:List (Nat×Ext)}{t:TypeId}{a:TI}(b:(SQ p x).ty t=some a):∃c,p.types[t]? =some c∧a=Lq p t c∧Rc p t=false:=by
 have b:Tr.EY none (MY none (p.types.toList.zipIdx.map λq=>si p q.2 q.1) 0 .e) t=some a:=b;rw[KG] at b;split at b
 · rename_i d;simp only[Nat.zero_le,wJ,List.length_map,List.length_zipIdx,Array.length_toList,true_and] at d;rw[we,vM,ya,yc] at b;have e:p.types.toList[t]? =some (p.types[t]):=by simp[d]
   rw[e] at b;refine⟨p.types[t],by simp[d],?_⟩;simp at b;unfold si at b;cases f:Rc p t with
   |true=>rw[f] at b;cases b
   |false=>rw[f] at b;cases b;exact⟨rfl,rfl⟩
 · rw[Tr.Q5] at b;cases b
theorem Xo{p:Program}{x:List (Nat×Ext)}{t:TypeId}(a:t<p.types.size)(b:Rc p t=false):∃j,(SQ p x).ty t=some j:=by
 refine⟨Lq p t p.types[t],?_⟩;show Tr.EY none (MY none (p.types.toList.zipIdx.map λq=>si p q.2 q.1) 0 .e) t=_;rw[KG,if_pos (by simpa using a),we,vM,ya,yc];have e:p.types.toList[t]? =some (p.types[t]):=by simp[a]
 rw[e];simp[si,b]
theorem lf{p:Program}{x:List (Nat×Ext)}{f:FuncId}{fn:Func}(a:(SQ p x).fn f=some fn):p.funcs[f]? =some fn:=by
 have a:Tr.EY none (MY none (p.funcs.toList.map some) 0 .e) f=some fn:=a;rw[KG] at a;split at a
 · rename_i b;rw[we,vM,ya] at a;rw[←Array.getElem?_toList];cases e:p.funcs.toList[f]? with
   |none=>rw[e] at a;cases a
   |some c=>rw[e] at a;exact a
 · rw[Tr.Q5] at a;cases a
theorem Ur{l:List Value}(a:l.all Ol=true)(μ:Mu):BN μ (l.map ofValue) l:=by
 induction l with
 |nil=>exact(rfl:([]:List Value)=[])
 |cons v l b=>rw[xZ,vK] at a;exact⟨v,l,rfl,Kc μ 3 v a.1,b a.2⟩
theorem rS{p:Program}{t:TypeId}{a:TypeInfo}(b:p.types[t]? =some a):p.info? t=some a:=by
 have c:t<p.types.size:=by
  rcases vG t p.types.size with d|d
  · exact d
  · rw[Array.getElem?_eq_none d] at b;cases b
 unfold Tables.info?;rw[if_pos c,b]
theorem jH{p:Program}{x:List (Nat×Ext)}(b:nv p=true):Bt p (SQ p x):=by
 have c:∀t d,p.types[t]? =some d→Rc p t=false→gL p t d=true:=by intro t d g h;rw[nv,wm] at b;have:=b (d,t) (by rw[List.mem_iff_getElem?];refine⟨t,?_⟩;rw[yc,Array.getElem?_toList,g];simp);simpa[h] using this
 refine⟨λt i hi=>?_,λf fn j=>lf j,λt i k hi l f j=>?_⟩
 · obtain⟨d,g,e,h⟩:=UY hi;have m:=c t d g h;unfold gL at m;cases n:p.underlying t with
   |none=>rw[n] at m;simp at m
   |some o=>
    cases q:d.zero with
    |none=>rw[n,q] at m;simp at m
    |some z=>
     rw[n,q] at m;simp only[vK] at m;obtain⟨k1,⟨k2,k3⟩,k4⟩:=m;subst e;have r:(Lq p t d).zero=z.cells.toList.map ofValue:=by unfold Lq;rw[q]
     have s:(Lq p t d).desc=o:=by unfold Lq;rw[n];rfl
     have u:(Lq p t d).agg=Nv o:=by unfold Lq;simp only[n];cases o<;>rfl
     refine⟨d,z,rS g,by rw[n,s],rfl,rfl,by rw[u,s],q,λμ=>?_,?_,λμ a v=>?_,λw=>?_,rfl⟩
     · rw[r];exact Ur k1 μ
     · rw[r];exact k2
     · unfold zeroOf at v;rw[u,r] at v;cases z with
       |agg y=>simp only at k3;rw[k3] at v;cases v;exact⟨y,rfl,Ur k1 μ,k2⟩
       |_=>simp only[xV] at k3;rw[k3] at v;cases v;exact Kc μ 3 _ (show Ol _=true by simpa[Value.cells] using k1)
     · have w:and (not (p.stoodInHeld t)) (not (p.eqGuardType p.depth t))=true:=w;simpa using w
 · obtain⟨d,g,e,h⟩:=UY hi;have m:=c t d g h;unfold gL at m;subst e;cases n:p.underlying t with
   |none=>rw[n] at m;simp at m
   |some o=>
    have s:(Lq p t d).desc=o:=by unfold Lq;rw[n];rfl
    rw[s] at l;subst l;cases q:d.zero with
    |none=>rw[n,q] at m;simp at m
    |some z=>rw[n,q] at m;simp only[vK] at m;have:=m.2.2;rw[wm] at this;have:=this f j;rw[vK,xV] at this;exact Xo (of_decide_eq_true this.1) this.2
theorem Aw{a:Bool}{b c T:Prop}(d:b→T)(f:c→T)(g:V a b c):T:=by
 cases a with
 |true=>exact d g
 |false=>exact f g
theorem Au{a j:Nat}{b:Prop}{T:Nat→Prop}(c:b→T j)(d:V (vS a j) b False):T a:=by
 cases e:vS a j with
 |true=>rw[e] at d;have:a=j:=vW e;rw[this];exact c d
 |false=>rw[e] at d;exact d.elim
theorem DU{P:Program}{G:Nat}{b:FuncId}{e:Ext}{n:Nat}(c:rQ e=some n)(d:∀(f:Array Value)(g:World),(callFunc b f).run P g=((Hi e f).run P g).andThen λv h=>.ok (.value v) h){f:List U}{i:H}{j:KV}(k:V (vS (len f) n) (oK (C1 e f i) j) False):SW P G (.func b) f i j:=by
 cases l:vS (len f) n with
 |false=>rw[l] at k;exact k.elim
 |true=>
  rw[l] at k;refine Ajx (λa g=>?_) (λm o=>?_) k
  · rw[d,Sem.run_bind];rfl
  · rw[c] at o;cases o;rw[←BU];exact vW l
theorem Uf{P:Program}{G:Nat}{a:FuncId}(b:∀c,(callFunc a #[]).run P c=.ok (.value (.tuple #[])) c){d:List U}{f:H}{g:KV}(h:V (vS (len d) 0) (g .undef f) False):SW P G (.func a) d f g:=by
 intro μ c i j k m n o;have p:i=.func a:=by cases i<;>simp only[LC] at n<;>first|(cases n;rfl)|cases n
 cases d with
 |cons x l=>exact h.elim
 |nil=>have:j=#[]:=Array.toList_eq_nil_iff.1 o;subst this;exact .inl ⟨a,p,.inl ⟨_,c,μ,.undef,f,b c,k,.refl _ _ _,VR.undef μ,h⟩⟩
theorem Vh{P:Program}{G:Nat}{b:FuncId}(c:∀a d,(callFunc b #[.pointer (some a)]).run P d=.ok (.value (.tuple #[])) d){f:List U}{g:H}{h:KV}(i:OW (DZ f) λ_ _=>V (vS (len f) 1) (h .undef g) False):SW P G (.func b) f g h:=by
 intro μ d j k m n p q;have r:j=.func b:=by cases j<;>simp only[LC] at p<;>first|(cases p;rfl)|cases p
 obtain⟨s,o,t,i⟩:=Hg i;cases u:vS (len f) 1 with
 |false=>rw[u] at i;exact i.elim
 |true=>
  rw[u] at i;have w:f.length=1:=by rw[←BU];exact vW u
  obtain⟨x,v,rfl,rfl,y⟩:=args1 q w;have t:x=.ptr s o:=t;subst t;obtain⟨l,_,rfl⟩:=y;exact .inl ⟨b,r,.inl ⟨_,d,μ,.undef,g,c _ d,m,.refl _ _ _,VR.undef μ,i⟩⟩
end Go.Den
namespace Go.Den
open Go.RowKit
def I1(l:List (Ob FT)):H:=⟨Tr.ofList .dead l .z .e,CH l.length⟩
def V2(L:List Loc):Mu:=λb=>L[b.nat]?
theorem Ie(l:List (Ob FT))(b:P):(I1 l).at b=l.getD b.nat .dead:=by
 show Tr.get .dead (Tr.ofList .dead l .z .e) b=_;rw[Tr.bA];by_cases h:b.nat<l.length
 · rw[if_pos (by simpa using h)];simp
 · rw[if_neg (by simpa using h),vM,xY (by omega)];rfl
theorem LG{l:List (Ob FT)}(a:l.all (λo=>!o.own)=true)(b:P):((I1 l).at b).own=false:=by
 rw[Ie];by_cases c:b.nat<l.length
 · rw[vM,wq c];have:=wm.1 a _ (List.getElem_mem c);simpa using this
 · rw[vM,xY (by omega)];rfl
theorem jZ{l:List (Ob FT)}{a:List Loc}{b:World}(c:l.length=a.length)(d:l.all (λo=>!o.own)=true)
 (f:∀(g:Nat) o h,l[g]? =some o→a[g]? =some h→Ke (V2 a) b h o):Bc (V2 a) (I1 l) b:=by
 refine⟨λi h j=>?_,λi k=>?_,λi h k j=>?_,λi m h n p=>?_⟩
 · have j:a[i.nat]? =some h:=j;have:i.nat<a.length:=(List.getElem?_eq_some_iff.1 j).1;show i.nat<(CH l.length).nat;rw[C5,c];exact this
 · have k:(CH l.length).nat≤i.nat:=k;rw[C5] at k;rw[Ie,vM,xY k];rfl
 · rw[Ie] at k ⊢;have q:i.nat<l.length:=by
    rcases vG i.nat l.length with r|r
    · exact r
    · rw[vM,xY r] at k;exact absurd rfl k
   rw[vM,wq q];exact f _ _ _ (wq q) j
 · rw[LG d] at p;cases p
theorem ar{a:List Loc}{G:Nat}(b:∀c,c<G→∃d,a[c]? =some d∧d.blk=c∧d.off=0):DE (V2 a) G:=λc f=>by obtain⟨d,g,h⟩:=b c f;exact⟨d,by show a[(CH c).nat]? =_;rw[C5];exact g,h⟩
theorem I5{μ a:Mu}{b c:H}{d f:World}(x:BF μ b d a c f)(g:∀h,(b.at h).own=false):Below d.heap.size d f:=
 ⟨x.os,x.tape,x.output,x.size,λi j=>x.keep i j λ⟨h,l,k,_⟩=>by rw[g] at k;cases k⟩
def isT:KV:=λv _=>U.rec (motive_1:=λ_=>Prop) (motive_2:=λ_=>Unit)
 (λb=>wg False True b) (λ_ _=>False) (λ_ _=>False) False (λ_ _=>False) False (λ_ _ _ _ _=>False) False (λ_=>False) (λ_ _ _ _ _=>False) False (λ_ _ _=>False) False (λ_ _=>False) (λ_ _=>False) False () (λ_ _ _ _=>()) v
theorem Z8{v:U}{a:H}(b:isT v a):v=.bool true:=by
 cases v with
 |bool c=>cases c with
  |true=>rfl
  |false=>exact b.elim
 |_=>exact b.elim
theorem bB{P:Program}{E:Env}{G:Nat}{a:CF}(b:C4 P (CP E) G (λp=>p) a){μ:Mu}{c:H}{d:World}(g:Bc μ c d)(h:DE μ G)(i:∀j,(c.at j).own=false)
 {k : FuncId} {fn : Func} {m : Code} (n : P.funcs[k]? = some fn) (o : fn.body = some m) (q : (fn.name == "runtime.NumGoroutine") = false)
 {args:List U} {r:Array Value} (s:BN μ args r.toList) (t:a (.func k) args c isT):
 Calls P k r d λe u=>e=.returned (.bool true)∧Below d.heap.size d u:=by
 rcases b μ c d (.func k) (.func k) args r isT g h rfl s t with⟨f,e,w⟩|⟨l,F',x,y,j,e,_⟩
 case inr=>cases e
 cases e;have m:(callFunc k r).run P d=.ok (.enter k r) d:=by unfold callFunc;rw[Aa (show program.run P d=.ok P d from rfl),n];simp only[q,o,wO,if_false];rfl
 rcases w with⟨v,u,a,av,b,c,_⟩|⟨_,g⟩
 · rw[m] at c;cases c
 · refine g.mono λe u ⟨v,a,av,b,h,_,j,s,t⟩=>?_;have:=Z8 t;subst this;cases(show v=.bool true from s);exact⟨h,I5 j i⟩
end Go.Den
namespace Go.Den
open Go.RowKit Go.ChangeShapes Go.WideShapes Go.ChangeAt
section
variable{H':Type}{enc:TypeId×Value→H'}{P:Program}
theorem Ln(a:laidOutB P=true){b W':World}(c:Below b.heap.size b W'):∀{ts:List TypeId}{d:List Value}{f:List (DataW H')}{g:List MemPlace},
    (ts.all λt=>P.readableRec t&&decide (t<P.types.size))=true→DataW.TrodAll enc P b 0 (λ_=>true) true ts d f g→(∀x∈g,x.block<b.heap.size)→
    DataW.TrodAll enc P W' 0 (λh=>decide (h<b.heap.size)) true ts d f g
  |[],d,f,g,_,i,_=>by obtain⟨rfl,rfl,rfl⟩:=trodAll_nil i;exact trodAll_mk0
  |t::ts,d,f,g,j,i,k=>by obtain⟨v,d,l,f,p,q,rfl,rfl,rfl,m,n⟩:=trodAll_cons i;rw[xZ,vK,vK] at j;exact⟨p,q,c.trod a j.1.1 (of_decide_eq_true j.1.2) m λx o=>k x (List.mem_append_left _ o),Ln a c j.2 n λx o=>k x (List.mem_append_right _ o),rfl⟩
theorem kG{f:Func}{a:ChangeSpec}{b W':World}{c:Array Value}{d:List (DataW H')}{g:List MemPlace}{tb:TypeId}(h:laidOutB P=true)
 (i:(f.params.toList.all λt=>P.readableRec t&&decide (t<P.types.size))=true) (j:f.resultTypes=#[tb]) (k:P.underlying tb=some .bool)
 (l:DataW.Whole enc P f.params.toList a.vars false b c.toList d [] g) (m:a.vars=[]) (n:a.fn H' (d++[])={ results:=[.lit (.bool true)],args:=d }) (o:Below b.heap.size b W'):
 a.post enc P f false true false false b c (.bool true) W':=by
 have r:=l;obtain⟨p,q,s,u,e,_,_⟩:=l;rw[m] at u;obtain⟨_,rfl⟩:=trodVars_none u;rw[vi] at e;subst e;refine⟨d,[],g,[],g,[],r,?_,?_,?_,o.frame _,λv=>by cases v⟩
 · rw[n,j];exact trodAll_mk1 (shut_bool k _)
 · rw[n];exact Ln h o i s λx w=>r.lt x w
 · rw[m,n];rfl
end
end Go.Den
namespace Go.Den
open Go.RowKit
abbrev S(s:List UInt8):U:=.str s.length (enc s)
section
variable{s t:List UInt8}
theorem tM{i:Nat}(h:i<s.length):DD (enc s) i=(s[i]).toNat:=by show(enc s >>> (8*i))%256=_;rw[wM,Le,o9 h];have:=(s[i]).toNat_lt;simp only[enc];omega
theorem Acd(lo hi:Nat):Me (enc s) lo hi=enc ((s.drop lo).take (hi-lo)):=by show(enc s >>> (8*lo))%2^(8*(hi-lo))=_;rw[wM,Le,Rb]
theorem rD:Nu s.length (enc s) (enc t)=enc (s++t):=by rw[KU];show enc s+(enc t <<< (8*s.length))=_;rw[Nat.shiftLeft_eq,Nat.mul_comm (enc t)]
theorem En:CL s.length (enc s) t.length (enc t)=decide (s=t):=by
 unfold CL;rw[GC,DY,DY];by_cases e:s=t
 · subst e;simp
 · rw[decide_eq_false e];by_cases a:s.length=t.length
   · have:¬enc s=enc t:=λb=>e (Nz a b);simp[this]
   · simp[a]
theorem Ev{a:Nat}{K:Nat→Prop}(b:a<s.length)(c:K (s[a]).toNat):FG s.length (enc s) a K:=by have d:vU (vN a 1) s.length=true:=wY b;unfold FG;rw[d];show K (DD (enc s) a);rw[tM b];exact c
theorem gE{lo hi:Nat}{K:Nat→Nat→Prop}(a:lo≤hi)(b:hi≤s.length)(c:K ((s.drop lo).take (hi-lo)).length (enc ((s.drop lo).take (hi-lo)))):Lk s.length (enc s) lo hi K:=by
 have d:An (vU lo hi) (vU hi s.length)=true:=by rw[GC,wY a,wY b];rfl
 unfold Lk;rw[d];show K (hi-lo) (Me (enc s) lo hi);rw[Acd];have:((s.drop lo).take (hi-lo)).length=hi-lo:=by simp;omega
 rw[this] at c;exact c
theorem jd{lo:Nat}{K:Nat→Nat→Prop}(a:lo≤s.length)(b:K (s.drop lo).length (enc (s.drop lo))):Lk s.length (enc s) lo s.length K:=by
 refine gE a (vE _) ?_;have:(s.drop lo).take (s.length-lo)=s.drop lo:=by rw[List.take_of_length_le (by simp)]
 rw[this];exact b
theorem fU{hi:Nat}{K:Nat→Nat→Prop}(a:hi≤s.length)(b:K (s.take hi).length (enc (s.take hi))):Lk s.length (enc s) 0 hi K:=by refine gE (Nat.zero_le _) a ?_;simpa using b
theorem N1{K:Nat→Nat→Prop}(a:s.length+t.length≤9223372036854775807)(b:K (s++t).length (enc (s++t))):Nk s.length (enc s) t.length (enc t) K:=by have c:vU (vN s.length t.length) (intMax .i64)=true:=wY a;unfold Nk;rw[c];show K (s.length+t.length) (Nu s.length (enc s) (enc t));rw[rD,←List.length_append];exact b
end
theorem HD{n:Nat}{K:Nat→Prop}(a:K n):Bo (vJ n) K:=a
theorem Bp{b:Bool}{a B:Prop}(c:b=true→a)(d:b=false→B):V b a B:=by
 cases b with
 |true=>exact c rfl
 |false=>exact d rfl
theorem By{b:Bool}{a c:Prop}(d:b=true)(f:a):V b a c:=by subst d;exact f
theorem AR{b:Bool}{a c:Prop}(d:b=false)(f:c):V b a c:=by subst d;exact f
theorem iU{a b:Bool}{c d:Prop}(f:b=a→c)(g:b=!a→d):gate a b c d:=by cases a<;>cases b<;>first|exact f rfl|exact g rfl
theorem F7{a:Bool}{b:(Bool→H→Prop)→Prop}{c:H}{k:Bool→H→Prop}(d:a=false→b k)(f:a=true→k true c):AM (λk1=>gate false a (b k1) (k1 true c)) k:=by show gate false a (b k) (k true c);exact iU d (λe=>f e)
theorem Dm{a:Bool}{b:(Bool→H→Prop)→Prop}{c:H}{d:Bool→H→Prop}(f:a=true→b d)(g:a=false→d false c):AM (λk1=>gate true a (b k1) (k1 false c)) d:=by show gate true a (b d) (d false c);exact iU f (λe=>g e)
theorem Tw{a b:Bool}{c:H}{d:Bool→H→Prop}(f:d (a||b) c):AM (λk1=>gate false a (k1 b c) (k1 true c)) d:=by cases a<;>exact f
theorem IT{a b:Bool}{c:H}{d:Bool→H→Prop}(f:d (a&&b) c):AM (λk1=>gate true a (k1 b c) (k1 false c)) d:=by cases a<;>exact f
mutual
def plain:U→Bool
 |.bool _=>true
 |.int _ _=>true
 |.str _ _=>true
 |.Bn=>true
 |.Af=>true
 |.GH=>true
 |.IK=>true
 |.FC=>true
 |.agg cs=>IJ cs
 |.tuple cs=>IJ cs
 |_=>false
def IJ:List U→Bool
 |[]=>true
 |c::cs=>plain c&&IJ cs
end
mutual
theorem VR.plain{μ b:Mu}:∀(a:U)(v:Value),plain a=true→VR μ a v→VR b a v
 |.bool _,_,_,r=>r
 |.int _ _,_,_,r=>r
 |.str _ _,_,_,r=>r
 |.Bn,_,_,r=>r
 |.Af,_,_,r=>r
 |.GH,_,_,r=>r
 |.IK,_,_,r=>r
 |.FC,_,_,r=>r
 |.agg cs,_,c,⟨d,e,f,g⟩=>⟨d,e,BN.plain cs _ c f,g⟩
 |.tuple cs,_,c,⟨d,e,f⟩=>⟨d,e,BN.plain cs _ c f⟩
theorem BN.plain{μ a:Mu}:∀(b:List U)(c:List Value),IJ b=true→BN μ b c→BN a b c
 |[],_,_,r=>r
 |d::cs,_,f,⟨g,ws,e,h,i⟩=>by have f:(Den.plain d&&IJ cs)=true:=f;rw[vK] at f;exact⟨g,ws,e,VR.plain d _ f.1 h,BN.plain cs _ f.2 i⟩
end
theorem Bc.below{μ:Mu}{a:H}{b c:World}(d:Bc μ a b)(f:Below b.heap.size b c):Bc μ a c:=
 ⟨d.fresh,d.dead,λp l g h=>by have i:=d.ob p l g h;exact i.world (f.block _ (i.lt g)),d.inj⟩
theorem BF.below{μ:Mu}{a:H}{b c:World}(d:Below b.heap.size b c):BF μ a b μ a c:=
 ⟨Mu.le.refl μ,d.size,λf g _=>d.block f g,λ_ _ a=>a,⟨vE _,λ_ _ e=>⟨e,rfl⟩⟩,d.os,d.tape,d.output⟩
def Pure(P:Program)(G:Nat)(h0:H)(a:FuncId)(b:List U)(r:U):Prop:=SW P G (.func a) b h0 λv _=>v=r
theorem kW{P:Program}{G:Nat}{L0:List Loc}{m:List (Ob FT)}(a9:∀c,Bc (V2 L0) (I1 m) c)(a0:DE (V2 L0) G)(t:m.all (λo=>!o.own)=true){d:FuncId}{g:List U}{r:U}
 (a7:Pure P G (I1 m) d g r) (a4:IJ g=true) (u:plain r=true) {b:H} {w:KV} (s:w r b):SW P G (.func d) g b w:=λμ c h b0 x b4 q a8=>by
 rcases a7 (V2 L0) c h b0 (a9 c) a0 (show LC (V2 L0) (.func d) h by cases h<;>exact q) (BN.plain _ _ a4 a8) with⟨f,e,a6⟩|⟨l,F',b5,b2,b3,e,_⟩
 case inr=>subst e;exact q.elim
 refine .inl ⟨f,e,?_⟩;rcases a6 with⟨v,y,b1,av,a1,i,n,j,p,k⟩|⟨i,n⟩
 · subst k;have a:=I5 j (LG t);exact .inl ⟨v,y,μ,av,b,i,x.below a,.below a,VR.plain _ _ u p,s⟩
 · refine .inr ⟨i,n.mono λe y a5=>?_⟩;obtain⟨v,b1,av,a1,j,p,k,a2,a3⟩:=a5;subst a3;have a:=I5 k (LG t);exact⟨v,μ,av,b,j,x.below a,.below a,VR.plain _ _ u a2,s⟩
end Go.Den
namespace Go.Den
open Go.RowKit
theorem BX{a:H}{o:Ob FT}{K:P→H→Prop}(b:K a.next (a.new o)):Hp.Bu a o K:=by obtain⟨c,n⟩:=a;show FK (Tr.set .dead o c n) (λc=>K n ⟨c,P.succ n⟩);rw[FQ];exact b
theorem Aif{a:H}{b:P}{o:Ob FT}{K:H→Prop}(c:K (a.put b o)):Hp.Gv a b o K:=by obtain⟨d,n⟩:=a;show FK (Tr.set .dead o d b) (λd=>K ⟨d,n⟩);rw[FQ];exact c
section
variable{h:H}{b:P}{t:Tm}{n z:Nat}{e:TypeId}{w:Bool}
theorem C6{o:Nat}{K:U→Prop}(a:h.at b=.row t n z e w)(c:o<n)(d:K (AD t o)):Z (.ptr b o) h K:=by show h.EP b o Av K;unfold Hp.EP;rw[a];show JV o Av K t n;unfold JV;rw[show vU (vN o 1) n=true from wY c];show BB (AD t o) K;rw[BI];exact d
theorem Xu{o c:Nat}{K:U→Prop}(a:h.at b=.row t n z e w)(d:o+c≤n)(f:K (.agg (Cp t c o))):A3 c (.ptr b o) h K:=by show h.ES b o c Av (λl=>K (.agg l));unfold Hp.ES;rw[a];show GJ o c Av (λl=>K (.agg l)) t n;unfold GJ;rw[show vU (vN o c) n=true from wY d];exact f
theorem Uj{o:Nat}{cs:List U}{K:H→Prop}(a:h.at b=.row t n z e w)(c:z≤o)(d:o+cs.length≤n)(f:K (h.put b (.row (Ai cs o t) n z e w))):h.Ew b o cs Av K:=by unfold Hp.Ew;rw[a];show LA h b o cs Av K t n z e w;unfold LA;rw[show vU z o=true from wY c,BU,show vU (vN o cs.length) n=true from wY d];show FK (Ai cs o t) (λt=>h.Gv b (.row t n z e w) K);rw[FQ];exact Aif f
theorem FU{o:Nat}{v:U}{K:H→Prop}(a:h.at b=.row t n z e w)(c:z≤o)(d:o<n)(f:v.one=true)(g:K (h.put b (.row (Ai [v] o t) n z e w))):BC (.ptr b o) v h K:=by have:h.Ew b o [v] Av K:=Uj a c d g;show one v (h.Ew b o [v] Av K);cases v<;>first|exact this|cases f
theorem O3{o c:Nat}{cs:List U}{K:H→Prop}(a:h.at b=.row t n z e w)(d:z≤o)(f:cs.length=c)(g:1≤c)(i:o+c≤n)(j:K (h.put b (.row (Ai cs o t) n z e w))):CV c (.ptr b o) (.agg cs) h K:=by show wg Av (h.Ew b o cs Av K) (An (vS (len cs) c) (vU 1 c));rw[BU,f,wZ,wY g];exact Uj a d (f▸i) j
end
theorem AS(h:H)(o:Ob FT):(h.new o).at h.next=o:=by rw[CO,if_pos rfl]
theorem Bg(h:H)(b:P)(o:Ob FT):(h.put b o).at b=o:=by rw[Eb,if_pos rfl]
theorem GB(t:Tm):∀(n o:Nat),Cp t n o=(xM n).map λi=>AD t (o+i)
 |0,_=>rfl
 |n+1,o=>by show AD t o::Cp t n (vN o 1)=_;rw[GB t n,List.range_succ_eq_map,List.map_cons,List.map_map];congr 1;apply List.map_congr_left;intro i _;show AD t (o+1+i)=AD t (o+(i+1));congr 1;omega
theorem AL{b:Bool}{K:Bool→Prop}:Be (.bool b) K=K b:=rfl
theorem CR{l c:Nat}{K:Nat→Nat→Prop}:Bv (.str l c) K=K l c:=rfl
theorem AG{k:IntKind}{n:Int}{K:Int→Prop}:Ar k (.int k n) K=K n:=by cases k<;>rfl
theorem Dw{a:U}{l:List U}{K:U→Prop}:ext 0 (.tuple (a::l)) K=K a:=rfl
theorem Dt{a b:U}{l:List U}{K:U→Prop}:ext 1 (.tuple (a::b::l)) K=K b:=rfl
theorem Cu{n:Nat}{K:Nat→Prop}:Bo (vJ n) K=K n:=rfl
end Go.Den
