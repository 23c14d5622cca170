/-
 Proof.
-/
import Derived.Test.YtheajahjkmfeaaaGreatDoorDenD
import Derived.Calls
import Derived.RangeFuncIn
import Derived.RangeFuncLeaves
import Derived.RangeFuncRecord
import Derived.Test.YtheajahjkmfeaaaGreatDoorDenA
import Derived.Laws.Externs
import Derived.Laws.LoneSync
import Derived.Below
import Derived.ProofKit
import Derived.WalkKit
import Derived.Lay
import Derived.MakeChecks
import Derived.SevenTiedAt
noncomputable section
namespace Go.Den
open Go.RowKit
section
variable{ro:Option Nat}{P:Program}{Q:Exit→Act→World→Prop}{a:Act}{w:World}
theorem calm{fr:Frame}{cs:List Frame}{w:World}:(lone fr cs w).fenced P (Fo ro):=fenced_wide P _
theorem A21(n:Nat):(Fo ro).room n:=fun _ h=>by cases h
theorem Ahf{b:Frame}{a:Act}{k:List Item}{cs:List Frame}{w:World}{c:Code}:step P (lone (b.atR a (.code (.scope c)::k)) cs w)=.next (lone (b.atR a (.code c::.inScope c::k)) cs w):=
 step_lone_go (by simp[stepG,stepG.exec,Frame.atR])
theorem Ab1{b:Frame}{a:Act}{k:List Item}{cs:List Frame}{w:World}{c:Code}:step P (lone (b.atR a (.inScope c::k)) cs w)=.next (lone (b.atR a k) cs w):=
 step_lone_go (by simp[stepG,stepG.exec,Frame.atR])
def Ji(ro:Option Nat)(P:Program)(c:Code)(Q:Exit→Act→World→Prop)(a:Act)(w:World):Prop:=
 ∀(b:Frame)(k:List Item)(cs:List Frame),b.roundOf=ro→∃e a' w',Q e a' w'∧ArrivesIn (Machine.fenced P (Fo ro)) P (lone (b.atR a (.code c::.inLoop c::k)) cs w) b k cs e a' w'
def CWp(ro:Option Nat)(P:Program)(c:Code)(Q:Exit→Act→World→Prop)(a:Act)(w:World):Prop:=match c with
 |.loop c=>Ji ro P c Q a w
 |c=>c.wpIn (Fo ro) 0 P Q a w
theorem Ji.wp{c:Code}(h:Ji ro P c Q a w):(Code.loop c).wpIn (Fo ro) 0 P Q a w:=by
 intro b k cs hb _ _
 obtain⟨e,a',w',hq,harr⟩:=h b k cs hb
 exact⟨e,a',w',hq,.of_steps (.one calm stepR_loop) harr⟩
theorem CWp.wp{c:Code}(h:CWp ro P c Q a w):c.wpIn (Fo ro) 0 P Q a w:=by
 cases c<;>first|exact h|exact Ji.wp h
theorem Ji.of{c:Code}(h:c.wpIn (Fo ro) 0 P (Exit.then (Ji ro P c Q) Q) a w):Ji ro P c Q a w:=by
 intro b k cs hb
 obtain⟨e,a₁,w₁,hq,harr⟩:=h b (.inLoop c::k) cs hb trivial (A21 _)
 cases e with
 |normal=>
  obtain⟨e₂,a₂,w₂,hq₂,harr₂⟩:=hq b k cs hb
  exact⟨e₂,a₂,w₂,hq₂,.of_steps (StepsIn.trans harr (.one calm stepR_inLoop)) harr₂⟩
 |exit id=>exact⟨_,a₁,w₁,hq,.pass (x:=.inLoop c) rfl (fun _ _=>.inl (by simp)) harr⟩
 |goto l=>exact⟨_,a₁,w₁,hq,.pass (x:=.inLoop c) rfl (fun _ _=>.inl (by simp)) harr⟩
 |ret=>exact⟨_,a₁,w₁,hq,.pass (x:=.inLoop c) rfl (fun _ _=>.inl (by simp)) harr⟩
 |panic ch=>exact⟨_,a₁,w₁,hq,.pass (x:=.inLoop c) rfl (fun _ _=>.inl (by simp)) harr⟩
 |outgrown=>exact⟨_,a₁,w₁,hq,.pass (x:=.inLoop c) rfl (fun _ _=>.inl (by simp)) harr⟩
def Jy(ro:Option Nat)(P:Program)(body c:Code)(Q:Exit→Act→World→Prop)(a:Act)(w:World):Prop:=
 ∀(b:Frame)(k:List Item)(cs:List Frame),b.roundOf=ro→∃e a' w',Q e a' w'∧ArrivesIn (Machine.fenced P (Fo ro)) P (lone (b.atR a (.code c::.inScope body::k)) cs w) b k cs e a' w'
def Exit.inScope(ro:Option Nat)(P:Program)(body:Code)(Q:Exit→Act→World→Prop):Exit→Act→World→Prop
 |.goto l,a,w=>match findLabel body l with
  |some rest=>Jy ro P body rest Q a w
  |none=>Q (.goto l) a w
 |e,a,w=>Q e a w
theorem Jy.of{body c:Code}(h:c.wpIn (Fo ro) 0 P (Exit.inScope ro P body Q) a w):Jy ro P body c Q a w:=by
 intro b k cs hb
 obtain⟨e,a₁,w₁,hq,harr⟩:=h b (.inScope body::k) cs hb trivial (A21 _)
 cases e with
 |normal=>exact⟨.normal,a₁,w₁,hq,StepsIn.trans harr (.one calm Ab1)⟩
 |exit id=>exact⟨.exit id,a₁,w₁,hq,fun k' hk=>harr.1 k' (by simp[exitTo,hk]),fun hs hk=>harr.2 hs (by simp[exitTo,hk])⟩
 |goto l=>
  simp only[Exit.inScope] at hq
  cases hf:findLabel body l with
  |none=>
   rw[hf] at hq
   exact⟨.goto l,a₁,w₁,hq,fun k' hk=>harr.1 k' (by simp[gotoIn,hf,hk]),fun hs hk=>harr.2 hs (by simp[gotoIn,hf,hk])⟩
  |some rest=>
   rw[hf] at hq
   obtain⟨e₂,a₂,w₂,hq₂,harr₂⟩:=hq b k cs hb
   exact⟨e₂,a₂,w₂,hq₂,.of_steps (harr.1 _ (by simp[gotoIn,hf])) harr₂⟩
 |ret=>exact⟨_,a₁,w₁,hq,harr⟩
 |panic ch=>exact⟨_,a₁,w₁,hq,harr⟩
 |outgrown=>exact⟨_,a₁,w₁,hq,harr⟩
theorem Jy.wp{c:Code}(h:Jy ro P c c Q a w):(Code.scope c).wpIn (Fo ro) 0 P Q a w:=by
 intro b k cs hb _ _
 obtain⟨e,a',w',hq,harr⟩:=h b k cs hb
 exact⟨e,a',w',hq,.of_steps (.one calm Ahf) harr⟩
end
theorem Acl{ro:Option Nat}{P:Program}{c:Code}{Q Q':Exit→Act→World→Prop}{a:Act}{w:World}(h:c.wpIn (Fo ro) 0 P Q a w)(hq:∀e a w,Q e a w→Q' e a w):c.wpIn (Fo ro) 0 P Q' a w:=wpIn_mono h hq
def A81(x:AX):Exit:=match x with
 |.normal=>.normal
 |.exit id=>.exit id
 |.goto l=>.goto l
 |.ret=>.ret
abbrev QT:=Exit→Act→World→Prop
section
variable{ro:Option Nat}{P:Program}{E:Env}{pls:Aq}{N G:Nat}{nr:Bool}
def Auj(P:Program)(E:Env)(pls:Aq)(N G id:Nat)(ops:List Oper)(d:Bool):Bool:=Bool.rec (Option.rec (Option.rec true (fun its=>Iq P E N G ops its none [] []) (Aax ops)) (fun _=>true) (Kn pls id)) (Option.rec true (fun pl=>List.rec true (fun _ _ _=>Aai P E N G ops pl) pl) (Kn pls id)) d
def Gk(P:Program)(E:Env)(pls:Aq)(N G:Nat)(nr:Bool)(c:Code):Bool:=Code.rec (motive:=fun _=>Bool)
 true (fun id ops d=>Auj P E pls N G id ops.toList d) (fun _ _ x y=>An x y) (fun c _ _ x y=>An (Eu G c) (An x y)) (fun _ _ x=>x) (fun _ x=>x)
 (fun g _ _ _ _ _=>An nr (An (Eu G g) (Nat.ble (nOf pls) N))) (fun _=>true) (fun _ x=>x) (fun _=>true) (fun _=>true) true (fun _=>true) c
theorem Jo{l:Nat}:∀{c r:Code},Gk P E pls N G nr c=true→findLabel c l=some r→Gk P E pls N G nr r=true
 |.seq x y,r,h,hf=>by
  obtain⟨h1,h2⟩:=Al (show An (Gk P E pls N G nr x) (Gk P E pls N G nr y)=true from h)
  unfold findLabel at hf
  cases hx:findLabel x l with
  |some rest=>
   rw[hx] at hf
   cases hf
   have:=Jo h1 hx
   show An (Gk P E pls N G nr rest) (Gk P E pls N G nr y)=true
   rw[this,h2];rfl
  |none=>rw[hx] at hf;exact Jo h2 hf
 |.label l',r,h,hf=>by
  unfold findLabel at hf
  split at hf
  · cases hf;rfl
  · cases hf
 |.skip,r,h,hf=>by cases hf
 |.region ..,r,h,hf=>by cases hf
 |.cond ..,r,h,hf=>by cases hf
 |.block ..,r,h,hf=>by cases hf
 |.loop ..,r,h,hf=>by cases hf
 |.rangeFunc ..,r,h,hf=>by cases hf
 |.exit ..,r,h,hf=>by cases hf
 |.scope ..,r,h,hf=>by cases hf
 |.goto ..,r,h,hf=>by cases hf
 |.ret,r,h,hf=>by cases hf
 |.refuse ..,r,h,hf=>by cases hf
def A6a(ro:Option Nat)(P:Program)(c:Code)(Q:QT):Option (Code×QT):=match c with
 |.seq a b=>some (a,Exit.then (CWp ro P b Q) Q)
 |.cond _ a _=>some (a,Q)
 |.block id a=>some (a,Exit.inBlock id Q)
 |.loop a=>some (a,Exit.then (Ji ro P a Q) Q)
 |.scope a=>some (a,Exit.inScope ro P a Q)
 |_=>none
def A59(c:Code)(Q:QT):Option (Code×QT):=match c with
 |.seq _ b=>some (b,Q)
 |.cond _ _ b=>some (b,Q)
 |_=>none
def Te(ro:Option Nat)(P:Program)(n:Nat)(c:Code)(Q:QT):Option (Code×QT):=match c with
 |.scope a=>match findLabel a n with
  |some r=>some (r,Exit.inScope ro P a Q)
  |none=>none
 |_=>none
def Ec(ro:Option Nat)(P:Program)(c0:Code)(Q0:QT):Pos→Option (Code×QT)
 |.root=>some (c0,Q0)
 |.l p=>match Ec ro P c0 Q0 p with
  |some q=>A6a ro P q.1 q.2
  |none=>none
 |.r p=>match Ec ro P c0 Q0 p with
  |some q=>A59 q.1 q.2
  |none=>none
 |.lab p n=>match Ec ro P c0 Q0 p with
  |some q=>Te ro P n q.1 q.2
  |none=>none
theorem Gj{c0:Code}{Q0:QT}(h0:Gk P E pls N G nr c0=true):∀{p:Pos}{c:Code}{Q:QT},Ec ro P c0 Q0 p=some (c,Q)→Gk P E pls N G nr c=true
 |.root,c,Q,h=>by cases h;exact h0
 |.l p,c,Q,h=>by
  simp only[Ec] at h
  cases hp:Ec ro P c0 Q0 p with
  |none=>rw[hp] at h;cases h
  |some q=>
   rw[hp] at h
   obtain⟨c',Q'⟩:=q
   have hc:=Gj h0 hp
   cases c'<;>simp only[A6a] at h<;>cases h
   · exact(Al hc).1
   · exact(Al (Al hc).2).1
   · exact hc
   · exact hc
   · exact hc
 |.r p,c,Q,h=>by
  simp only[Ec] at h
  cases hp:Ec ro P c0 Q0 p with
  |none=>rw[hp] at h;cases h
  |some q=>
   rw[hp] at h
   obtain⟨c',Q'⟩:=q
   have hc:=Gj h0 hp
   cases c'<;>simp only[A59] at h<;>cases h
   · exact(Al hc).2
   · exact(Al (Al hc).2).2
 |.lab p n,c,Q,h=>by
  simp only[Ec] at h
  cases hp:Ec ro P c0 Q0 p with
  |none=>rw[hp] at h;cases h
  |some q=>
   rw[hp] at h
   obtain⟨c',Q'⟩:=q
   have hc:=Gj h0 hp
   cases c'<;>simp only[Te] at h<;>try cases h
   rename_i a
   cases hf:findLabel a n with
   |none=>rw[hf] at h;cases h
   |some r=>rw[hf] at h;cases h;exact Jo (show Gk P E pls N G nr a=true from hc) hf
theorem Pos.beq_eq:∀{p q:Pos},Pos.beq p q=true→p=q
 |.root,q,h=>by cases q<;>first|rfl|cases h
 |.l p,q,h=>by cases q<;>first|(rw[Pos.beq_eq (show Pos.beq p _=true from h)])|cases h
 |.r p,q,h=>by cases q<;>first|(rw[Pos.beq_eq (show Pos.beq p _=true from h)])|cases h
 |.lab p n,q,h=>by
  cases q<;>try cases h
  rename_i q m
  obtain⟨h1,h2⟩:=Al (show An (Nat.beq n m) (Pos.beq p q)=true from h)
  rw[Bo h1,Pos.beq_eq h2]
theorem Ar3{cs:Bb}{p:Pos}{L:Nat}(h:cutAt cs p=some L):(p,L)∈cs:=by
 induction cs with
 |nil=>cases h
 |cons c cs ih=>
  have h:(Bool.rec (cutAt cs p) (some c.2) (Pos.beq c.1 p):Option Nat)=some L:=h
  cases hb:Pos.beq c.1 p with
  |true=>
   rw[hb] at h
   have h:c.2=L:=Option.some.inj h
   have:=Pos.beq_eq hb
   subst h;subst this
   simp
  |false=>rw[hb] at h;exact List.mem_cons_of_mem _ (ih h)
variable{call:CF}{cuts:Bb}{J:Jump}{c0:Code}{Q0:QT}{μ0:Mu}{h0:H}{w0:World}
def Ja(r:Nat):Deferred:={ target:=.collected r,args:=#[] }
def Marks(n0:Nat)(μ:Mu)(h:H)(w:World)(ds:List Deferred):Prop:=∃rs:List Nat,ds=rs.map Ja∧rs.Nodup∧∀r∈rs,n0≤r∧r<w.heap.size∧w.heap[r]? =some (.deferred (some []))∧¬Own μ h r
theorem Marks.nil{n0:Nat}{μ:Mu}{h:H}{w:World}:Marks n0 μ h w []:=⟨[],rfl,List.nodup_nil,fun r h=>by cases h⟩
theorem Marks.ext{n0:Nat}{μ μ':Mu}{h h':H}{w w':World}{ds:List Deferred}(m:Marks n0 μ h w ds)(x:Dc μ h w μ' h' w'):Marks n0 μ' h' w' ds:=by
 obtain⟨rs,e,nd,hh⟩:=m
 exact⟨rs,e,nd,fun r hr=>let ⟨a,b,c,d⟩:=hh r hr;⟨a,Nat.lt_of_lt_of_le b x.size,(x.keep r b d).trans c,fun o=>d (x.own r b o)⟩⟩
theorem ObR.Apj{μ:Mu}{w:World}{l:Loc}{o:Ob FT}(r:ObR μ w l o)(ho:o≠.dead){x:Option (List Deferred)}(hx:w.heap[l.blk]? =some (.deferred x)):False:=by
 cases o with
 |dead=>exact ho rfl
 |row t n z e whole=>obtain⟨cs,fz,h1,_⟩:=r;rw[hx] at h1;cases h1
 |ext c n=>obtain⟨cs,e,fz,h1,_⟩:=r;rw[hx] at h1;cases h1
 |map es clock=>obtain⟨xs,h1,_⟩:=r;rw[hx] at h1;cases h1
 |iter len code pos=>obtain⟨s,h1,_⟩:=r;rw[hx] at h1;cases h1
 |loop f s st pd=>obtain⟨x,h1,_⟩:=r;rw[hx] at h1;cases h1
 |Pz m since seen stepped=>obtain⟨lm,_,h1,_⟩:=r;rw[hx] at h1;cases h1
theorem Sim.Apj{μ:Mu}{h:H}{w:World}(s:Sim μ h w){r:Nat}{x:Option (List Deferred)}(hx:w.heap[r]? =some (.deferred x)):∀b l,h.at b≠.dead→μ b=some l→l.blk≠r:=by
 intro b l hb hl e
 subst e
 exact(s.ob b l hb hl).Apj hb hx
theorem Sim.A7m{μ:Mu}{h:H}{w:World}(s:Sim μ h w){r:Nat}{x:Option (List Deferred)}(hx:w.heap[r]? =some (.deferred x)):¬Own μ h r:=by
 rintro⟨b,l,ho,hl,e⟩
 exact s.Apj hx b l (fun e0=>by rw[e0] at ho;cases ho) hl e
theorem Sim.shut{μ:Mu}{h:H}{w:World}(s:Sim μ h w){r:Nat}{x:Option (List Deferred)}(hx:w.heap[r]? =some (.deferred x))(y:Obj):Sim μ h (w.putObj r y):=by
 exact⟨s.fresh,s.dead,fun b l hb hl=>(s.ob b l hb hl).world (World.putObj_heap_other (s.Apj hx b l hb hl)),s.inj⟩
theorem Dc.shut{μ0 μ:Mu}{h0 h:H}{w0 w:World}(x:Dc μ0 h0 w0 μ h w){r:Nat}(hr:w0.heap.size≤r)(y:Obj):Dc μ0 h0 w0 μ h (w.putObj r y):=by
 refine⟨x.le,?_,fun k hk ho=>?_,x.own,x.ghost,x.os,x.tape,x.output⟩
 · rw[World.putObj_size];exact x.size
 · rw[World.putObj_heap_other (by omega)];exact x.keep k hk ho
theorem Xt {P : Program} {fn : Func} {tmps : Array Value} {R : Ending → World → Prop} {μ0 μ : Mu} {h0 h : H} {w0 : World} : ∀ (rs : List Nat) (w : World), rs.Nodup → (∀ r ∈ rs, w0.heap.size ≤ r ∧ r < w.heap.size ∧ w.heap[r]? = some (.deferred (some []))) → Sim μ h w → Dc μ0 h0 w0 μ h w →
    (∀ w', Sim μ h w' → Dc μ0 h0 w0 μ h w' → ∃ v, (results fn tmps).run P w' = .ok v w' ∧ R (.returned v) w') → LeavesInM (Fo none) 0 P fn tmps R (rs.map Ja) .returning w
  | [], w, _, _, s, x, hR => hR w s x
  | r :: rs, w, nd, hh, s, x, hR => by
    obtain ⟨h1, h2, h3⟩ := hh r (by simp)
    obtain ⟨hn, nd⟩ := List.nodup_cons.1 nd
    refine ⟨(fun e => by cases e), .inl ⟨r, _, rfl, run_takeDeferred h3, ?_⟩⟩
    refine Xt rs _ nd (fun q hq => ?_) (s.shut h3 _) (x.shut h1 _) hR
    obtain ⟨a, b, c⟩ := hh q (by simp [hq])
    refine ⟨a, by rw [World.putObj_size]; exact b, ?_⟩
    rw [World.putObj_heap_other (fun e => hn (by rw [← e]; exact hq))]; exact c
structure At(G N:Nat)(μ0:Mu)(h0:H)(w0:World)(μ:Mu)(f:FT)(h:H)(a:Act)(w:World):Prop where
 fr:FR μ N a.defers f a
 marks:Marks w0.heap.size μ h w a.defers
 sim:Sim μ h w
 ext:Dc μ0 h0 w0 μ h w
 gl:Hj μ G
theorem At.next{G N:Nat}{μ0:Mu}{h0:H}{w0:World}{μ μ':Mu}{f f':FT}{h h':H}{a a':Act}{w w':World}(s:At G N μ0 h0 w0 μ f h a w)(fr':FR μ' N a.defers f' a')(s':Sim μ' h' w')(x':Dc μ h w μ' h' w'):At G N μ0 h0 w0 μ' f' h' a' w':=by
 have e:=fr'.defs
 refine⟨?_,?_,s',s.ext.trans x',s.gl.mono x'.le⟩
 · rw[e];exact fr'
 · rw[e];exact s.marks.ext x'
def KOk(G N:Nat)(μ0:Mu)(h0:H)(w0:World)(K:KX')(Q:QT):Prop:=∀x μ f h a w,At G N μ0 h0 w0 μ f h a w→K x f h→Q (A81 x) a w
def JOk(ro:Option Nat)(P:Program)(cuts:Bb)(c0:Code)(Q0:QT)(G N:Nat)(μ0:Mu)(h0:H)(w0:World)(J:Jump):Prop:=
 ∀p L c Q,(p,L)∈cuts→Ec ro P c0 Q0 p=some (c,Q)→∀μ f h a w,At G N μ0 h0 w0 μ f h a w→J L f h→CWp ro P c Q a w
theorem Ez{p:Pos}{f:FT}{h:H}{A:Prop}(hg:enter cuts J p f h A):(∃L,(p,L)∈cuts∧J L f h)∨A:=by
 unfold enter at hg
 cases hc:cutAt cuts p with
 |none=>rw[hc] at hg;exact .inr hg
 |some L=>rw[hc] at hg;exact .inl ⟨L,Ar3 hc,hg⟩
theorem Ou(hj:JOk ro P cuts c0 Q0 G N μ0 h0 w0 J){p:Pos}{c:Code}{Q:QT}(hs:Ec ro P c0 Q0 p=some (c,Q)){μ:Mu}{f:FT}{h:H}{a:Act}{w:World}(s:At G N μ0 h0 w0 μ f h a w)(hg:enter cuts J p f h False):CWp ro P c Q a w:=by
 rcases Ez hg with⟨L,hm,hL⟩|hF
 · exact hj p L c Q hm hs μ f h a w s hL
 · exact hF.elim
theorem Aar{B:FT→H→Prop}{K:KX'}{c:Code}{Q:QT}(hb:∀μ f h a w,At G N μ0 h0 w0 μ f h a w→B f h→Ji ro P c Q a w)(kq:KOk G N μ0 h0 w0 K Q):KOk G N μ0 h0 w0 (Au0 B K) (Exit.then (Ji ro P c Q) Q):=by
 intro x μ f h a w s hg
 cases x with
 |normal=>exact hb μ f h a w s hg
 |exit id=>exact kq (.exit id) _ _ _ _ _ s hg
 |goto l=>exact kq (.goto l) _ _ _ _ _ s hg
 |ret=>exact kq .ret _ _ _ _ _ s hg
theorem Ad9{B:FT→H→KX'→Prop}{K:KX'}{c:Code}{Q:QT}(hb:∀μ f h a w,At G N μ0 h0 w0 μ f h a w→B f h K→CWp ro P c Q a w)(kq:KOk G N μ0 h0 w0 K Q):KOk G N μ0 h0 w0 (A58 B K) (Exit.then (CWp ro P c Q) Q):=by
 intro x μ f h a w s hg
 cases x with
 |normal=>exact hb μ f h a w s hg
 |exit id=>exact kq (.exit id) _ _ _ _ _ s hg
 |goto l=>exact kq (.goto l) _ _ _ _ _ s hg
 |ret=>exact kq .ret _ _ _ _ _ s hg
theorem Xf{id:Nat}{K:KX'}{Q:QT}(kq:KOk G N μ0 h0 w0 K Q):KOk G N μ0 h0 w0 (Alq id K) (Exit.inBlock id Q):=by
 intro x μ f h a w s hg
 cases x with
 |normal=>exact kq .normal _ _ _ _ _ s hg
 |exit j=>
  have hg:(Bool.rec (K (.exit j) f h) (K .normal f h) (Nat.beq j id):Prop):=hg
  show(if j=id then Q .normal a w else Q (.exit j) a w)
  cases hj:Nat.beq j id with
  |true=>rw[hj] at hg;rw[if_pos (Bo hj)];exact kq .normal _ _ _ _ _ s hg
  |false=>
   rw[hj] at hg
   rw[if_neg (fun e=>by subst e;rw[Nat.beq_refl] at hj;cases hj)]
   exact kq (.exit j) _ _ _ _ _ s hg
 |goto l=>exact kq (.goto l) _ _ _ _ _ s hg
 |ret=>exact kq .ret _ _ _ _ _ s hg
theorem Rv{c:Code}{B:Nat→FT→H→Prop}{K:KX'}{Q:QT}(hb:∀l r,findLabel c l=some r→∀μ f h a w,At G N μ0 h0 w0 μ f h a w→B l f h→CWp ro P r (Exit.inScope ro P c Q) a w)(kq:KOk G N μ0 h0 w0 K Q):KOk G N μ0 h0 w0 (Zt c B K) (Exit.inScope ro P c Q):=by
 intro x μ f h a w s hg
 cases x with
 |normal=>exact kq .normal _ _ _ _ _ s hg
 |exit j=>exact kq (.exit j) _ _ _ _ _ s hg
 |ret=>exact kq .ret _ _ _ _ _ s hg
 |goto l=>
  have hg:(Option.rec (K (.goto l) f h) (fun _=>B l f h) (findLabel c l):Prop):=hg
  show Exit.inScope ro P c Q (.goto l) a w
  simp only[Exit.inScope]
  cases hf:findLabel c l with
  |none=>rw[hf] at hg;exact kq (.goto l) _ _ _ _ _ s hg
  |some r=>rw[hf] at hg;exact Jy.of (CWp.wp (hb l r hf _ _ _ _ _ s hg))
section
variable(hm:P.follows .mixedOrders=true)(ok:Cg P E)(hcall:Fb P (CP E) G (fun p=>p) call)(hj:JOk ro P cuts c0 Q0 G N μ0 h0 w0 J)(hk:Gk P E pls N G nr c0=true)(hnr:nr=true→ro=none)
include hm ok hcall
theorem Ato{ops:Array Oper}{d:Bool}{id:Nat}{Q:QT}{μ:Mu}{f:FT}{h:H}{a:Act}{w:World}{K:KX'}(hkk:Auj P E pls N G id ops.toList d=true)(s:At G N μ0 h0 w0 μ f h a w)(hg:Bdm E call pls id ops.toList d f h (fun f h=>K .normal f h))(kq:KOk G N μ0 h0 w0 K Q):(Code.region id ops d).wpIn (Fo ro) 0 P Q a w:=by
 cases d with
 |true=>
  obtain⟨pl,hpl,hg⟩:=Ol (show oV (Kn pls id) (fun pl=>(List.rec False (fun _ _ _=>oV (Ar0 E ops.toList pl) (fun its=>Jj E call its f h (fun f h=>K .normal f h))) pl:Prop)) from hg)
  cases pl with
  |nil=>exact hg.elim
  |cons p0 pl=>
   have hkk:Aai P E N G ops.toList (p0::pl)=true:=by
    have hkk:(Option.rec true (fun pl=>List.rec true (fun _ _ _=>Aai P E N G ops.toList pl) pl) (Kn pls id):Bool)=true:=hkk
    rw[hpl] at hkk;exact hkk
   exact A1p hm ok hcall hkk s.fr s.sim s.gl hg fun μ' f' h' a' w' fr' s' x' gl' hK=>kq .normal _ _ _ _ _ (s.next fr' s' x') hK
 |false=>
  have hpl:Kn pls id=none:=by
   cases hp:Kn pls id with
   |none=>rfl
   |some q=>
    have hg:(Option.rec (oV (Aax ops.toList) (fun its=>Gh E call its f h (fun f h=>K .normal f h))) (fun _=>False) (Kn pls id):Prop):=hg
    rw[hp] at hg;exact hg.elim
  have hg:(Option.rec (oV (Aax ops.toList) (fun its=>Gh E call its f h (fun f h=>K .normal f h))) (fun _=>False) (Kn pls id):Prop):=hg
  rw[hpl] at hg
  obtain⟨its,hi,hg⟩:=Ol (show oV (Aax ops.toList) (fun its=>Gh E call its f h (fun f h=>K .normal f h)) from hg)
  have hkk:Iq P E N G ops.toList its none [] []=true:=by
   unfold Auj at hkk
   rw[hpl,hi] at hkk
   exact hkk
  have:=Wt (ro:=ro) (Q:=Q) (rest:=[]) ok hcall its (gs:=[]) hkk s.fr s.sim s.gl (fun g hg=>by simp at hg) hg ?_
  · rw[List.append_nil,Aks hi] at this
    exact wpIn_region_list this
  · intro μ' f' h' a' w' fr' s' x' _ _ hK
    exact kq .normal _ _ _ _ _ (s.next fr' s' x') hK
omit hm in
theorem Ac2{g:Operand}{ps:Array Tmp}{as bd:Code}{Q:QT}{μ:Mu}{f:FT}{h:H}{a:Act}{w:World}{K:KX'}(s:At G N μ0 h0 w0 μ f h a w)(hN:nOf pls≤N)(hgo:Eu G g=true)
 (hg:Qq E call ⟨ps.toList,as,bd,pls,nOf pls⟩ (eval' E g f) (Pd (Yk pls) f) h (fun x h=>Apc x (.normal::Bi7 (Aqb bd)) (fun y=>K y f h))) (kq:KOk G N μ0 h0 w0 K Q):(Code.rangeFunc g ps as bd).wpIn (Fo none) 0 P Q a w:=by
 obtain⟨fn,fa,fc,hv,hg⟩:=Ayd hg
 obtain⟨hbody,hg⟩:=Fq hg
 rw[Mj] at hg
 refine wpIn_rangeFunc fun fnid _=>?_
 have hev:=s.fr.eval (E:=E) s.gl hgo
 rw[hv] at hev
 obtain⟨fn',vs,ws,e,hfn,h1,h2,hy⟩:=hev
 have sd:Sim μ h (w.alloc (.deferred (some []))):=by
  refine⟨s.sim.fresh,s.sim.dead,fun b l hb hl=>?_,s.sim.inj⟩
  have ho:=s.sim.ob b l hb hl
  exact ho.world (Below.heap_alloc w _ _ (ho.lt hb))
 have xd:Dc μ h w μ h (w.alloc (.deferred (some []))):=⟨.refl μ,by rw[World.size_alloc];omega,fun k hk _=>Below.heap_alloc w _ k hk,fun _ _ o=>o,⟨Nat.le_refl _,fun _ _ e=>⟨e,rfl⟩⟩,rfl,rfl,rfl⟩
 have hmark:(w.alloc (.deferred (some []))).heap[w.heap.size]? =some (.deferred (some [])):=Gb _ _
 obtain⟨s1,x1⟩:=sd.alloc (.loop (Pd (Yk pls) f) ⟨ps.toList,as,bd,pls,nOf pls⟩ .ready .normal) (.loop { state:=.ready,pending:=none,fn:=fnid,tmps:=a.tmps,params:=ps,assign:=as,body:=bd,defers:=w.heap.size }) 0 0
  fun μ' hle=>⟨_,Gb _ _,rfl,rfl,rfl,rfl,rfl,Nat.le_trans hN s.fr.size,fun t=>VR.mono hle _ _ (by
   rcases Xw f (Yk pls) t with e0|e0
   · rw[e0];trivial
   · rw[e0];exact s.fr.get t)⟩
 have hyv:VR (μ.set h.next ⟨(w.alloc (.deferred (some []))).heap.size,0,0⟩) (.func (.yield h.next.nat) [] []) (.func (.yield (w.alloc (.deferred (some []))).heap.size) #[] #[]):=
  ⟨_,_,_,rfl,⟨_,by rw[A0g];exact Mu.Cq _ _ _,rfl⟩,(rfl:([]:List Value)=[]),(rfl:([]:List Value)=[]),rfl⟩
 have hcc:=hcall _ _ _ fn fn' _ (vs++#[.func (.yield (w.alloc (.deferred (some []))).heap.size) #[] #[]]++ws) _ s1 (s.gl.mono x1.le) (hfn.mono x1.le) (by
  simp only[Array.toList_append]
  refine(VRs.append (VRs.mono x1.le _ _ h1) ?_).append (VRs.mono x1.le _ _ h2)
  exact(show VRs _ [_] [_] from⟨_,[],rfl,hyv,rfl⟩)) hg
 obtain⟨fid,rfl⟩:∃fid,fn=.func fid:=by cases fn<;>first|exact⟨_,rfl⟩|cases hbody
 have hfn':fn'=.func fid:=by cases fn'<;>simp only[FnR] at hfn<;>first|(cases hfn;rfl)|cases hfn
 subst hfn'
 rcases hcc with⟨fid',hfe,hc⟩|⟨l,F,tmps,as,bd,hfe,_⟩
 case inr=>cases hfe
 cases hfe
 have hent:∀args w,(callFunc fid args).run P w=.ok (.enter fid args) w:=by
  intro args w
  simp only[Yv] at hbody
  cases hf:E.fn fid with
  |none=>simp only[hf] at hbody;cases hbody
  |some fnc=>
   simp only[hf] at hbody
   cases hb:fnc.body with
   |none=>simp only[hb] at hbody;cases hbody
   |some c=>
    simp only[hb] at hbody
    have hname : (fnc.name == "runtime.NumGoroutine") = false := by simpa using hbody
    unfold callFunc
    rw[Aa (show program.run P w=.ok P w from rfl),ok.fn fid fnc hf]
    simp only[hname,hb,Bool.false_eq_true,if_false]
    rfl
 rcases hc with⟨v,w',_,_,_,h3,_⟩|⟨_,hcalls⟩
 · rw[hent] at h3;cases h3
 have hsz:(w.alloc (.deferred (some []))).heap.size=w.heap.size+1:=World.size_alloc _ _
 refine⟨_,_,_,{ target:=.fn (.func fid) ws,args:=vs++#[.func (.yield (w.heap.size+1)) #[] #[]] },((w.alloc (.deferred (some []))).alloc (.loop { state:=.ready,pending:=none,fn:=fnid,tmps:=a.tmps,params:=ps,assign:=as,body:=bd,defers:=w.heap.size })),fid,_,_,run_enterLoop_outer fnid a.tmps ps as bd,?_,fun _ _=>trivial,hent _ _,fun h=>Bool.noConfusion h,?_⟩
 · show(Deferred.ofValue (a.eval g) (#[Operand.const (.func (.yield (w.heap.size+1)) #[] #[])].map a.eval)).run P _=_
   rw[e,show(#[Operand.const (.func (.yield (w.heap.size+1)) #[] #[])].map a.eval)=#[.func (.yield (w.heap.size+1)) #[] #[]] from by simp[Act.eval]];rfl
 rw[←hsz]
 refine Agp (Calls.mono hcalls fun e w' he=>?_)
 obtain⟨v,μ',av,(h':H),rfl,s',x',_,hend⟩:=he
 replace s':@Sim FT μ' h' w':=s'
 replace x':@Dc FT _ _ _ μ' h' w':=x'
 obtain⟨f',lp',st,pd,hat,hend⟩:=Vw hend
 obtain⟨hnb,hend⟩:=Fq hend
 rw[Gw] at hend
 have hl:=x'.le _ _ (Mu.Cq μ h.next ⟨(w.alloc (.deferred (some []))).heap.size,0,0⟩)
 have ho:=s'.ob h.next _ (by rw[hat];nofun) hl
 rw[hat] at ho
 obtain⟨r,hr,hst,hpd,hps,has,hbd,hn,hget⟩:=ho
 have hrun:=run_endLoop (P:=P) hr (by rw[hst];intro e0;rw[e0] at hnb;cases hnb)
 have hlt:(w.alloc (.deferred (some []))).heap.size<w'.heap.size:=(Array.getElem?_eq_some_iff.1 hr).1
 obtain⟨s2,x2⟩:=s'.put (b:=h.next) (by rw[hat];rfl) hl (.loop f' lp' .exhausted pd) (w'.putObj (w.alloc (.deferred (some []))).heap.size (.loop { r with state:=.exhausted }))
  (World.putObj_size) (fun k hk=>World.putObj_heap_other hk) ⟨_,World.putObj_heap_same hlt,rfl,hpd,hps,has,hbd,hn,hget⟩ rfl rfl rfl
 have xx:=(x1.trans x').trans x2
 have st:At G N μ0 h0 w0 μ' f (h'.put h.next (.loop f' lp' .exhausted pd)) { a with defers:=[Ja w.heap.size]++a.defers } (w'.putObj (w.alloc (.deferred (some []))).heap.size (.loop { r with state:=.exhausted })):=by
  refine⟨⟨s.fr.size,fun t=>VR.mono xx.le _ _ (s.fr.get t),rfl⟩,?_,s2,s.ext.trans (xd.trans xx),s.gl.mono xx.le⟩
  obtain⟨rs,e1,nd,hh⟩:=s.marks.ext xd
  refine Marks.ext (h:=h) (μ:=μ) (w:=w.alloc (.deferred (some []))) ⟨w.heap.size::rs,?_,?_,?_⟩ xx
  · show Ja w.heap.size::a.defers=_;rw[e1];rfl
  · refine List.nodup_cons.2 ⟨fun hm=>?_,nd⟩
    obtain⟨rs',e2,_,hh'⟩:=s.marks
    have:rs'=rs:=by
     have:=e2.symm.trans e1
     exact(List.map_inj_right (f:=Ja) (fun x y h=>by cases h;rfl)).1 this
    subst this
    exact Nat.lt_irrefl _ (hh' _ hm).2.1
  · intro r hr
    rcases List.mem_cons.1 hr with rfl|hr
    · exact⟨s.ext.size,by rw[World.size_alloc];omega,hmark,sd.A7m hmark⟩
    · exact hh r hr
 refine⟨r.pending,_,hrun,?_⟩
 have:=kq pd _ _ _ _ _ st (Ac5 hend)
 rw[hpd] at this ⊢
 cases pd with
 |normal=>exact this
 |exit id=>exact wpIn_exit this
 |goto l=>exact wpIn_goto this
 |ret=>exact wpIn_ret this
include hj hk hnr
theorem Fp:∀(c:Code)(p:Pos)(Q:QT),Ec ro P c0 Q0 p=some (c,Q)→∀μ f h a w K,At G N μ0 h0 w0 μ f h a w→Lq E call pls cuts J c p f h K→KOk G N μ0 h0 w0 K Q→CWp ro P c Q a w
 |.skip,p,Q,hs,μ,f,h,a,w,K,s,hg,kq=>by
  rcases Ez hg with⟨L,hm,hL⟩|hg
  · exact hj p L _ Q hm hs μ f h a w s hL
  · exact wpIn_skip (kq .normal _ _ _ _ _ s hg)
 |.label l,p,Q,hs,μ,f,h,a,w,K,s,hg,kq=>by
  rcases Ez hg with⟨L,hm,hL⟩|hg
  · exact hj p L _ Q hm hs μ f h a w s hL
  · exact wpIn_label (kq .normal _ _ _ _ _ s hg)
 |.exit id,p,Q,hs,μ,f,h,a,w,K,s,hg,kq=>by
  rcases Ez hg with⟨L,hm,hL⟩|hg
  · exact hj p L _ Q hm hs μ f h a w s hL
  · exact wpIn_exit (kq (.exit id) _ _ _ _ _ s hg)
 |.goto l,p,Q,hs,μ,f,h,a,w,K,s,hg,kq=>by
  rcases Ez hg with⟨L,hm,hL⟩|hg
  · exact hj p L _ Q hm hs μ f h a w s hL
  · exact wpIn_goto (kq (.goto l) _ _ _ _ _ s hg)
 |.ret,p,Q,hs,μ,f,h,a,w,K,s,hg,kq=>by
  rcases Ez hg with⟨L,hm,hL⟩|hg
  · exact hj p L _ Q hm hs μ f h a w s hL
  · exact wpIn_ret (kq .ret _ _ _ _ _ s hg)
 |.refuse why,p,Q,hs,μ,f,h,a,w,K,s,hg,kq=>hg.elim
 |.rangeFunc g ps as bd,p,Q,hs,μ,f,h,a,w,K,s,hg,kq=>by
  rcases Ez hg with⟨L,hm,hL⟩|hg
  · exact hj p L _ Q hm hs μ f h a w s hL
  · obtain⟨h1,h2⟩:=Al (show An nr _=true from Gj hk hs)
    obtain⟨h2,h3⟩:=Al h2
    cases hnr h1
    exact Ac2 ok hcall s (Bu h3) h2 hg kq
 |.region id ops d,p,Q,hs,μ,f,h,a,w,K,s,hg,kq=>by
  rcases Ez hg with⟨L,hm,hL⟩|hg
  · exact hj p L _ Q hm hs μ f h a w s hL
  · exact Ato hm ok hcall (Gj hk hs) s hg kq
 |.seq x y,p,Q,hs,μ,f,h,a,w,K,s,hg,kq=>by
  rcases Ez hg with⟨L,hm,hL⟩|hg
  · exact hj p L _ Q hm hs μ f h a w s hL
  · have hl:Ec ro P c0 Q0 (.l p)=some (x,Exit.then (CWp ro P y Q) Q):=by simp only[Ec,hs];rfl
    have hr:Ec ro P c0 Q0 (.r p)=some (y,Q):=by simp only[Ec,hs];rfl
    have:=CWp.wp (Fp x (.l p) _ hl μ f h a w _ s hg (Ad9 (c:=y) (fun μ f h a w s hg=>Fp y (.r p) Q hr μ f h a w K s hg kq) kq))
    exact wpIn_seq (Acl this fun e a w he=>by cases e<;>first|exact CWp.wp he|exact he)
 |.cond c x y,p,Q,hs,μ,f,h,a,w,K,s,hg,kq=>by
  rcases Ez hg with⟨L,hm,hL⟩|hg
  · exact hj p L _ Q hm hs μ f h a w s hL
  · have hl:Ec ro P c0 Q0 (.l p)=some (x,Q):=by simp only[Ec,hs];rfl
    have hr:Ec ro P c0 Q0 (.r p)=some (y,Q):=by simp only[Ec,hs];rfl
    have hkc:=(Al (show An (Eu G c) _=true from Gj hk hs)).1
    obtain⟨b,hb,hg⟩:=Gx hg
    have hv:=s.fr.eval (E:=E) s.gl hkc
    rw[hb] at hv
    refine wpIn_cond (t:=b) hv ?_
    cases b with
    |true=>exact CWp.wp (Fp x (.l p) Q hl μ f h a w K s hg kq)
    |false=>exact CWp.wp (Fp y (.r p) Q hr μ f h a w K s hg kq)
 |.block id x,p,Q,hs,μ,f,h,a,w,K,s,hg,kq=>by
  rcases Ez hg with⟨L,hm,hL⟩|hg
  · exact hj p L _ Q hm hs μ f h a w s hL
  · have hl:Ec ro P c0 Q0 (.l p)=some (x,Exit.inBlock id Q):=by simp only[Ec,hs];rfl
    exact wpIn_block (CWp.wp (Fp x (.l p) _ hl μ f h a w _ s hg (Xf kq)))
 |.loop x,p,Q,hs,μ,f,h,a,w,K,s,hg,kq=>by
  rcases Ez hg with⟨L,hm,hL⟩|hg
  · exact hj p L _ Q hm hs μ f h a w s hL
  · have hl:Ec ro P c0 Q0 (.l p)=some (x,Exit.then (Ji ro P x Q) Q):=by simp only[Ec,hs];rfl
    exact Ji.of (CWp.wp (Fp x (.l p) _ hl μ f h a w _ s hg (Aar (fun μ f h a w s hg=>Ou hj hs s hg) kq)))
 |.scope x,p,Q,hs,μ,f,h,a,w,K,s,hg,kq=>by
  rcases Ez hg with⟨L,hm,hL⟩|hg
  · exact hj p L _ Q hm hs μ f h a w s hL
  · have hl:Ec ro P c0 Q0 (.l p)=some (x,Exit.inScope ro P x Q):=by simp only[Ec,hs];rfl
    refine Jy.wp (Jy.of (CWp.wp (Fp x (.l p) _ hl μ f h a w _ s hg (Rv (fun l r hf μ f h a w s hg=>?_) kq))))
    have hll:Ec ro P c0 Q0 (.lab p l)=some (r,Exit.inScope ro P x Q):=by simp only[Ec,hs,Te,hf]
    exact Ou hj hll s hg
end
end
end Go.Den
namespace Go.Den
open Go.RowKit
section
variable{P:Program}{N G:Nat}
def Atn(tmps:Array Value)(r:ResultVar):Sem Value:=match r with
 |.tmp t=>pure (tmps.getD t undef)
 |.cell a t=>do loadVar t (←asAddr (tmps.getD a undef))
def A2p(vs:List Value):Value:=match vs with
 |[v]=>v
 |vs=>.tuple vs.toArray
theorem Qp{fn:Func}{tmps:Array Value}{w:World}{vs:List Value}(h:(fn.results.toList.mapM (Atn tmps)).run P w=.ok vs w):
 (results fn tmps).run P w=.ok (A2p vs) w:=by
 unfold results
 have h':(fn.results.mapM (Atn tmps)).run P w=.ok vs.toArray w:=by
  rw[Array.mapM_eq_mapM_toList,map_eq_pure_bind,Aa h];rfl
 refine Eq.trans (Aa (a:=vs.toArray) (w':=w) h') ?_
 match vs with
 |[]=>rfl
 |[v]=>rfl
 |v::u::vs=>
  rw[dif_neg (by simp)];rfl
end
section
variable{P:Program}
def Rc(e:Ext)(args:Array Value):Sem Value:=match e with
 |.Iy=>Extern.AbiNoEscape.same args
 |.nothing=>pure (.tuple #[])
 |.address=>match args[0]? with
  |some (Value.pointer (some _))=>pure (.tuple #[])
  | _ => stuck "internal/race: an address expected"
 |.indexByte=>Extern.BytealgIndexByte.indexByte args
 |.count=>Extern.BytealgCount.count args
 |.clone=>Extern.MapsClone.clone args
 |.Nu k=>Extern.Atomic.loadT (.int k) args
 |.Ju _=>Extern.Atomic.storeT args
 |.Xl k=>Extern.Atomic.update (Op.intArith .add) k true args
 |.Xk k=>Extern.Atomic.casT (.int k) args
 |.Apf=>Extern.Atomic.loadT .ptr args
 |.Ape=>Extern.Atomic.swapT .ptr args
 |.A0h=>Extern.Atomic.casT .ptr args
theorem Ub{n:Nat}(h:n≤255):(n.toUInt8).toNat=n:=by
 show(UInt8.ofNat n).toNat=n
 simp;omega
theorem Bjy(x:UInt8){n:Nat}(h:n≤255):Nat.beq x.toNat n=(x==n.toUInt8):=by
 rw[Gt,Bool.eq_iff_iff]
 simp only[decide_eq_true_eq,beq_iff_eq]
 constructor
 · intro e;apply UInt8.toNat_inj.1;rw[Ub h,e]
 · intro e;rw[e,Ub h]
theorem Xc(x:UInt8)(l:List UInt8):Nat.mod (enc (x::l)) 256=x.toNat∧Nat.div (enc (x::l)) 256=enc l:=by
 have hx:=x.toNat_lt
 constructor
 · show enc (x::l)%256=_;simp only[enc];omega
 · show enc (x::l) / 256=_;simp only[enc];omega
theorem Oy {b : Nat} (hb : b ≤ 255) : ∀ (l : List UInt8) (i : Nat), Oz b l.length (enc l) i = match l.findIdx? (· == b.toUInt8) with
    | some j => ((i + j : Nat) : Int)
    | none => -1
  | [], i => rfl
  | x :: l, i => by
    obtain ⟨h1, h2⟩ := Xc x l
    show (Bool.rec (Oz b l.length (Nat.div (enc (x :: l)) 256) (Nat.add i 1)) (.ofNat i) (Nat.beq (Nat.mod (enc (x :: l)) 256) b) : Int) = _
    rw [h1, h2, Bjy x hb, List.findIdx?_cons]
    cases hx : x == b.toUInt8 with
    | true => simp
    | false =>
      simp only [Bool.false_eq_true, if_false]
      rw [Oy hb l (Nat.add i 1)]
      cases l.findIdx? (· == b.toUInt8) with
      | none => rfl
      | some j => simp only [Option.map_some]; show ((i + 1 + j : Nat) : Int) = _; congr 1; omega
theorem Tt{b:Nat}(hb:b≤255):∀(l:List UInt8)(acc:Nat),Sd b l.length (enc l) acc=l.foldl (fun n x=>if x==b.toUInt8 then n+1 else n) (acc:Int)
 |[],acc=>rfl
 |x::l,acc=>by
  obtain⟨h1,h2⟩:=Xc x l
  show(Bool.rec (Sd b l.length (Nat.div (enc (x::l)) 256) acc) (Sd b l.length (Nat.div (enc (x::l)) 256) (Nat.add acc 1)) (Nat.beq (Nat.mod (enc (x::l)) 256) b):Int)=_
  rw[h1,h2,Bjy x hb,List.foldl_cons]
  cases hx:x==b.toUInt8 with
  |true=>exact Tt hb l (acc+1)
  |false=>exact Tt hb l acc
theorem Ak3(s:ByteArray)(c:UInt8):(List.range s.size).find? (fun i=>s[i]! ==c)=s.data.toList.findIdx? (·==c):=by
 have key:∀(l:List UInt8)(f:Nat→UInt8)(k:Nat),(∀(i:Nat)(h:i<l.length),f (k+i)=l[i])→(List.range' k l.length).find? (fun i=>f i==c)=(l.findIdx? (·==c)).map (k+·):=by
  intro l
  induction l with
  |nil=>intro f k _;rfl
  |cons x l ih=>
   intro f k hf
   have h0:f k=x:=hf 0 (by simp)
   rw[List.length_cons,List.range'_succ,List.find?_cons,List.findIdx?_cons,h0]
   cases hx:x==c with
   |true=>simp
   |false=>
    simp only[Bool.false_eq_true,if_false]
    rw[ih f (k+1) (fun i h=>by have:=hf (i+1) (by simpa using h);rw[show k+1+i=k+(i+1) from by omega,this];rfl)]
    cases l.findIdx? (·==c) with
    |none=>rfl
    |some j=>simp only[Option.map_some];congr 1;omega
 have:=key s.data.toList (fun i=>s[i]!) 0 (fun i h=>by
  have h':i<s.size:=h
  rw[Nat.zero_add]
  show s[i]! =_
  rw[getElem!_pos s i h'];rfl)
 rw[List.range_eq_range']
 refine(this.trans ?_)
 cases s.data.toList.findIdx? (·==c)<;>simp
theorem Aiw(s:ByteArray)(c:UInt8)(i:Int):s.foldl (fun n x=>if x==c then n+1 else n) i=s.data.toList.foldl (fun n x=>if x==c then n+1 else n) i:=by
 have key:∀(n j:Nat)(b:Int)(h:s.size≤s.size),n+j=s.size→(ByteArray.foldlM.loop (fun(x1:Int) x2=>(pure (if x2==c then x1+1 else x1):_root_.Id Int)) s s.size h n j b:_root_.Id Int).run=(s.data.toList.drop j).foldl (fun n x=>if x==c then n+1 else n) b:=by
  intro n
  induction n with
  |zero=>
   intro j b h hj
   unfold ByteArray.foldlM.loop
   rw[dif_neg (by omega),List.drop_eq_nil_of_le (by show s.data.toList.length≤j;have:s.data.toList.length=s.size:=rfl;omega)]
   rfl
  |succ n ih=>
   intro j b h hj
   unfold ByteArray.foldlM.loop
   have hlt:j<s.size:=by omega
   rw[dif_pos hlt,List.drop_eq_getElem_cons (show j<s.data.toList.length from hlt),List.foldl_cons]
   exact ih (j+1) _ h (by omega)
 have:=key s.size 0 i (Nat.le_refl _) (by omega)
 rw[List.drop_zero] at this
 rw[←this]
 unfold ByteArray.foldl ByteArray.foldlM
 rw[dif_pos (Nat.le_refl _)]
 rfl
theorem args1{μ:Mu}{args:List AV}{vs:Array Value}(hv:VRs μ args vs.toList)(hn:args.length=1):∃x v,args=[x]∧vs=#[v]∧VR μ x v:=by
 match args,hv with
 |[x],hv=>
  obtain⟨v,l,e,h1,h2⟩:=hv
  cases(show l=[] from h2)
  exact⟨x,v,rfl,by apply Array.ext';simpa using e,h1⟩
theorem args2{μ:Mu}{args:List AV}{vs:Array Value}(hv:VRs μ args vs.toList)(hn:args.length=2):∃x y v u,args=[x,y]∧vs=#[v,u]∧VR μ x v∧VR μ y u:=by
 match args,hv with
 |[x,y],hv=>
  obtain⟨v,l,e,h1,u,l',e',h2,h3⟩:=hv
  cases(show l'=[] from h3)
  subst e'
  exact⟨x,y,v,u,rfl,by apply Array.ext';simpa using e,h1,h2⟩
theorem A4h{μ:Mu}{args:List AV}{vs:Array Value}(hv:VRs μ args vs.toList)(hn:args.length=3):∃x y z v u t,args=[x,y,z]∧vs=#[v,u,t]∧VR μ x v∧VR μ y u∧VR μ z t:=by
 match args,hv with
 |[x,y,z],hv=>
  obtain⟨v,l,e,h1,u,l',e',h2,t,l'',e'',h3,h4⟩:=hv
  cases(show l''=[] from h4)
  subst e'';subst e'
  exact⟨x,y,z,v,u,t,rfl,by apply Array.ext';simpa using e,h1,h2,h3⟩
theorem Va{k:IntKind}{v:AV}{n:Int}(h:isI k v=some n):v=.int k n:=by
 cases v<;>simp only[isI] at h<;>try cases h
 rename_i j m
 split at h
 · rename_i e;cases e;cases h;rfl
 · cases h
theorem Sim.cellAt{T:Type}{μ:Mu}{h:Hp T}{w:World}(s:Sim μ h w){b:Go.Den.P}{o:Nat}{l:Loc}(hl:μ b=some l){x:AV}{h':Hp T}(hw:h.write b o [x]=some h'):(w.cell? ⟨l.blk,l.off+o,Option.none⟩).isSome=true:=by
 have hrow:=s.rowOf hl rfl
 unfold Hp.write Hp.Hw at hw
 cases hr:Em (h.at b) with
 |no=>rw[hr] at hw;cases hw
 |ext c m=>rw[hr] at hw;cases hw
 |row t m z e whole=>
  rw[hr] at hw
  obtain⟨hz,hw⟩:=Av (show Xm h b o [x] Option.none some t m z e whole=some h' from hw)
  obtain⟨hle,hw⟩:=Av hw
  have hle:o+1≤m:=Bu hle
  obtain⟨_,l',cs,fz,hl',hb,hc,_⟩:=hrow.1 t m z e whole hr
  rw[hl] at hl';cases hl'
  obtain⟨v,hv,_⟩:=hc.2.2 o (by omega)
  rw[Mb hb,hv];rfl
theorem Aw8{T:Type}(P:Program){μ:Mu}{h:Hp T}{w:World}(s:Sim μ h w){b:Go.Den.P}{o:Nat}{l:Loc}(hl:μ b=some l){k:IntKind}{y:Int}{h':Hp T}(hw:h.write b o [.int k y]=some h'):
 (w.cell? ⟨l.blk,l.off+o,none⟩).isSome=true∧w.frozen? ⟨l.blk,l.off+o,none⟩=false∧Sim μ h' (w.setCell ⟨l.blk,l.off+o,none⟩ (.int k y))∧Dc μ h w μ h' (w.setCell ⟨l.blk,l.off+o,none⟩ (.int k y)):=by
 obtain⟨l',w',h'',hl',hr,s',x',hg⟩:=s.write (Pr:=P) (good:=fun o=>o=some h') (bad:=none) (fun e=>nomatch e) (k:=some) (vs:=[.int k y]) hl hw ⟨_,[],rfl,rfl,rfl⟩ rfl
 rw[hl] at hl';cases hl'
 cases hg
 have hst:(storeCells ⟨l.blk,l.off+o,none⟩ [.int k y]).run P w=(store ⟨l.blk,l.off+o,none⟩ (.int k y)).run P w:=by
  show(do store ((⟨l.blk,l.off+o,none⟩:Addr).add 0) (.int k y);pure ():Sem Unit).run P w=_
  rw[Ic,Nat.add_zero,Sem.run_bind]
  cases(store ⟨l.blk,l.off+o,none⟩ (.int k y)).run P w with
  |ok u w=>rfl
  |halt h w=>rfl
 rw[hst,run_store P w _ (.int k y) .plain rfl] at hr
 have hc:=s.cellAt hl hw
 obtain⟨c,hc'⟩:=Option.isSome_iff_exists.1 hc
 rw[hc'] at hr
 cases hf:w.frozen? ⟨l.blk,l.off+o,none⟩ with
 |true=>rw[hf] at hr;cases hr
 |false=>
  rw[hf] at hr
  have hr:(Result.ok () (w.setCell ⟨l.blk,l.off+o,none⟩ (.int k y)):Result Unit)=.ok () w':=hr
  cases hr
  exact⟨hc,rfl,s',x'⟩
theorem Aw9{T:Type}{μ:Mu}{h:Hp T}{w:World}(s:Sim μ h w){b:Go.Den.P}{o:Nat}{l:Loc}(hl:μ b=some l){v:AV}{k:IntKind}{n:Int}(hr:h.Ka b o=some v)(hi:isI k v=some n):w.cell? ⟨l.blk,l.off+o,none⟩=some (.int k n):=by
 obtain⟨l',u,a,hl',hc,hv,_,hg⟩:=s.Ka (good:=fun o=>o=some v) (bad:=none) (fun e=>nomatch e) (k:=some) hl hr
 rw[hl] at hl';cases hl'
 cases hg
 rw[Va hi] at hv
 rw[hc,show u=_ from hv]
theorem Uz{v p:AV}(h:Aay v=some p):p=v∧v.one=true∧∀μ u,VR μ v u→∃q,u=.pointer q:=by
 cases v<;>simp only[Aay] at h<;>cases h
 · exact⟨rfl,rfl,fun μ u hu=>⟨_,hu⟩⟩
 · exact⟨rfl,rfl,fun μ u ⟨l,_,hu⟩=>⟨_,hu⟩⟩
theorem Awb{x y:AV}(h:A9c x y=true):x=y:=by
 cases x<;>simp only[A9c] at h<;>try cases h
 · cases y<;>simp only at h<;>first|rfl|cases h
 · cases y<;>simp only at h<;>try cases h
   obtain⟨h1,h2⟩:=Al h
   rw[Go.Den.P.beq_eq h1,Nat.eq_of_beq_eq_true h2]
theorem Aw7{T:Type}(P:Program){μ:Mu}{h:Hp T}{w:World}(s:Sim μ h w){b:Go.Den.P}{o:Nat}{l:Loc}(hl:μ b=some l){y:AV}(hy:y.one=true){q:Option Addr}(hv:VR μ y (.pointer q)){h':Hp T}(hw:h.write b o [y]=some h'):
 (w.cell? ⟨l.blk,l.off+o,none⟩).isSome=true∧w.frozen? ⟨l.blk,l.off+o,none⟩=false∧Sim μ h' (w.setCell ⟨l.blk,l.off+o,none⟩ (.pointer q))∧Dc μ h w μ h' (w.setCell ⟨l.blk,l.off+o,none⟩ (.pointer q)):=by
 obtain⟨l',w',h'',hl',hr,s',x',hg⟩:=s.write (Pr:=P) (good:=fun o=>o=some h') (bad:=none) (fun e=>nomatch e) (k:=some) (vs:=[.pointer q]) hl hw ⟨_,[],rfl,hv,rfl⟩ (by simp[hy])
 rw[hl] at hl';cases hl'
 cases hg
 have hst:(storeCells ⟨l.blk,l.off+o,none⟩ [.pointer q]).run P w=(store ⟨l.blk,l.off+o,none⟩ (.pointer q)).run P w:=by
  show(do store ((⟨l.blk,l.off+o,none⟩:Addr).add 0) (.pointer q);pure ():Sem Unit).run P w=_
  rw[Ic,Nat.add_zero,Sem.run_bind]
  cases(store ⟨l.blk,l.off+o,none⟩ (.pointer q)).run P w with
  |ok u w=>rfl
  |halt h w=>rfl
 rw[hst,run_store P w _ (.pointer q) .plain rfl] at hr
 have hc:=s.cellAt hl hw
 obtain⟨c,hc'⟩:=Option.isSome_iff_exists.1 hc
 rw[hc'] at hr
 cases hf:w.frozen? ⟨l.blk,l.off+o,none⟩ with
 |true=>rw[hf] at hr;cases hr
 |false=>
  rw[hf] at hr
  have hr:(Result.ok () (w.setCell ⟨l.blk,l.off+o,none⟩ (.pointer q)):Result Unit)=.ok () w':=hr
  cases hr
  exact⟨hc,rfl,s',x'⟩
theorem Alj{T:Type}{μ:Mu}{h:Hp T}{w:World}(s:Sim μ h w){b:Go.Den.P}{o:Nat}{l:Loc}(hl:μ b=some l){v p:AV}(hr:h.Ka b o=some v)(hi:Aay v=some p):∃q,w.cell? ⟨l.blk,l.off+o,none⟩=some (.pointer q)∧VR μ p (.pointer q):=by
 obtain⟨l',u,a,hl',hc,hv,_,hg⟩:=s.Ka (good:=fun o=>o=some v) (bad:=none) (fun e=>nomatch e) (k:=some) hl hr
 rw[hl] at hl';cases hl'
 cases hg
 obtain⟨rfl,_,hp⟩:=Uz hi
 obtain⟨q,rfl⟩:=hp _ _ hv
 exact⟨q,hc,hv⟩
theorem A1i{T:Type}{μ:Mu}{h:Hp T}{w:World}(s:Sim μ h w){e:Ext}{args:List AV}{vargs:Array Value}(hv:VRs μ args vargs.toList)(hn:∀n,A80 e=some n→args.length=n){r:AV×Hp T}(hr:Gl e args h=some r):
 Fi P μ h w (Rc e vargs) r.1 r.2:=by
 have str1:∀(g:Nat→Nat→Nat→Int),Af8 g (It args) (arg1 args) h=some r→args.length=2→∃str b l c,vargs=#[.string str,.int .u8 (Int.ofNat b)]∧Gd l c str∧b≤255∧r=(.int .i64 (g l c b),h):=by
  intro g hr hn
  obtain⟨x,y,v,u,rfl,rfl,h1,h2⟩:=args2 hv hn
  simp only[It,arg1] at hr
  cases x<;>simp only[Af8] at hr<;>try cases hr
  obtain⟨b,hb,hr⟩:=Af hr
  obtain⟨hle,hr⟩:=Av hr
  cases hr
  have:=Ri hb
  subst this
  obtain⟨str,rfl,hstr⟩:=h1
  have h2:u=.int .u8 (Int.ofNat b):=h2
  subst h2
  exact⟨str,b,_,_,rfl,hstr,Bu hle,rfl⟩
 cases e
 case Iy=>
  obtain⟨x,v,rfl,rfl,h1⟩:=args1 hv (hn 1 rfl)
  cases hr
  exact .here s rfl h1
 case nothing=>cases hr;exact .here s (v:=.tuple #[]) rfl (VR.undef μ)
 case address=>
  cases args with
  |nil=>cases hr
  |cons x l=>
   obtain⟨v,vs,e,h1,_⟩:=hv
   cases x<;>simp only[Gl,It] at hr<;>cases hr
   obtain⟨q,hq,rfl⟩:=h1
   refine .here s (v:=.tuple #[]) ?_ (VR.undef μ)
   simp only[Rc]
   rw[←Array.getElem?_toList,e];rfl
 case indexByte=>
  obtain⟨str,b,l,c,rfl,⟨rfl,rfl⟩,hb,rfl⟩:=str1 _ hr (hn 2 rfl)
  have hi:=Oy hb str.data.toList 0
  refine .here s (v:=.int .i64 (Oz b str.size (enc str.data.toList) 0)) ?_ rfl
  show(Extern.BytealgIndexByte.indexByte #[.string str,.int .u8 (Int.ofNat b)]).run P w=_
  have hdef:Extern.BytealgIndexByte.indexByte #[.string str,.int .u8 (Int.ofNat b)]=(match(List.range str.size).find? fun i=>str[i]! ==b.toUInt8 with
   |some i=>pure (goInt i)
   |none=>pure (goInt (-1))):=rfl
  rw[hdef,Ak3]
  have hi':Oz b str.size (enc str.data.toList) 0=_:=hi
  rw[hi']
  cases str.data.toList.findIdx? (·==b.toUInt8) with
  |none=>rfl
  |some j=>simp only[Nat.zero_add];rfl
 case count=>
  obtain⟨str,b,l,c,rfl,⟨rfl,rfl⟩,hb,rfl⟩:=str1 _ hr (hn 2 rfl)
  have hi:=Tt hb str.data.toList 0
  refine .here s (v:=.int .i64 (Sd b str.size (enc str.data.toList) 0)) ?_ rfl
  have hdef:Rc .count #[.string str,.int .u8 (Int.ofNat b)]=pure (goInt (str.foldl (fun n x=>if x==b.toUInt8 then n+1 else n) ((0:Nat):Int))):=rfl
  have hi':Sd b str.size (enc str.data.toList) 0=_:=hi
  rw[hdef,Aiw,hi'];rfl
 case clone=>
  obtain⟨x,v,rfl,rfl,h1⟩:=args1 hv (hn 1 rfl)
  have hr:Aqc x h=some r:=hr
  obtain⟨t,b,rfl,hr2⟩:∃t b,x=.iface t (.map b)∧Ai2 t (Kt (h.at b)) h=some r:=by
   cases x with
   |iface t m=>cases m with
    |map b=>exact⟨t,b,rfl,hr⟩
    |_=>cases hr
   |_=>cases hr
  obtain⟨p,hp,hr3⟩:=Af hr2
  clear hr hr2
  cases hr3
  obtain⟨y,rfl,l',hl',rfl⟩:=h1
  obtain⟨l,xs,hl,hblk,hes⟩:=s.Adb hl' (Lw hp)
  rw[hl] at hl';cases hl'
  obtain⟨s1,x1⟩:=s.alloc (.map p.1 p.2) (.map xs p.2) 0 0 fun μ' hle=>⟨xs,Gb _ _,hes.mono hle⟩
  refine⟨.iface t (.map (some w.heap.size)),_,_,?_,s1,x1,⟨_,rfl,_,Mu.Cq _ _ _,rfl⟩⟩
  have hdef:Rc .clone #[.iface t (.map (some l'.blk))]=(do
   let .map entries clock ← getObj l'.blk | stuck "maps.clone: a map expected"
   pure (.iface t (.map (some (←newObj (.map entries clock)))))):=rfl
  rw[hdef]
  rw[Aa (Et hblk (by intros;simp))]
  rfl
 case Nu k=>
  obtain⟨x,v,rfl,rfl,h1⟩:=args1 hv (hn 1 rfl)
  cases x<;>simp only[Gl,It,Ax9] at hr<;>try cases hr
  obtain⟨u,hu,hr⟩:=Af hr
  obtain⟨n,hin,hr⟩:=Af hr
  cases hr
  obtain⟨l,hl,rfl⟩:=h1
  have hc:=Aw9 s hl hu hin
  refine .here s (v:=.int k n) ?_ rfl
  show(Sem.run P (do Extern.Atomic.read (.int k) (←asAddr (.pointer (some _)))) w)=_
  simp[Extern.Atomic.read,asAddr,hc,Result.andThen]
 case Ju k=>
  obtain⟨x,y,v,u,rfl,rfl,h1,h2⟩:=args2 hv (hn 2 rfl)
  cases x<;>simp only[Gl,It,arg1,Aqx] at hr<;>try cases hr
  obtain⟨n,hin,hr⟩:=Af hr
  obtain⟨h',hw,hr⟩:=Af hr
  cases hr
  obtain⟨l,hl,rfl⟩:=h1
  rw[Va hin] at h2
  cases(show u=.int k n from h2)
  obtain⟨hc,hz,s',x'⟩:=Aw8 P s hl hw
  obtain⟨c,hc⟩:=Option.isSome_iff_exists.1 hc
  refine⟨.tuple #[],_,μ,?_,s',x',VR.undef μ⟩
  show(Sem.run P (do
   store (←asAddr (.pointer (some _))) (.int k n) .atomic
   pure Extern.Atomic.none_) w)=_
  simp[asAddr,hc,hz,run_store P w _ (.int k n) .atomic rfl,Result.andThen,Extern.Atomic.none_]
 case Xl k=>
  obtain⟨x,y,v,u,rfl,rfl,h1,h2⟩:=args2 hv (hn 2 rfl)
  cases x<;>simp only[Gl,It,arg1,A4g] at hr<;>try cases hr
  obtain⟨c,hc0,hr⟩:=Af hr
  obtain⟨n,hin,hr⟩:=Af hr
  obtain⟨m,him,hr⟩:=Af hr
  obtain⟨h',hw,hr⟩:=Af hr
  cases hr
  obtain⟨l,hl,rfl⟩:=h1
  rw[Va him] at h2
  cases(show u=.int k m from h2)
  have hc:=Aw9 s hl hc0 hin
  obtain⟨_,hz,s',x'⟩:=Aw8 P s hl hw
  refine⟨.int k (wrap k (Bq n m)),_,μ,?_,s',x',rfl⟩
  have hs:(Op.intArith .add k n m).run P w=.ok (.int k (wrap k (Bq n m))) w:=by rw[Mh,Afv];rfl
  show(Sem.run P (do
   let a' ←asAddr (.pointer (some _))
   let old ←Extern.Atomic.read (.int k) a'
   let new ←Op.intArith .add k (←asInt old) (←asInt (.int k m))
   store a' new .atomic
   pure (if true=true then new else old)) w)=_
  simp[Extern.Atomic.read,asAddr,asInt,asIntOf,hc,hz,hs,run_store P w _ (.int k (wrap k (Bq n m))) .atomic rfl,Result.andThen]
 case Xk k=>
  obtain⟨x,y,z,v,u,t,rfl,rfl,h1,h2,h3⟩:=A4h hv (hn 3 rfl)
  cases x<;>simp only[Gl,It,arg1,A4f] at hr<;>try cases hr
  obtain⟨c,hc0,hr⟩:=Af hr
  obtain⟨n,hin,hr⟩:=Af hr
  obtain⟨m,him,hr⟩:=Af hr
  obtain⟨q,hiq,hr⟩:=Af hr
  obtain⟨he,hr⟩:=Av hr
  obtain⟨h',hw,hr⟩:=Af hr
  cases hr
  obtain⟨l,hl,rfl⟩:=h1
  rw[Va him] at h2
  cases(show u=.int k m from h2)
  have hiq:isI k z=some q:=hiq
  rw[Va hiq] at h3
  cases(show t=.int k q from h3)
  have hnm:n=m:=by rw[Jw] at he;simpa using he
  subst hnm
  have hc:=Aw9 s hl hc0 hin
  obtain⟨_,hz,s',x'⟩:=Aw8 P s hl hw
  refine⟨.bool true,_,μ,?_,s',x',rfl⟩
  show(Sem.run P (do
   let a' ←asAddr (.pointer (some _))
   if ← Extern.Atomic.touchesFrozen a' then unsupported (.unsafePointer "a write to bytes that a string shares")
   let eq ←match Extern.Atomic.T.int k,←Extern.Atomic.read (.int k) a',Value.int k n with
    |_,.int _ x,.int _ y=>pure (x==y)
    |.ptr,.pointer x,.pointer y=>samePointer x y
    |.int _,.pointer (some _),.int _ 0|.int _,.int _ 0,.pointer (some _)=>pure false
    |.int _,.pointer (some _),_|.int _,_,.pointer (some _)=>unsupported .addressObserved
    | _, _, _ => stuck "atomic.CompareAndSwap: old is no T"
   if eq then store a' (.int k q) .atomic
   pure (Value.bool eq)) w)=_
  simp[Extern.Atomic.touchesFrozen,Extern.Atomic.read,asAddr,viewAt,World.shape?_isSome_of_cell? hc,hc,hz,run_store P w _ (.int k q) .atomic rfl,Result.andThen]
 case Apf=>
  obtain⟨x,v,rfl,rfl,h1⟩:=args1 hv (hn 1 rfl)
  cases x<;>simp only[Gl,It,Auc] at hr<;>try cases hr
  obtain⟨u,hu,hr⟩:=Af hr
  obtain⟨p,hip,hr⟩:=Af hr
  cases hr
  obtain⟨l,hl,rfl⟩:=h1
  obtain⟨q,hc,hvq⟩:=Alj s hl hu hip
  refine .here s (v:=.pointer q) ?_ hvq
  show(Sem.run P (do Extern.Atomic.read .ptr (←asAddr (.pointer (some _)))) w)=_
  simp[Extern.Atomic.read,asAddr,hc,Result.andThen]
 case Ape=>
  obtain⟨x,y,v,u,rfl,rfl,h1,h2⟩:=args2 hv (hn 2 rfl)
  cases x<;>simp only[Gl,It,arg1,Aub] at hr<;>try cases hr
  obtain⟨c,hc0,hr⟩:=Af hr
  obtain⟨p,hip,hr⟩:=Af hr
  obtain⟨z,hiz,hr⟩:=Af hr
  obtain⟨h',hw,hr⟩:=Af hr
  cases hr
  obtain⟨l,hl,rfl⟩:=h1
  obtain⟨q,hc,hvq⟩:=Alj s hl hc0 hip
  obtain⟨rfl,ho,hpz⟩:=Uz hiz
  obtain⟨r,rfl⟩:=hpz _ _ h2
  obtain⟨_,hz,s',x'⟩:=Aw7 P s hl ho h2 hw
  refine⟨.pointer q,_,μ,?_,s',x',hvq⟩
  show(Sem.run P (do
   let a' ←asAddr (.pointer (some _))
   let old ←Extern.Atomic.read .ptr a'
   store a' (.pointer r) .atomic
   pure old) w)=_
  simp[Extern.Atomic.read,asAddr,hc,hz,run_store P w _ (.pointer r) .atomic rfl,Result.andThen]
 case A0h=>
  obtain⟨x,y,z,v,u,t,rfl,rfl,h1,h2,h3⟩:=A4h hv (hn 3 rfl)
  cases x<;>simp only[Gl,It,arg1,A22] at hr<;>try cases hr
  obtain⟨c,hc0,hr⟩:=Af hr
  obtain⟨p,hip,hr⟩:=Af hr
  obtain⟨m,him,hr⟩:=Af hr
  obtain⟨z',hiz,hr⟩:=Af hr
  obtain⟨he,hr⟩:=Av hr
  obtain⟨h',hw,hr⟩:=Af hr
  cases hr
  obtain⟨l,hl,rfl⟩:=h1
  obtain⟨q,hc,hvq⟩:=Alj s hl hc0 hip
  obtain rfl:=Awb he
  obtain⟨rfl,_,hpy⟩:=Uz him
  obtain⟨r,rfl⟩:=hpy _ _ h2
  have hiz:Aay z=some z':=hiz
  obtain⟨rfl,ho,hpz⟩:=Uz hiz
  obtain⟨r',rfl⟩:=hpz _ _ h3
  have hqr:q=r:=by
   cases p<;>simp only[Aay] at him<;>cases him
   · cases hvq;cases h2;rfl
   · obtain⟨l1,e1,e2⟩:=hvq
     obtain⟨l2,e3,e4⟩:=h2
     rw[e1] at e3;cases e3
     cases e2;cases e4;rfl
  subst hqr
  obtain⟨_,hz,s',x'⟩:=Aw7 P s hl ho h3 hw
  refine⟨.bool true,_,μ,?_,s',x',rfl⟩
  show(Sem.run P (do
   let a' ←asAddr (.pointer (some _))
   if ← Extern.Atomic.touchesFrozen a' then unsupported (.unsafePointer "a write to bytes that a string shares")
   let eq ←match Extern.Atomic.T.ptr,←Extern.Atomic.read .ptr a',Value.pointer q with
    |_,.int _ x,.int _ y=>pure (x==y)
    |.ptr,.pointer x,.pointer y=>samePointer x y
    |.int _,.pointer (some _),.int _ 0|.int _,.int _ 0,.pointer (some _)=>pure false
    |.int _,.pointer (some _),_|.int _,_,.pointer (some _)=>unsupported .addressObserved
    | _, _, _ => stuck "atomic.CompareAndSwap: old is no T"
   if eq then store a' (.pointer r') .atomic
   pure (Value.bool eq)) w)=_
  cases q<;>simp[Extern.Atomic.touchesFrozen,Extern.Atomic.read,asAddr,samePointer,sameAddr,viewAt,World.shape?_isSome_of_cell? hc,hc,hz,run_store P w _ (.pointer r') .atomic rfl,Result.andThen]
end
end Go.Den
namespace Go.Den
open Go.RowKit
section
variable{ro:Option Nat}{P:Program}{E:Env}{N G:Nat}{nr:Bool}{call:CF}{pls:Aq}{cuts:Bb}{J:Jump}{c0:Code}{Q0:QT}{K0:KX'}{μ0:Mu}{h0:H}{w0:World}
section
variable(hm:P.follows .mixedOrders=true)(ok:Cg P E)(hcall:Fb P (CP E) G (fun p=>p) call)(hj:JOk ro P cuts c0 Q0 G N μ0 h0 w0 J)(hk:Gk P E pls N G nr c0=true)(hnr:nr=true→ro=none)
include hm ok hcall hj hk hnr
theorem As1(c:Code)(p:Pos)(Q:QT)(hs:Ec ro P c0 Q0 p=some (c,Q)){μ:Mu}{f:FT}{h:H}{a:Act}{w:World}{K:KX'}(s:At G N μ0 h0 w0 μ f h a w)(hg:A2u E call pls cuts J c p f h K)(kq:KOk G N μ0 h0 w0 K Q):CWp ro P c Q a w:=by
 cases c with
 |skip=>exact wpIn_skip (kq .normal _ _ _ _ _ s hg)
 |label l=>exact wpIn_label (kq .normal _ _ _ _ _ s hg)
 |exit id=>exact wpIn_exit (kq (.exit id) _ _ _ _ _ s hg)
 |goto l=>exact wpIn_goto (kq (.goto l) _ _ _ _ _ s hg)
 |ret=>exact wpIn_ret (kq .ret _ _ _ _ _ s hg)
 |refuse why=>exact hg.elim
 |rangeFunc g ps as bd=>
  obtain⟨h1,h2⟩:=Al (show An nr _=true from Gj hk hs)
  obtain⟨h2,h3⟩:=Al h2
  cases hnr h1
  exact Ac2 ok hcall s (Bu h3) h2 hg kq
 |region id ops d=>exact Ato hm ok hcall (Gj hk hs) s hg kq
 |seq x y=>
  have hl:Ec ro P c0 Q0 (.l p)=some (x,Exit.then (CWp ro P y Q) Q):=by simp only[Ec,hs];rfl
  have hr:Ec ro P c0 Q0 (.r p)=some (y,Q):=by simp only[Ec,hs];rfl
  have:=CWp.wp (Fp hm ok hcall hj hk hnr x (.l p) _ hl μ f h a w _ s hg (Ad9 (c:=y) (fun μ f h a w s hg=>Fp hm ok hcall hj hk hnr y (.r p) Q hr μ f h a w K s hg kq) kq))
  exact wpIn_seq (Acl this fun e a w he=>by cases e<;>first|exact CWp.wp he|exact he)
 |cond c x y=>
  have hl:Ec ro P c0 Q0 (.l p)=some (x,Q):=by simp only[Ec,hs];rfl
  have hr:Ec ro P c0 Q0 (.r p)=some (y,Q):=by simp only[Ec,hs];rfl
  have hkc:=(Al (show An (Eu G c) _=true from Gj hk hs)).1
  obtain⟨b,hb,hg⟩:=Gx hg
  have hv:=s.fr.eval (E:=E) s.gl hkc
  rw[hb] at hv
  refine wpIn_cond (t:=b) hv ?_
  cases b with
  |true=>exact CWp.wp (Fp hm ok hcall hj hk hnr x (.l p) Q hl μ f h a w K s hg kq)
  |false=>exact CWp.wp (Fp hm ok hcall hj hk hnr y (.r p) Q hr μ f h a w K s hg kq)
 |block id x=>
  have hl:Ec ro P c0 Q0 (.l p)=some (x,Exit.inBlock id Q):=by simp only[Ec,hs];rfl
  exact wpIn_block (CWp.wp (Fp hm ok hcall hj hk hnr x (.l p) _ hl μ f h a w _ s hg (Xf kq)))
 |loop x=>
  have hl:Ec ro P c0 Q0 (.l p)=some (x,Exit.then (Ji ro P x Q) Q):=by simp only[Ec,hs];rfl
  exact Ji.of (CWp.wp (Fp hm ok hcall hj hk hnr x (.l p) _ hl μ f h a w _ s hg (Aar (fun μ f h a w s hg=>Ou hj hs s hg) kq)))
 |scope x=>
  have hl:Ec ro P c0 Q0 (.l p)=some (x,Exit.inScope ro P x Q):=by simp only[Ec,hs];rfl
  refine Jy.wp (Jy.of (CWp.wp (Fp hm ok hcall hj hk hnr x (.l p) _ hl μ f h a w _ s hg (Rv (fun l r hf μ f h a w s hg=>?_) kq))))
  have hll:Ec ro P c0 Q0 (.lab p l)=some (r,Exit.inScope ro P x Q):=by simp only[Ec,hs,Te,hf]
  exact Ou hj hll s hg
theorem Vr(k0:KOk G N μ0 h0 w0 K0 Q0):∀(p:Pos){c c':Code}{Q:QT}{K:KX'},Ec ro P c0 Q0 p=some (c,Q)→Vs E call pls cuts J c0 K0 p=some (c',K)→c'=c∧KOk G N μ0 h0 w0 K Q
 |.root,c,c',Q,K,hs,hc=>by cases hs;cases hc;exact⟨rfl,k0⟩
 |.l p,c,c',Q,K,hs,hc=>by
  simp only[Ec] at hs
  have hc:(Option.rec none (fun q=>ckL E call pls cuts J p q.1 q.2) (Vs E call pls cuts J c0 K0 p):CK)=some (c',K):=hc
  cases hsp:Ec ro P c0 Q0 p with
  |none=>rw[hsp] at hs;cases hs
  |some q=>
   rw[hsp] at hs
   obtain⟨d,Qd⟩:=q
   cases hcp:Vs E call pls cuts J c0 K0 p with
   |none=>rw[hcp] at hc;cases hc
   |some z=>
    rw[hcp] at hc
    obtain⟨d',Kd⟩:=z
    obtain⟨rfl,kd⟩:=Vr k0 p hsp hcp
    cases d'<;>simp only[A6a] at hs<;>try cases hs
    · rename_i x y
      cases hc
      have hr:Ec ro P c0 Q0 (.r p)=some (y,Qd):=by simp only[Ec,hsp];rfl
      exact⟨rfl,Ad9 (c:=y) (fun μ f h a w s hg=>Fp hm ok hcall hj hk hnr y (.r p) Qd hr μ f h a w Kd s hg kd) kd⟩
    · cases hc;exact⟨rfl,kd⟩
    · cases hc;exact⟨rfl,Xf kd⟩
    · cases hc;exact⟨rfl,Aar (fun μ f h a w s hg=>Ou hj hsp s hg) kd⟩
    · rename_i x
      cases hc
      refine⟨rfl,Rv (fun l r hf μ f h a w s hg=>?_) kd⟩
      have hll:Ec ro P c0 Q0 (.lab p l)=some (r,Exit.inScope ro P c Qd):=by simp only[Ec,hsp,Te,hf]
      exact Ou hj hll s hg
 |.r p,c,c',Q,K,hs,hc=>by
  simp only[Ec] at hs
  have hc:(Option.rec none (fun q=>ckR q.1 q.2) (Vs E call pls cuts J c0 K0 p):CK)=some (c',K):=hc
  cases hsp:Ec ro P c0 Q0 p with
  |none=>rw[hsp] at hs;cases hs
  |some q=>
   rw[hsp] at hs
   obtain⟨d,Qd⟩:=q
   cases hcp:Vs E call pls cuts J c0 K0 p with
   |none=>rw[hcp] at hc;cases hc
   |some z=>
    rw[hcp] at hc
    obtain⟨d',Kd⟩:=z
    obtain⟨rfl,kd⟩:=Vr k0 p hsp hcp
    cases d'<;>simp only[A59] at hs<;>try cases hs
    · cases hc;exact⟨rfl,kd⟩
    · cases hc;exact⟨rfl,kd⟩
 |.lab p n,c,c',Q,K,hs,hc=>by
  simp only[Ec] at hs
  have hc:(Option.rec none (fun q=>A3u cuts J p n q.1 q.2) (Vs E call pls cuts J c0 K0 p):CK)=some (c',K):=hc
  cases hsp:Ec ro P c0 Q0 p with
  |none=>rw[hsp] at hs;cases hs
  |some q=>
   rw[hsp] at hs
   obtain⟨d,Qd⟩:=q
   cases hcp:Vs E call pls cuts J c0 K0 p with
   |none=>rw[hcp] at hc;cases hc
   |some z=>
    rw[hcp] at hc
    obtain⟨d',Kd⟩:=z
    obtain⟨rfl,kd⟩:=Vr k0 p hsp hcp
    cases d'<;>simp only[Te] at hs<;>try cases hs
    rename_i x
    have hc:(Option.rec none (fun r=>some (r,Zt x (fun l f h=>enter cuts J (.lab p l) f h False) Kd)) (findLabel x n):CK)=some (c',K):=hc
    cases hf:findLabel x n with
    |none=>rw[hf] at hs;cases hs
    |some r=>
     rw[hf] at hs hc
     cases hs;cases hc
     refine⟨rfl,Rv (fun l r hf μ f h a w s hg=>?_) kd⟩
     have hll:Ec ro P c0 Q0 (.lab p l)=some (r,Exit.inScope ro P x Qd):=by simp only[Ec,hsp,Te,hf]
     exact Ou hj hll s hg
end
theorem Adr(hm:P.follows .mixedOrders=true)(ok:Cg P E)(hcall:Fb P (CP E) G (fun p=>p) call)(hk:Gk P E pls N G nr c0=true)(hnr:nr=true→ro=none)(k0:KOk G N μ0 h0 w0 K0 Q0)(Jn:Nat→Jump)(hz:∀L f h,¬Jn 0 L f h)
 (hs:∀n p L,(p,L)∈cuts→∀f h,Jn (n+1) L f h→Il E call pls cuts (Jn n) c0 K0 p f h):∀n,JOk ro P cuts c0 Q0 G N μ0 h0 w0 (Jn n):=by
 intro n
 induction n with
 |zero=>intro p L c Q _ _ μ f h a w _ hL;exact(hz L f h hL).elim
 |succ n ih=>
  intro p L c Q hmm hsem μ f h a w s hL
  have hch:=hs n p L hmm f h hL
  unfold Il at hch
  cases hc:Vs E call pls cuts (Jn n) c0 K0 p with
  |none=>rw[hc] at hch;exact hch.elim
  |some z=>
   rw[hc] at hch
   obtain⟨d,K⟩:=z
   obtain⟨rfl,kk⟩:=Vr hm ok hcall ih hk hnr k0 p hsem hc
   exact As1 hm ok hcall ih hk hnr d p Q hsem s hch kk
end
section
variable{P:Program}{E:Env}{G:Nat}
def SW(P:Program)(G:Nat):CF:=fun fn args h k=>∀(μ:Mu)(w:World)(fn':Fn)(vargs:Array Value),Sim μ h w→Hj μ G→FnR μ fn fn'→VRs μ args vargs.toList→(∃f,fn'=.func f∧
    ((∃v w' μ' av h',(callFunc f vargs).run P w=.ok (.value v) w'∧Sim μ' h' w'∧Dc μ h w μ' h' w'∧VR μ' av v∧k av h')∨
     ((callFunc f vargs).run P w=.ok (.enter f vargs) w∧Calls P f vargs w fun e w'=>∃v μ' av h',e=.returned v∧Sim μ' h' w'∧Dc μ h w μ' h' w'∧VR μ' av v∧k av h')))∨
    Ayp P vargs w fn' fun e w'=>∃v μ' av h',e=.returned v∧Sim μ' h' w'∧Dc μ h w μ' h' w'∧VR μ' av v∧k av h'
theorem Bg:Fb P (CP E) G (fun p=>p) (SW P G):=fun μ _ w _ fn' _ vargs _ s gl hf hv hg=>hg μ w fn' vargs s gl hf hv
theorem A2t{call:CF}(hc:Fb P (CP E) G (fun p=>p) call){fn:Fn}{args:List AV}{h:H}{k:KV}(hg:call fn args h k):SW P G fn args h k:=fun μ w fn' vargs s gl hf hv=>hc μ h w fn fn' args vargs k s gl hf hv hg
theorem Azi{fn:Fn}{args:List AV}{h:H}{k k':KV}(hg:SW P G fn args h k)(hk:∀v h',k v h'→k' v h'):SW P G fn args h k':=fun μ w fn' vargs s gl hf hv=>by
 rcases hg μ w fn' vargs s gl hf hv with⟨f,e,hh⟩|⟨l,F,tmps,as,bd,e,hr,hround⟩
 case inr=>
  refine .inr ⟨l,F,tmps,as,bd,e,hr,hround.mono fun e w' he=>?_⟩
  obtain⟨v,μ',av,h',h3,h4,h5,h6,h7⟩:=he
  exact⟨v,μ',av,h',h3,h4,h5,h6,hk _ _ h7⟩
 refine .inl ⟨f,e,?_⟩
 rcases hh with⟨v,w',μ',av,h',h1,h2,h3,h4,h5⟩|⟨h1,h2⟩
 · exact .inl ⟨v,w',μ',av,h',h1,h2,h3,h4,hk _ _ h5⟩
 · refine .inr ⟨h1,h2.mono fun e w' he=>?_⟩
   obtain⟨v,μ',av,h',h3,h4,h5,h6,h7⟩:=he
   exact⟨v,μ',av,h',h3,h4,h5,h6,hk _ _ h7⟩
theorem Az5(ok:Cg P E){μ:Mu}{N:Nat}{f:FT}{h:H}{a:Act}{w:World}{D:List Deferred}(fr:FR μ N D f a)(s:Sim μ h w){r:ResultVar}{k:AV→Prop}(hg:A6c E f h r k):∃av v,(Atn a.tmps r).run P w=.ok v w∧VR μ av v∧k av:=by
 cases r with
 |tmp t=>exact⟨_,_,rfl,fr.get t,hg⟩
 |cell x t=>
  have hl:=Aig (E:=E) (h:=h) (k:=fun v _=>k v) (t:=t) (a:=f x) hg
  obtain⟨b,off,hp,hl⟩:=Sh (good:=fun p:Prop=>p) (fun h=>h) hl
  obtain⟨i,hi,hl⟩:=Ox (good:=fun p:Prop=>p) (fun h=>h) hl
  have hx:=fr.get x
  rw[hp] at hx
  obtain⟨av,v,hr,hv,hg⟩:=Ade (P:=P) (C:=CP E) (good:=fun p:Prop=>p) ok (fun h=>h) s hi hl hx
  refine⟨av,v,?_,hv,hg⟩
  obtain⟨l,hl,e⟩:=hx
  unfold Instr.loadAt at hr
  simp only[Atn]
  rw[e] at hr ⊢
  exact hr
theorem Zv (ok : Cg P E) {μ : Mu} {N : Nat} {f : FT} {h : H} {a : Act} {w : World} {D : List Deferred} (fr : FR μ N D f a) (s : Sim μ h w) :
    ∀ {rs : List ResultVar} {k : List AV → Prop}, Ac0 E f h rs k → ∃ avs vs, (rs.mapM (Atn a.tmps)).run P w = .ok vs w ∧ VRs μ avs vs ∧ k avs
  | [], k, hg => ⟨[], [], rfl, (rfl : ([] : List Value) = []), hg⟩
  | r :: rs, k, hg => by
    obtain ⟨av, v, h1, h2, hg⟩ := Az5 ok fr s (show A6c E f h r (fun v => Ac0 E f h rs (fun l => k (v :: l))) from hg)
    obtain ⟨avs, vs, h3, h4, hg⟩ := Zv ok fr s hg
    refine ⟨av :: avs, v :: vs, ?_, ⟨v, vs, rfl, h2, h4⟩, hg⟩
    rw [List.mapM_cons, Aa h1, Aa h3]; rfl
theorem Aha{μ:Mu}{avs:List AV}{vs:List Value}(h:VRs μ avs vs):VR μ (Ahb avs) (A2p vs):=by
 match avs,h with
 |[],h=>cases(show vs=[] from h);exact⟨_,rfl,(rfl:([]:List Value)=[])⟩
 |[a],h=>
  obtain⟨v,vs,rfl,h1,h2⟩:=h
  cases(show vs=[] from h2)
  exact h1
 |a::b::l,h=>
  obtain⟨v,vs,rfl,h1,h2⟩:=h
  obtain⟨u,vs,rfl,h2,h3⟩:=h2
  exact⟨_,rfl,v,_,rfl,h1,u,vs,rfl,h2,h3⟩
theorem At.leave{μ0 μ:Mu}{h0 h:H}{w0 w:World}{N:Nat}{f:FT}{a:Act}(st:At G N μ0 h0 w0 μ f h a w){fn:Func}{R:Ending→World→Prop}
 (hR:∀w',Sim μ h w'→Dc μ0 h0 w0 μ h w'→∃v,(results fn a.tmps).run P w'=.ok v w'∧R (.returned v) w'):LeavesInM (Fo none) 0 P fn a.tmps R a.defers .returning w:=by
 obtain⟨rs,e,nd,hh⟩:=st.marks
 rw[e]
 exact Xt rs w nd (fun r hr=>let ⟨a,b,c,_⟩:=hh r hr;⟨a,b,c⟩) st.sim st.ext hR
theorem A3l (hm : P.follows .mixedOrders = true) (ok : Cg P E) {call : CF} (hcall : Fb P (CP E) G (fun p => p) call) (pls : Aq) {fid : FuncId} {fn : Func} {c : Code} (hf : P.funcs[fid]? = some fn) (hb : fn.body = some c) (hname : (fn.name == "runtime.NumGoroutine") = false)
 (hk:Gk P E pls fn.ntmps G true c=true) (k:KV) (cuts:Bb) (Jn:Nat→Jump) (hz:∀L f h,¬Jn 0 L f h)
 (hs:∀n p L,(p,L)∈cuts→∀f h,Jn (n+1) L f h→Il E call pls cuts (Jn n) c (Cr E fn.results.toList k) p f h) (hr:(.root,0)∈cuts) {n:Nat} {args:List AV} {h:H} (hg:Jn n 0 (Ab args) h):SW P G (.func fid) args h k:=by
 intro μ w fn' vargs s gl hfn hv
 have hfn':fn'=.func fid:=by cases fn'<;>simp only[FnR] at hfn<;>first|(cases hfn;rfl)|cases hfn
 refine .inl ⟨fid,hfn',.inr ⟨?_,?_⟩⟩
 · unfold callFunc
   rw[Aa (show program.run P w=.ok P w from rfl),hf]
   simp only[hname,hb,Bool.false_eq_true,if_false]
   rfl
 · have hlen:=hv.length
   simp only[Array.length_toList] at hlen
   have fr:FR μ fn.ntmps [] (Ab args) { tmps:=vargs++Array.replicate (fn.ntmps-vargs.size) undef,defers:=[] }:=by
    refine⟨by simp;omega,fun t=>?_,rfl⟩
    have hi:Ab args t=args.getD t .undef:=Afz.init args t
    rw[hi]
    simp only[Array.getD_eq_getD_getElem?,Array.getElem?_append]
    by_cases ht:t<vargs.size
    · rw[if_pos ht]
      have ha:args[t]? =some (args[t]'(by omega)):=List.getElem?_eq_getElem (by omega)
      obtain⟨v,hv',hr⟩:=hv.get t _ ha
      rw[List.getD_eq_getElem?_getD,ha,←Array.getElem?_toList,hv']
      exact hr
    · rw[if_neg ht,List.getD_eq_getElem?_getD,List.getElem?_eq_none (by omega)]
      have:(Array.replicate (fn.ntmps-vargs.size) undef)[t-vargs.size]?.getD undef=undef:=by
       rw[Array.getElem?_replicate];split<;>rfl
      rw[this]
      exact VR.undef μ
   refine callsIn_wide.1 (callsIn_of_wp_marks (F:=Fo none) (n:=0) hf hb trivial (CWp.wp (ro:=none) ?_))
   have k0:KOk G fn.ntmps μ h w (Cr E fn.results.toList k) (bodyPostM (Fo none) 0 P fn fun e w'=>∃v μ' av h',e=.returned v∧Sim μ' h' w'∧Dc μ h w μ' h' w'∧VR μ' av v∧k av h'):=by
    intro x μ' f' h' a' w' st hx
    have fin:Ac0 E f' h' fn.results.toList (fun l=>k (Ahb l) h')→LeavesInM (Fo none) 0 P fn a'.tmps (fun e w'=>∃v μ' av h',e=.returned v∧Sim μ' h' w'∧Dc μ h w μ' h' w'∧VR μ' av v∧k av h') a'.defers .returning w':=by
     intro hg
     refine st.leave fun w'' s'' x''=>?_
     obtain⟨avs,vs,h1,h2,hg⟩:=Zv (P:=P) ok st.fr s'' hg
     exact⟨_,Qp h1,_,μ',_,h',rfl,s'',x'',Aha h2,hg⟩
    cases x with
    |normal=>exact fin hx
    |ret=>exact fin hx
    |exit id=>exact hx.elim
    |goto l=>exact hx.elim
   exact Adr hm ok hcall hk (fun _=>rfl) k0 Jn hz hs n .root 0 c _ hr rfl μ _ h _ w ⟨fr,.nil,s,.refl _ _ _,gl⟩ hg
def Aah(P:Program)(E:Env)(G:Nat)(s:LpS):Bool:=An (Gk P E s.pls s.n G false s.assign) (An (Gk P E s.pls s.n G false s.body) (s.params.all fun t=>Nat.blt t s.n))
theorem Ahh {μ : Mu} {N : Nat} : ∀ (ps : List Tmp) (args : List AV) (vs : List Value) (f : FT) (ts : Array Value), ps.all (fun t => Nat.blt t N) = true → ps.length = args.length → VRs μ args vs → N ≤ ts.size → (∀ t, VR μ (f t) (ts.getD t undef)) →
    N ≤ ((ps.zip vs).foldl (fun ts p => ts.setIfInBounds p.1 p.2) ts).size ∧ ∀ t, VR μ (Uh ps args f t) (((ps.zip vs).foldl (fun ts p => ts.setIfInBounds p.1 p.2) ts).getD t undef)
  | [], args, vs, f, ts, _, _, _, hn, hf => ⟨hn, hf⟩
  | p :: ps, [], vs, f, ts, _, hl, _, _, _ => by cases hl
  | p :: ps, v :: args, vs, f, ts, hp, hl, hv, hn, hf => by
    obtain ⟨u, us, rfl, h1, h2⟩ := hv
    rw [List.all_cons, Bool.and_eq_true] at hp
    have hp1 : p < N := by simpa using hp.1
    refine Ahh ps args us (Ao f p v) (ts.setIfInBounds p u) hp.2 (by simpa using hl) h2 (by simpa using hn) fun t => ?_
    rw [Hr, Aiv _ _ _ _ (Nat.lt_of_lt_of_le hp1 hn)]
    by_cases e : t = p
    · rw [if_pos e, if_pos e]; exact h1
    · rw [if_neg e, if_neg e]; exact hf t
theorem Ty(hm:P.follows .mixedOrders=true)(ok:Cg P E){call:CF}(hcall:Fb P (CP E) G (fun p=>p) call){n:Nat}{args:List AV}{h:H}{k:KV}(hg:Tc E call (Aah P E G) n args h k):SW P G (.yield n) args h k:=by
 intro μ w fn' vargs s gl hfn hv
 obtain⟨hb,hg⟩:=Fq hg
 have hp:pFs n n=pOf n:=Go.Den.P.Yu (by rw[Yt];exact Bo hb)
 rw[hp] at hg
 obtain⟨m,rfl,q,hq,rfl⟩:∃m,fn'=.yield m∧∃q,μ (pOf n)=some q∧m=q.blk:=by
  cases fn'<;>first|exact⟨_,rfl,hfn⟩|exact hfn.elim
 obtain⟨f,lp,st,pd,hat,hg⟩:=Vw hg
 obtain⟨hc,hg⟩:=Fq hg
 obtain⟨hok,hlen⟩:=Al hc
 obtain⟨hoa,hok⟩:=Al hok
 obtain⟨hob,hps⟩:=Al hok
 have ho:=s.ob (pOf n) q (by rw[hat];nofun) hq
 rw[hat] at ho
 obtain⟨r,hr,hst,hpd,hrp,has,hbd,hn,hget⟩:=ho
 have hl:lp.params.length=args.length:=by
  have:=Bo hlen;rw[De,De] at this;exact this.symm
 have hlv:=hv.length
 have hsz:vargs.size=r.params.size:=by
  have:r.params.toList.length=lp.params.length:=by rw[hrp]
  simp only[Array.length_toList] at this hlv;omega
 refine .inr ⟨q.blk,r.fn,_,r.assign,r.body,rfl,run_yield hr hsz,?_⟩
 refine roundIn_of_wpIn trivial ?_
 have hfold:(r.params.zip vargs).foldl (fun tmps (t,a)=>tmps.setIfInBounds t a) r.tmps=(lp.params.zip vargs.toList).foldl (fun ts p=>ts.setIfInBounds p.1 p.2) r.tmps:=by
  rw[←Array.foldl_toList,Array.toList_zip,hrp]
 obtain⟨hsz2,hget2⟩:=Ahh (μ:=μ) lp.params args vargs.toList f r.tmps hps hl hv hn hget
 rw[hfold,has,hbd]
 have st0:At G lp.n μ h w μ (Uh lp.params args f) h { tmps:=(lp.params.zip vargs.toList).foldl (fun ts p=>ts.setIfInBounds p.1 p.2) r.tmps,defers:=[] } w:=⟨⟨hsz2,hget2,rfl⟩,.nil,s,.refl _ _ _,gl⟩
 have hj:∀c0 Q0,JOk (some q.blk) P [] c0 Q0 G lp.n μ h w noJ:=fun _ _ p L c Q hm=>by cases hm
 refine CWp.wp (ro:=some q.blk) (Fp hm ok hcall (pls:=lp.pls) (cuts:=[]) (J:=noJ) (c0:=lp.assign) (N:=lp.n) (hj _ _) hoa (fun e=>by cases e) lp.assign .root _ rfl μ _ h _ w _ st0 hg ?_)
 intro x μ1 f1 h1 a1 w1 st1 hx
 cases x with
 |exit id=>exact hx.elim
 |goto l=>exact hx.elim
 |ret=>exact hx.elim
 |normal=>
  obtain⟨f',lp',st',pd',hat',hx⟩:=Vw hx
  obtain⟨hrdy,hx⟩:=Fq hx
  rw[Gw] at hx
  have hq1:=st1.ext.le _ _ hq
  have ho:=st1.sim.ob (pOf n) q (by rw[hat'];nofun) hq1
  rw[hat'] at ho
  obtain⟨r1,hr1,hst1,hpd1,hrp1,has1,hbd1,hn1,hget1⟩:=ho
  have hready:r1.state=.ready:=by rw[hst1];cases st'<;>first|rfl|cases hrdy
  refine⟨_,run_beginRound hr1 hready,?_⟩
  have hlt:q.blk<w1.heap.size:=(Array.getElem?_eq_some_iff.1 hr1).1
  obtain⟨s2,x2⟩:=st1.sim.put (b:=pOf n) (by rw[hat'];rfl) hq1 (.loop f' lp' .busy pd') (w1.putObj q.blk (.loop { r1 with state:=.busy })) World.putObj_size (fun k hk=>World.putObj_heap_other hk) ⟨_,World.putObj_heap_same hlt,rfl,hpd1,hrp1,has1,hbd1,hn1,hget1⟩ rfl rfl rfl
  have st2:=st1.next (st1.fr.mono x2.le) s2 x2
  refine CWp.wp (ro:=some q.blk) (Fp hm ok hcall (pls:=lp.pls) (cuts:=[]) (J:=noJ) (c0:=lp.body) (N:=lp.n) (hj _ _) hob (fun e=>by cases e) lp.body .root _ rfl _ _ _ _ _ _ st2 hx ?_)
  intro x μ3 f3 h3 a3 w3 st3 hx
  obtain⟨f4,lp4,st4,pd4,hat4,hx⟩:=Vw hx
  have hq3:=st3.ext.le _ _ hq
  have ho:=st3.sim.ob (pOf n) q (by rw[hat4];nofun) hq3
  rw[hat4] at ho
  obtain⟨r3,hr3,hst3,hpd3,hrp3,has3,hbd3,hn3,hget3⟩:=ho
  have hlt3:q.blk<w3.heap.size:=(Array.getElem?_eq_some_iff.1 hr3).1
  have fin:∀(jc:AX),k (.bool (codeOf jc).isNone) (h3.put (pOf n) (.loop f4 lp4 (if(codeOf jc).isNone then .ready else .done) jc))→
   ∃v w',(Instr.endRound q.blk (codeOf jc)).run P w3=.ok v w'∧∃v' μ' av h',Ending.returned v=.returned v'∧Sim μ' h' w'∧Dc μ h w μ' h' w'∧VR μ' av v'∧k av h':=by
   intro jc hk
   obtain⟨s4,x4⟩:=st3.sim.put (b:=pOf n) (by rw[hat4];rfl) hq3 (.loop f4 lp4 (if(codeOf jc).isNone then .ready else .done) jc) (w3.putObj q.blk (.loop { r3 with state:=if(codeOf jc).isNone then .ready else .done,pending:=codeOf jc })) World.putObj_size (fun k hk=>World.putObj_heap_other hk) ⟨_,World.putObj_heap_same hlt3,rfl,rfl,hrp3,has3,hbd3,hn3,hget3⟩ rfl rfl rfl
   exact⟨_,_,run_endRound (codeOf jc) hr3,_,μ3,.bool (codeOf jc).isNone,_,rfl,s4,st3.ext.trans x4,rfl,hk⟩
  have pk:∀st' jc b,Hp.Kl h3 (pOf n) (.loop f4 lp4 st' jc) (fun h=>k (.bool b) h)→k (.bool b) (h3.put (pOf n) (.loop f4 lp4 st' jc)):=fun _ _ _ hh=>by rw[Gw] at hh;exact hh
  cases x with
  |normal=>exact fin .normal (pk _ _ _ hx)
  |exit id=>exact fin (.exit id) (pk _ _ _ hx)
  |goto l=>exact fin (.goto l) (pk _ _ _ hx)
  |ret=>exact fin .ret (pk _ _ _ hx)
def SWD(P:Program)(G:Nat)(fid:FuncId)(args:List AV)(h:H)(k:KV):Prop:=∀(μ:Mu)(w:World)(vargs:Array Value)(u:FrameMode),Sim μ h w→Hj μ G→VRs μ args vargs.toList→
 (callFunc fid vargs).run P w=.ok (.enter fid vargs) w∧CallsDIn (Fo none) 0 P fid vargs u w fun e u' w'=>u'=u∧∃v μ' av h',e=.returned v∧Sim μ' h' w'∧Dc μ h w μ' h' w'∧VR μ' av v∧k av h'
theorem Apu {fn : Func} {tmps : Array Value} {R : Ending → World → Prop} : ∀ (rs : List Nat) (w : World) (fr : Frame) (cs : List Frame), fr.mode = .returning → fr.defers = rs.map Ja → fr.tmps = tmps → P.funcs[fr.fn]? = some fn → fr.kind = .deferred →
    LeavesInM (Fo none) 0 P fn tmps R (rs.map Ja) .returning w → ∃ v w' fr', R (.returned v) w' ∧ StepsIn (Machine.fenced P (Fo none)) P (lone fr cs w) (lone fr' cs w') ∧ fr'.kind = .deferred ∧ fr'.fn = fr.fn ∧ fr'.going P w' (.returned v)
  | [], w, fr, cs, hm, hd, ht, hf, hk, h => by
    obtain ⟨v, hr, hR⟩ := h
    exact ⟨v, w, fr, hR, StepsIn.refl _, hk, rfl, hm, hd, fn, hf, ht ▸ hr⟩
  | r :: rs, w, fr, cs, hm, hd, ht, hf, hk, h => by
    obtain ⟨hrun, h⟩ := h
    rcases h with ⟨r', w', htar, htake, hrest⟩ | ⟨_, fv, cap, f, args, htar, _⟩
    · have h1 := step_collected (cs := cs) (P := P) (w := w) (by rw [hm]; exact fun e => by cases e) hd htar htake
      obtain ⟨v, w'', fr', hR, hs, hk', hfn, hg⟩ := Apu rs w' { fr with defers := [] ++ rs.map Ja } cs hm rfl ht hf hk hrest
      exact ⟨v, w'', fr', hR, StepsIn.trans (.one calm h1) hs, hk', hfn, hg⟩
    · cases htar
theorem Abl{f:FuncId}{fn:Func}{c:Code}{args:Array Value}{u:FrameMode}{w:World}{R:Ending→World→Prop}(hf:P.funcs[f]? =some fn)(hb:fn.body=some c)
 (_hR:∀e w,R e w→∃v,e=.returned v) (h:c.wpIn (Fo none) 0 P (fun e a w=>(e=.normal∨e=.ret)∧∃rs:List Nat,a.defers=rs.map Ja∧LeavesInM (Fo none) 0 P fn a.tmps R (rs.map Ja) .returning w) { tmps:=args++Array.replicate (fn.ntmps-args.size) undef,defers:=[] } w):
 CallsDIn (Fo none) 0 P f args u w fun e u' w'=>u'=u∧R e w':=by
 refine⟨trivial,fun c₀ cs hu hr=>?_⟩
 let b:Frame:={ (default:Frame) with fn:=f,kind:=.deferred,roundOf:=none }
 have henter:Frame.enter P f args .deferred=b.atR { tmps:=args++Array.replicate (fn.ntmps-args.size) undef,defers:=[] } [.code c]:=by
  simp[Frame.enter,Frame.atR,hf,hb,b]
 have hc:({ c₀ with mode:=u }:Frame)=c₀:=by subst hu;rfl
 obtain⟨e,a',w',⟨hq,rs,hds,hlv⟩,harr⟩:=h b [] (c₀::cs) rfl trivial hr
 rw[←henter] at harr
 have fin:∀todo,StepsIn (Machine.fenced P (Fo none)) P (lone (Frame.enter P f args .deferred) (c₀::cs) w) (lone { b.atR a' todo with mode:=.returning } (c₀::cs) w')→
  ∃e u' w' fr,(u'=u∧R e w')∧ComesIn (Machine.fenced P (Fo none)) P (lone (Frame.enter P f args .deferred) (c₀::cs) w) (lone fr ({ c₀ with mode:=u' }::cs) w') e∧fr.kind=.deferred∧fr.fn=f∧fr.going P w' e:=by
  intro todo hs
  obtain⟨v,w'',fr',hR',hs',hk',hfn',hg'⟩:=Apu rs w' { b.atR a' todo with mode:=.returning } (c₀::cs) rfl hds rfl hf rfl hlv
  exact⟨.returned v,u,w'',fr',⟨rfl,hR'⟩,by rw[hc];exact StepsIn.trans hs hs',hk',hfn',hg'⟩
 rcases hq with rfl|rfl
 · exact fin [] (StepsIn.trans harr (.one (fenced_calm (fr:=b.atR a' []) trivial hr rfl) (stepR_end rfl)))
 · obtain⟨todo,hs⟩:=harr.1 rfl
   exact fin todo hs
theorem Acx {fid : FuncId} {fn : Func} {c : Code} (hf : P.funcs[fid]? = some fn) (hb : fn.body = some c) (hname : (fn.name == "runtime.NumGoroutine") = false) (args : Array Value) (w : World) : (callFunc fid args).run P w = .ok (.enter fid args) w := by
 unfold callFunc
 rw[Aa (show program.run P w=.ok P w from rfl),hf]
 simp only[hname,hb,Bool.false_eq_true,if_false]
 rfl
theorem fr0{μ:Mu}{fn:Func}{args:List AV}{vargs:Array Value}(hv:VRs μ args vargs.toList):FR μ fn.ntmps [] (Ab args) { tmps:=vargs++Array.replicate (fn.ntmps-vargs.size) undef,defers:=[] }:=by
 have hlen:=hv.length
 simp only[Array.length_toList] at hlen
 refine⟨by simp;omega,fun t=>?_,rfl⟩
 have hi:Ab args t=args.getD t .undef:=Afz.init args t
 rw[hi]
 simp only[Array.getD_eq_getD_getElem?,Array.getElem?_append]
 by_cases ht:t<vargs.size
 · rw[if_pos ht]
   have ha:args[t]? =some (args[t]'(by omega)):=List.getElem?_eq_getElem (by omega)
   obtain⟨v,hv',hr⟩:=hv.get t _ ha
   rw[List.getD_eq_getElem?_getD,ha,←Array.getElem?_toList,hv']
   exact hr
 · rw[if_neg ht,List.getD_eq_getElem?_getD,List.getElem?_eq_none (by omega)]
   have:(Array.replicate (fn.ntmps-vargs.size) undef)[t-vargs.size]?.getD undef=undef:=by
    rw[Array.getElem?_replicate];split<;>rfl
   rw[this]
   exact VR.undef μ
theorem A8v (hm : P.follows .mixedOrders = true) (ok : Cg P E) {call : CF} (hcall : Fb P (CP E) G (fun p => p) call) (pls : Aq) {fid : FuncId} {fn : Func} {c : Code} (hf : P.funcs[fid]? = some fn) (hb : fn.body = some c) (hname : (fn.name == "runtime.NumGoroutine") = false)
 (hk:Gk P E pls fn.ntmps G true c=true) (k:KV) (cuts:Bb) (Jn:Nat→Jump) (hz:∀L f h,¬Jn 0 L f h)
 (hs:∀n p L,(p,L)∈cuts→∀f h,Jn (n+1) L f h→Il E call pls cuts (Jn n) c (Cr E fn.results.toList k) p f h) (hr:(.root,0)∈cuts) {n:Nat} {args:List AV} {h:H} (hg:Jn n 0 (Ab args) h):SWD P G fid args h k:=by
 intro μ w vargs u s gl hv
 refine⟨Acx hf hb hname _ _,Abl hf hb (fun e w' ⟨v,_,_,_,he,_⟩=>⟨v,he⟩) (CWp.wp (ro:=none) ?_)⟩
 have k0:KOk G fn.ntmps μ h w (Cr E fn.results.toList k) (fun e a w'=>(e=.normal∨e=.ret)∧∃rs:List Nat,a.defers=rs.map Ja∧LeavesInM (Fo none) 0 P fn a.tmps (fun e w'=>∃v μ' av h',e=.returned v∧Sim μ' h' w'∧Dc μ h w μ' h' w'∧VR μ' av v∧k av h') (rs.map Ja) .returning w'):=by
  intro x μ' f' h' a' w' st hx
  have fin:Ac0 E f' h' fn.results.toList (fun l=>k (Ahb l) h')→∃rs:List Nat,a'.defers=rs.map Ja∧LeavesInM (Fo none) 0 P fn a'.tmps (fun e w'=>∃v μ' av h',e=.returned v∧Sim μ' h' w'∧Dc μ h w μ' h' w'∧VR μ' av v∧k av h') (rs.map Ja) .returning w':=by
   intro hg
   have hlv:=st.leave (fn:=fn) (R:=fun e w'=>∃v μ' av h',e=.returned v∧Sim μ' h' w'∧Dc μ h w μ' h' w'∧VR μ' av v∧k av h') fun w'' s'' x''=>by
    obtain⟨avs,vs,h1,h2,hg⟩:=Zv (P:=P) ok st.fr s'' hg
    exact⟨_,Qp h1,_,μ',_,h',rfl,s'',x'',Aha h2,hg⟩
   obtain⟨rs,e,_,_⟩:=st.marks
   rw[e] at hlv
   exact⟨rs,e,hlv⟩
  cases x with
  |normal=>exact⟨.inl rfl,fin hx⟩
  |ret=>exact⟨.inr rfl,fin hx⟩
  |exit id=>exact hx.elim
  |goto l=>exact hx.elim
 exact Adr hm ok hcall hk (fun _=>rfl) k0 Jn hz hs n .root 0 c _ hr rfl μ _ h _ w ⟨fr0 hv,.nil,s,.refl _ _ _,gl⟩ hg
def To(l:List Oper):Its:=List.rec .nil (fun o _ ih=>.op o ih) l
theorem Adh:∀l:List Oper,(To l).flat=l
 |[]=>rfl
 |o::l=>by show o::(To l).flat=_;rw[Adh l]
def Aui(E:Env)(call:CF)(l0 p1 l2 p3 l4:List Oper)(t1 c t3:Operand)(D1 D3:List AV→H→KV→Prop)(f:FT)(h:H)(k:KV):Prop:=
 Gh E call (To l0) f h fun f h=>Gh E call (To p1) f h fun f1 h=>Gh E call (To l2) f1 h fun f h=>asB (eval' E c f) fun t=>
  Bool.rec (D1 [eval' E t1 f1] h fun _ h=>k .undef h)
   (Gh E call (To p3) f h fun f3 h=>Gh E call (To l4) f3 h fun _ h=>D3 [eval' E t3 f3,.bool true] h fun _ h=>D1 [eval' E t1 f1] h fun _ h=>k .undef h) t
theorem Uy(ok:Cg P E){call:CF}(hcall:Fb P (CP E) G (fun p=>p) call){ops:Array Oper}{l rest:List Oper}{N:Nat}{D:List Deferred}(hk:Iq P E N G ops.toList (To l) none [] []=true){Q:QT}{μ:Mu}{f:FT}{h:H}{a:Act}{w:World}{K:FT→H→Prop}
 (fr:FR μ N D f a) (s:Sim μ h w) (gl:Hj μ G) (hg:Gh E call (To l) f h K)
 (hn:∀μ' f' h' a' w',FR μ' N D f' a'→Sim μ' h' w'→Dc μ h w μ' h' w'→Hj μ' G→K f' h'→wpListIn (Fo none) 0 P ops Q rest a' w'):wpListIn (Fo none) 0 P ops Q (l++rest) a w:=by
 have:=Wt (ro:=none) (Q:=Q) (rest:=rest) ok hcall (To l) (gs:=[]) hk fr s gl (fun g hg=>by simp at hg) hg (fun μ' f' h' a' w' fr' s' x' _ _ hK=>hn μ' f' h' a' w' fr' s' x' (gl.mono x'.le) hK)
 rwa [Adh] at this
theorem Ajb{ops:Array Oper}{o:Oper}{u:FuncId}{os:Array Operand}{ats:Array TypeId}(ho:o.op=.defer ⟨.value (.func u),os,ats⟩)(hg:o.guard=none)(hd:o.dst=none){Q:QT}{a:Act}{w:World}
 (h:Q .normal { a with defers:={ target:=.fn (.func u) #[],args:=os.map a.eval }::a.defers } w):wpListIn (Fo none) 0 P ops Q [o] a w:=by
 unfold wpListIn
 rw[if_pos (by unfold Region.wanted;rw[hg])]
 refine⟨fun _ _=>trivial,?_⟩
 rw[show(Fo none).round=none from rfl,Oper.semAt_none]
 have he:execOp a.eval o=(do pure (.defer (←resolve a.eval ⟨.value (.func u),os,ats⟩ o.type))):=by
  obtain⟨dst,op,type,pos,after,guard⟩:=o
  cases ho;rfl
 have hr:resolve a.eval ⟨.value (.func u),os,ats⟩ o.type=pure { target:=.fn (.func u) #[],args:=#[]++os.map a.eval }:=rfl
 rw[he,hr,Aa run_pure,Array.empty_append]
 show wpListIn (Fo none) 0 P ops Q [] (Act.put _ o.dst undef) w
 rw[hd]
 exact h
theorem A0j(ok:Cg P E){call:CF}(hcall:Fb P (CP E) G (fun p=>p) call){fid u1 u3:FuncId}{fn:Func}{i0 i1 i2 i3 i4:Nat}{o0 o1 o2 o3 o4:Array Oper}{d1 d3:Oper}{p1 p3:List Oper}{t1 c t3:Operand}{a1 a3:Array TypeId}
 (hf : P.funcs[fid]? = some fn) (hb : fn.body = some (.seq (.region i0 o0 false) (.seq (.region i1 o1 false) (.seq (.region i2 o2 false) (.cond c (.seq (.region i3 o3 false) (.region i4 o4 false)) .skip))))) (hname : (fn.name == "runtime.NumGoroutine") = false) (hres : fn.results = #[])
 (e1:o1.toList=p1++[d1]) (e3:o3.toList=p3++[d3]) (hd1:d1.op=.defer ⟨.value (.func u1),#[t1],a1⟩∧d1.guard=none∧d1.dst=none) (hd3:d3.op=.defer ⟨.value (.func u3),#[t3,.const (.bool true)],a3⟩∧d3.guard=none∧d3.dst=none)
 (k0:Iq P E fn.ntmps G o0.toList (To o0.toList) none [] []=true) (k1:Iq P E fn.ntmps G o1.toList (To p1) none [] []=true) (k2:Iq P E fn.ntmps G o2.toList (To o2.toList) none [] []=true) (k3:Iq P E fn.ntmps G o3.toList (To p3) none [] []=true) (k4:Iq P E fn.ntmps G o4.toList (To o4.toList) none [] []=true)
 (q1:Eu G t1=true) (qc:Eu G c=true) (q3:Eu G t3=true) {D1 D3:List AV→H→KV→Prop} (s1:∀args h k,D1 args h k→SWD P G u1 args h k) (s3:∀args h k,D3 args h k→SWD P G u3 args h k)
 {args:List AV} {h:H} {k:KV} (hg:Aui E call o0.toList p1 o2.toList p3 o4.toList t1 c t3 D1 D3 (Ab args) h k):SW P G (.func fid) args h k:=by
 intro μ w fn' vargs s gl hfn hv
 have hfn':fn'=.func fid:=by cases fn'<;>simp only[FnR] at hfn<;>first|(cases hfn;rfl)|cases hfn
 refine .inl ⟨fid,hfn',.inr ⟨Acx hf hb hname _ _,callsIn_wide.1 (callsIn_of_wp_marks (F:=Fo none) (n:=0) hf hb trivial ?_)⟩⟩
 have hrs:∀(tmps:Array Value) w,(results fn tmps).run P w=.ok (.tuple #[]) w:=fun tmps w=>Qp (vs:=[]) (by rw[hres];rfl)
 -- the last deferred call
 have last:∀{μ1:Mu}{h1:H}{w1:World}{v:Value}{av:AV}{tmps:Array Value},Sim μ1 h1 w1→Dc μ h w μ1 h1 w1→VR μ1 av v→D1 [av] h1 (fun _ h=>k .undef h)→
  LeavesInM (Fo none) 0 P fn tmps (fun e w'=>∃v μ' av h',e=.returned v∧Sim μ' h' w'∧Dc μ h w μ' h' w'∧VR μ' av v∧k av h') [{ target:=.fn (.func u1) #[],args:=#[v] }] .returning w1:=by
  intro μ1 h1 w1 v av tmps s' x' hv' hD
  obtain⟨hen,hcd⟩:=s1 _ _ _ hD μ1 w1 #[v] .returning s' (gl.mono x'.le) ⟨v,[],rfl,hv',rfl⟩
  refine⟨(fun e=>by cases e),.inr ⟨fun h=>Bool.noConfusion h,.func u1,#[],u1,_,rfl,hen,fun _ _=>trivial,hcd.mono fun e u' w' he=>?_⟩⟩
  obtain⟨rfl,v',μ',av',h',rfl,s2,x2,_,hk⟩:=he
  exact⟨_,hrs _ _,_,μ',.undef,h',rfl,s2,x'.trans x2,VR.undef μ',hk⟩
 refine wpIn_seq (wpIn_region_list ?_)
 rw[←List.append_nil o0.toList]
 refine Uy ok hcall k0 (fr0 hv) s gl hg fun μ0 f0 h0 a0 w0 fr0' s0 x0 gl0 hg=>?_
 refine wpIn_seq (wpIn_region_list ?_)
 rw[e1]
 refine Uy ok hcall k1 fr0' s0 gl0 hg fun μ1 f1 h1 a1' w1 fr1 s1' x1 gl1 hg=>?_
 refine Ajb hd1.1 hd1.2.1 hd1.2.2 ?_
 have hv1:=fr1.eval (E:=E) gl1 q1
 have fr1':FR μ1 fn.ntmps [{ target:=.fn (.func u1) #[],args:=#[t1].map a1'.eval }] f1 { a1' with defers:={ target:=.fn (.func u1) #[],args:=#[t1].map a1'.eval }::a1'.defers }:=⟨fr1.size,fr1.get,by rw[fr1.defs]⟩
 refine wpIn_seq (wpIn_region_list ?_)
 rw[←List.append_nil o2.toList]
 refine Uy ok hcall k2 fr1' s1' gl1 hg fun μ2 f2 h2 a2 w2 fr2 s2 x2 gl2 hg=>?_
 obtain⟨t,ht,hg⟩:=Gx hg
 have hvc:=fr2.eval (E:=E) gl2 qc
 rw[ht] at hvc
 refine wpIn_cond (t:=t) hvc ?_
 have m1:#[t1].map a1'.eval=#[a1'.eval t1]:=by simp
 cases t with
 |false=>
  refine wpIn_skip ?_
  show LeavesInM (Fo none) 0 P fn a2.tmps _ a2.defers .returning w2
  rw[fr2.defs,m1]
  exact last s2 ((x0.trans x1).trans x2) (VR.mono x2.le _ _ hv1) hg
 |true=>
  refine wpIn_seq (wpIn_region_list ?_)
  rw[e3]
  refine Uy ok hcall k3 fr2 s2 gl2 hg fun μ3 f3 h3 a3' w3 fr3 s3' x3 gl3 hg=>?_
  refine Ajb hd3.1 hd3.2.1 hd3.2.2 ?_
  have hv3:=fr3.eval (E:=E) gl3 q3
  have m3:#[t3,.const (.bool true)].map a3'.eval=#[a3'.eval t3,.bool true]:=by simp[Act.eval]
  have fr3':FR μ3 fn.ntmps [{ target:=.fn (.func u3) #[],args:=#[t3,.const (.bool true)].map a3'.eval },{ target:=.fn (.func u1) #[],args:=#[t1].map a1'.eval }] f3 { a3' with defers:={ target:=.fn (.func u3) #[],args:=#[t3,.const (.bool true)].map a3'.eval }::a3'.defers }:=⟨fr3.size,fr3.get,by rw[fr3.defs]⟩
  refine wpIn_region_list ?_
  rw[←List.append_nil o4.toList]
  refine Uy ok hcall k4 fr3' s3' gl3 hg fun μ4 f4 h4 a4 w4 fr4 s4 x4 gl4 hg=>?_
  show LeavesInM (Fo none) 0 P fn a4.tmps _ a4.defers .returning w4
  rw[fr4.defs,m1,m3]
  have x04:=(((x0.trans x1).trans x2).trans x3).trans x4
  obtain⟨hen,hcd⟩:=s3 _ _ _ hg μ4 w4 #[a3'.eval t3,.bool true] .returning s4 gl4 ⟨_,_,rfl,VR.mono x4.le _ _ hv3,_,[],rfl,rfl,rfl⟩
  refine⟨(fun e=>by cases e),.inr ⟨fun h=>Bool.noConfusion h,.func u3,#[],u3,_,rfl,hen,fun _ _=>trivial,hcd.mono fun e u' w' he=>?_⟩⟩
  obtain⟨rfl,v',μ',av',h',rfl,s5,x5,_,hk⟩:=he
  exact last s5 (x04.trans x5) (VR.mono (x3.le.trans (x4.le.trans x5.le)) _ _ (VR.mono x2.le _ _ hv1)) hk
theorem A8y{fid:FuncId}{e:Ext}(he:∀(args:Array Value)(w:World),(callFunc fid args).run P w=(do pure (.value (←Rc e args)):Sem Next).run P w){args:List AV}{h:H}{k:KV}(hn:∀n,A80 e=some n→args.length=n)(hg:oK (Gl e args h) k):SW P G (.func fid) args h k:=by
 intro μ w fn' vargs s gl hfn hv
 have hfn':fn'=.func fid:=by cases fn'<;>simp only[FnR] at hfn<;>first|(cases hfn;rfl)|cases hfn
 obtain⟨v,h',h1,h2⟩:=Auo hg
 obtain⟨u,w',μ',hr,s',x',hvr⟩:=A1i (P:=P) s hv hn h1
 refine .inl ⟨fid,hfn',.inl ⟨u,w',μ',v,h',?_,s',x',hvr,h2⟩⟩
 rw[he,Aa hr];rfl
end
end Go.Den
namespace Go.Den
open Go.RowKit
theorem Tq{α:Type}(d:α)(l:List α):∀(i:Nat)(t:Tr α)(k:Nat),Tr.Kr d (Aan d l i t) k=if i≤k∧k<i+l.length then l.getD (k-i) d else Tr.Kr d t k:=by
 induction l with
 |nil=>intro i t k;rw[if_neg (by simp)];rfl
 |cons v l ih=>
  intro i t k
  show Tr.Kr d (Aan d l (i+1) (Tr.Ab2 d v t i)) k=_
  rw[ih,Tr.Adj]
  by_cases h1:k=i
  · subst h1
    rw[if_neg (by omega),if_pos rfl,if_pos (by simp)]
    simp
  · rw[if_neg h1]
    by_cases h2:i+1≤k∧k<i+1+l.length
    · rw[if_pos h2,if_pos (by simp only[List.length_cons];omega)]
      have:k-i=(k-(i+1))+1:=by omega
      rw[this];rfl
    · rw[if_neg h2,if_neg (by simp only[List.length_cons];omega)]
def A0k(p:Program)(t:TypeId)(i:TypeInfo):Bool:=
 match p.underlying t,i.zero with
 |some d,some z=>z.cells.toList.all Yo&&((z.cells.toList.map ofValue).all AV.one&&(match z with|.agg _=>Zd d|_=>!Zd d)&&(match d with|.struct fs=>fs.toList.all (fun f=>decide (f.type<p.types.size)&&!Aj4 p f.type)|_=>true))
 |_,_=>false
def A24(p:Program):Bool:=p.types.toList.zipIdx.all fun q=>Aj4 p q.2||A0k p q.2 q.1
theorem Ai8{p:Program}{x:List (Nat×Ext)}{t:TypeId}{i:TI}(h:(Ai9 p x).ty t=some i):∃ti,p.types[t]? =some ti∧i=Zl p t ti∧Aj4 p t=false:=by
 have h:Tr.Kr none (Aan none (p.types.toList.zipIdx.map fun q=>tiO p q.2 q.1) 0 .e) t=some i:=h
 rw[Tq] at h
 split at h
 · rename_i hb
   simp only[Nat.zero_le,Nat.zero_add,List.length_map,List.length_zipIdx,Array.length_toList,true_and] at hb
   rw[Nat.sub_zero,List.getD_eq_getElem?_getD,List.getElem?_map,List.getElem?_zipIdx] at h
   have e:p.types.toList[t]? =some (p.types[t]):=by simp[hb]
   rw[e] at h
   refine⟨p.types[t],by simp[hb],?_⟩
   simp at h
   unfold tiO at h
   cases e2:Aj4 p t with
   |true=>rw[e2] at h;cases h
   |false=>rw[e2] at h;cases h;exact⟨rfl,rfl⟩
 · rw[Tr.Afy] at h;cases h
theorem Ai7{p:Program}{x:List (Nat×Ext)}{t:TypeId}(h:t<p.types.size)(hn:Aj4 p t=false):∃j,(Ai9 p x).ty t=some j:=by
 refine⟨Zl p t p.types[t],?_⟩
 show Tr.Kr none (Aan none (p.types.toList.zipIdx.map fun q=>tiO p q.2 q.1) 0 .e) t=_
 rw[Tq,if_pos (by simpa using h),Nat.sub_zero,List.getD_eq_getElem?_getD,List.getElem?_map,List.getElem?_zipIdx]
 have e:p.types.toList[t]? =some (p.types[t]):=by simp[h]
 rw[e];simp[tiO,hn]
theorem Awk{p:Program}{x:List (Nat×Ext)}{f:FuncId}{fn:Func}(h:(Ai9 p x).fn f=some fn):p.funcs[f]? =some fn:=by
 have h:Tr.Kr none (Aan none (p.funcs.toList.map some) 0 .e) f=some fn:=h
 rw[Tq] at h
 split at h
 · rename_i hb
   rw[Nat.sub_zero,List.getD_eq_getElem?_getD,List.getElem?_map] at h
   rw[←Array.getElem?_toList]
   cases e:p.funcs.toList[f]? with
   |none=>rw[e] at h;cases h
   |some g=>rw[e] at h;exact h
 · rw[Tr.Afy] at h;cases h
theorem Ah3{l:List Value}(h:l.all Yo=true)(μ:Mu):VRs μ (l.map ofValue) l:=by
 induction l with
 |nil=>exact(rfl:([]:List Value)=[])
 |cons v l ih=>
  rw[List.all_cons,Bool.and_eq_true] at h
  exact⟨v,l,rfl,Qv μ 3 v h.1,ih h.2⟩
theorem A07{p:Program}{t:TypeId}{ti:TypeInfo}(h:p.types[t]? =some ti):p.info? t=some ti:=by
 have hl:t<p.types.size:=by
  rcases Nat.lt_or_ge t p.types.size with h'|h'
  · exact h'
  · rw[Array.getElem?_eq_none h'] at h;cases h
 unfold Tables.info?
 rw[if_pos hl,h]
theorem Awj{p:Program}{x:List (Nat×Ext)}(h:A24 p=true):Cg p (Ai9 p x):=by
 have key:∀t ti,p.types[t]? =some ti→Aj4 p t=false→A0k p t ti=true:=by
  intro t ti ht hn
  rw[A24,List.all_eq_true] at h
  have:=h (ti,t) (by
   rw[List.mem_iff_getElem?]
   refine⟨t,?_⟩
   rw[List.getElem?_zipIdx,Array.getElem?_toList,ht];simp)
  simpa[hn] using this
 refine⟨fun t i hi=>?_,fun f fn hf=>Awk hf,fun t i fs hi hd f hf=>?_⟩
 · obtain⟨ti,ht,e,hn⟩:=Ai8 hi
   have k:=key t ti ht hn
   unfold A0k at k
   cases hu:p.underlying t with
   |none=>rw[hu] at k;simp at k
   |some d=>
    cases hz:ti.zero with
    |none=>rw[hu,hz] at k;simp at k
    |some z=>
     rw[hu,hz] at k
     simp only[Bool.and_eq_true] at k
     obtain⟨k1,⟨k2,k3⟩,k4⟩:=k
     subst e
     have ezero:(Zl p t ti).zero=z.cells.toList.map ofValue:=by unfold Zl;rw[hz]
     have edesc:(Zl p t ti).desc=d:=by unfold Zl;rw[hu];rfl
     have eagg:(Zl p t ti).agg=Zd d:=by
      unfold Zl;simp only[hu]
      cases d<;>rfl
     refine⟨ti,z,A07 ht,by rw[hu,edesc],rfl,rfl,by rw[eagg,edesc],hz,fun μ=>?_,?_,fun μ a ha=>?_,fun hp=>?_,rfl⟩
     · rw[ezero];exact Ah3 k1 μ
     · rw[ezero];exact k2
     · unfold zeroOf at ha
       rw[eagg,ezero] at ha
       cases z with
       |agg vs=>
        simp only at k3
        rw[k3] at ha
        cases ha
        exact⟨vs,rfl,Ah3 k1 μ,k2⟩
       |_=>
        simp only[Bool.not_eq_true'] at k3
        rw[k3] at ha
        cases ha
        exact Qv μ 3 _ (show Yo _=true by simpa[Value.cells] using k1)
     · have hp:and (not (p.stoodInHeld t)) (not (p.eqGuardType p.depth t))=true:=hp
       simpa using hp
 · obtain⟨ti,ht,e,hn⟩:=Ai8 hi
   have k:=key t ti ht hn
   unfold A0k at k
   subst e
   cases hu:p.underlying t with
   |none=>rw[hu] at k;simp at k
   |some d=>
    have edesc:(Zl p t ti).desc=d:=by unfold Zl;rw[hu];rfl
    rw[edesc] at hd
    subst hd
    cases hz:ti.zero with
    |none=>rw[hu,hz] at k;simp at k
    |some z=>
     rw[hu,hz] at k
     simp only[Bool.and_eq_true] at k
     have:=k.2.2
     rw[List.all_eq_true] at this
     have:=this f hf;rw[Bool.and_eq_true,Bool.not_eq_true'] at this;exact Ai7 (of_decide_eq_true this.1) this.2
theorem Be{b:Bool}{A B T:Prop}(hA:A→T)(hB:B→T)(h:cnd b A B):T:=by
 cases b with
 |true=>exact hA h
 |false=>exact hB h
theorem Bd{i j:Nat}{X:Prop}{T:Nat→Prop}(hX:X→T j)(h:cnd (Nat.beq i j) X False):T i:=by
 cases e:Nat.beq i j with
 |true=>
  rw[e] at h
  have:i=j:=Nat.eq_of_beq_eq_true e
  rw[this];exact hX h
 |false=>rw[e] at h;exact h.elim
theorem Ga{P:Program}{G:Nat}{fid:FuncId}{e:Ext}{n:Nat}(hn:A80 e=some n)(he:∀(args:Array Value)(w:World),(callFunc fid args).run P w=((Rc e args).run P w).andThen fun v w'=>.ok (.value v) w'){args:List AV}{h:H}{k:KV}(hg:cnd (Nat.beq (len args) n) (oK (Gl e args h) k) False):SW P G (.func fid) args h k:=by
 cases el:Nat.beq (len args) n with
 |false=>rw[el] at hg;exact hg.elim
 |true=>
  rw[el] at hg
  refine A8y (fun a w=>?_) (fun m hm=>?_) hg
  · rw[he,Sem.run_bind];rfl
  · rw[hn] at hm;cases hm
    rw[←De];exact Nat.eq_of_beq_eq_true el
theorem Aie{P:Program}{G:Nat}{fid:FuncId}(hr:∀w,(callFunc fid #[]).run P w=.ok (.value (.tuple #[])) w){args:List AV}{h:H}{k:KV}(hg:cnd (Nat.beq (len args) 0) (k .undef h) False):SW P G (.func fid) args h k:=by
 intro μ w fn' vargs s gl hfn hv
 have hfn':fn'=.func fid:=by cases fn'<;>simp only[FnR] at hfn<;>first|(cases hfn;rfl)|cases hfn
 cases args with
 |cons x l=>exact hg.elim
 |nil=>
  have:vargs=#[]:=Array.toList_eq_nil_iff.1 hv
  subst this
  exact .inl ⟨fid,hfn',.inl ⟨_,w,μ,.undef,h,hr w,s,.refl _ _ _,VR.undef μ,hg⟩⟩
theorem Aid{P:Program}{G:Nat}{fid:FuncId}(hr:∀a w,(callFunc fid #[.pointer (some a)]).run P w=.ok (.value (.tuple #[])) w){args:List AV}{h:H}{k:KV}(hg:asP (It args) fun _ _=>cnd (Nat.beq (len args) 1) (k .undef h) False):SW P G (.func fid) args h k:=by
 intro μ w fn' vargs s gl hfn hv
 have hfn':fn'=.func fid:=by cases fn'<;>simp only[FnR] at hfn<;>first|(cases hfn;rfl)|cases hfn
 obtain⟨b,o,ha,hg⟩:=Mr hg
 cases el:Nat.beq (len args) 1 with
 |false=>rw[el] at hg;exact hg.elim
 |true=>
  rw[el] at hg
  have hl:args.length=1:=by rw[←De];exact Nat.eq_of_beq_eq_true el
  obtain⟨x,v,rfl,rfl,h1⟩:=args1 hv hl
  have ha:x=.ptr b o:=ha
  subst ha
  obtain⟨l,_,rfl⟩:=h1
  exact .inl ⟨fid,hfn',.inl ⟨_,w,μ,.undef,h,hr _ w,s,.refl _ _ _,VR.undef μ,hg⟩⟩
end Go.Den
namespace Go.Den
open Go.RowKit
def Aa3(l:List (Ob FT)):H:=⟨Tr.ofList .dead l .z .e,pOf l.length⟩
def mu0(L:List Loc):Mu:=fun b=>L[b.nat]?
theorem Agw(l:List (Ob FT))(b:P):(Aa3 l).at b=l.getD b.nat .dead:=by
 show Tr.get .dead (Tr.ofList .dead l .z .e) b=_
 rw[Tr.Ak2]
 by_cases h:b.nat<l.length
 · rw[if_pos (by simpa using h)];simp
 · rw[if_neg (by simpa using h),List.getD_eq_getElem?_getD,List.getElem?_eq_none (by omega)];rfl
theorem Up{l:List (Ob FT)}(hn:l.all (fun o=>!o.own)=true)(b:P):((Aa3 l).at b).own=false:=by
 rw[Agw]
 by_cases h:b.nat<l.length
 · rw[List.getD_eq_getElem?_getD,List.getElem?_eq_getElem h]
   have:=List.all_eq_true.1 hn _ (List.getElem_mem h)
   simpa using this
 · rw[List.getD_eq_getElem?_getD,List.getElem?_eq_none (by omega)];rfl
theorem As8{l:List (Ob FT)}{L:List Loc}{w:World}(hl:l.length=L.length)(hn:l.all (fun o=>!o.own)=true)
 (hr:∀(i:Nat) o c,l[i]? =some o→L[i]? =some c→ObR (mu0 L) w c o):Sim (mu0 L) (Aa3 l) w:=by
 refine⟨fun b c hc=>?_,fun b hb=>?_,fun b c hb hc=>?_,fun b b' c c' ho=>?_⟩
 · have hc:L[b.nat]? =some c:=hc
   have:b.nat<L.length:=(List.getElem?_eq_some_iff.1 hc).1
   show b.nat<(pOf l.length).nat
   rw[Yt,hl];exact this
 · have hb:(pOf l.length).nat≤b.nat:=hb
   rw[Yt] at hb
   rw[Agw,List.getD_eq_getElem?_getD,List.getElem?_eq_none hb];rfl
 · rw[Agw] at hb ⊢
   have hlt:b.nat<l.length:=by
    rcases Nat.lt_or_ge b.nat l.length with h|h
    · exact h
    · rw[List.getD_eq_getElem?_getD,List.getElem?_eq_none h] at hb;exact absurd rfl hb
   rw[List.getD_eq_getElem?_getD,List.getElem?_eq_getElem hlt]
   exact hr _ _ _ (List.getElem?_eq_getElem hlt) hc
 · rw[Up hn] at ho;cases ho
theorem Ak1{L:List Loc}{G:Nat}(h:∀g,g<G→∃c,L[g]? =some c∧c.blk=g∧c.off=0):Hj (mu0 L) G:=fun g hg=>by
 obtain⟨c,h1,h2⟩:=h g hg
 exact⟨c,by show L[(pOf g).nat]? =_;rw[Yt];exact h1,h2⟩
theorem Pn{μ μ':Mu}{h h':H}{w w':World}(x:Dc μ h w μ' h' w')(ho:∀b,(h.at b).own=false):Below w.heap.size w w':=
 ⟨x.os,x.tape,x.output,x.size,fun k hk=>x.keep k hk fun⟨b,l,h1,_⟩=>by rw[ho] at h1;cases h1⟩
def isT:KV:=fun v _=>AV.rec (motive_1:=fun _=>Prop) (motive_2:=fun _=>Unit)
 (fun b=>Bool.rec False True b) (fun _ _=>False) (fun _ _=>False) False (fun _ _=>False) False (fun _ _ _ _ _=>False) False (fun _=>False) (fun _ _ _ _ _=>False) False (fun _ _ _=>False) False (fun _ _=>False) (fun _ _=>False) False () (fun _ _ _ _=>()) v
theorem Apy{v:AV}{h:H}(hg:isT v h):v=.bool true:=by
 cases v with
 |bool b=>cases b with
  |true=>rfl
  |false=>exact hg.elim
 |_=>exact hg.elim
theorem Alm{P:Program}{E:Env}{G:Nat}{call:CF}(hc:Fb P (CP E) G (fun p=>p) call){μ:Mu}{h:H}{w:World}(s:Sim μ h w)(gl:Hj μ G)(ho:∀b,(h.at b).own=false)
 {F : FuncId} {fn : Func} {c : Code} (hf : P.funcs[F]? = some fn) (hb : fn.body = some c) (hname : (fn.name == "runtime.NumGoroutine") = false)
 {args:List AV} {vargs:Array Value} (hv:VRs μ args vargs.toList) (hg:call (.func F) args h isT):
 Calls P F vargs w fun e w'=>e=.returned (.bool true)∧Below w.heap.size w w':=by
 rcases hc μ h w (.func F) (.func F) args vargs isT s gl rfl hv hg with⟨f,e,hh⟩|⟨l,F',tmps,as,bd,e,_⟩
 case inr=>cases e
 cases e
 have he:(callFunc F vargs).run P w=.ok (.enter F vargs) w:=by
  unfold callFunc
  rw[Aa (show program.run P w=.ok P w from rfl),hf]
  simp only[hname,hb,Bool.false_eq_true,if_false]
  rfl
 rcases hh with⟨v,w',μ',av,h',h1,_⟩|⟨_,h2⟩
 · rw[he] at h1;cases h1
 · refine h2.mono fun e w' ⟨v,μ',av,h',h3,_,h5,h6,h7⟩=>?_
   have:=Apy h7
   subst this
   cases(show v=.bool true from h6)
   exact⟨h3,Pn h5 ho⟩
end Go.Den
namespace Go.Den
open Go.RowKit Go.ChangeShapes Go.WideShapes Go.ChangeAt
section
variable{H':Type}{enc:TypeId×Value→H'}{P:Program}
theorem Ss (hl : laidOutB P = true) {W W' : World} (hb : Below W.heap.size W W') : ∀ {ts : List TypeId} {vs : List Value} {ds : List (DataW H')} {ps : List MemPlace},
    (ts.all fun t => P.readableRec t && decide (t < P.types.size)) = true → DataW.TrodAll enc P W 0 (fun _ => true) true ts vs ds ps → (∀ x ∈ ps, x.block < W.heap.size) →
    DataW.TrodAll enc P W' 0 (fun b => decide (b < W.heap.size)) true ts vs ds ps
  | [], vs, ds, ps, _, h, _ => by
    obtain ⟨rfl, rfl, rfl⟩ := trodAll_nil h
    exact trodAll_mk0
  | t :: ts, vs, ds, ps, hr, h, hlt => by
    obtain ⟨v, vs, d, ds, p, q, rfl, rfl, rfl, h1, h2⟩ := trodAll_cons h
    rw [List.all_cons, Bool.and_eq_true, Bool.and_eq_true] at hr
    exact ⟨p, q, hb.trod hl hr.1.1 (of_decide_eq_true hr.1.2) h1 fun x hx => hlt x (List.mem_append_left _ hx), Ss hl hb hr.2 h2 fun x hx => hlt x (List.mem_append_right _ hx), rfl⟩
theorem Au6{f:Func}{s:ChangeSpec}{W W':World}{args:Array Value}{ds:List (DataW H')}{before:List MemPlace}{tb:TypeId}(hl:laidOutB P=true)
 (hrows:(f.params.toList.all fun t=>P.readableRec t&&decide (t<P.types.size))=true) (hres:f.resultTypes=#[tb]) (htb:P.underlying tb=some .bool)
 (hW:DataW.Whole enc P f.params.toList s.vars false W args.toList ds [] before) (hvars:s.vars=[]) (hfn:s.fn H' (ds++[])={ results:=[.lit (.bool true)],args:=ds }) (hb:Below W.heap.size W W'):
 s.post enc P f false true false false W args (.bool true) W':=by
 have hW':=hW
 obtain⟨p,q,hA,hV,e,_,_⟩:=hW
 rw[hvars] at hV
 obtain⟨_,rfl⟩:=trodVars_none hV
 rw[List.append_nil] at e;subst e
 refine⟨ds,[],before,[],before,[],hW',?_,?_,?_,hb.frame _,fun h=>by cases h⟩
 · rw[hfn,hres];exact trodAll_mk1 (shut_bool htb _)
 · rw[hfn]
   exact Ss hl hb hrows hA fun x hx=>hW'.lt x hx
 · rw[hvars,hfn];rfl
end
end Go.Den
namespace Go.Den
open Go.RowKit
abbrev S(s:List UInt8):AV:=.str s.length (enc s)
section
variable{s t:List UInt8}
theorem A1b{i:Nat}(h:i<s.length):Fw (enc s) i=(s[i]).toNat:=by
 show(enc s >>> (8*i))%256=_
 rw[Nat.shiftRight_eq_div_pow,Vn,List.drop_eq_getElem_cons h]
 have:=(s[i]).toNat_lt
 simp only[enc];omega
theorem A1q(lo hi:Nat):Wi (enc s) lo hi=enc ((s.drop lo).take (hi-lo)):=by
 show(enc s >>> (8*lo))%2^(8*(hi-lo))=_
 rw[Nat.shiftRight_eq_div_pow,Vn,Agf]
theorem Fj:Dv s.length (enc s) t.length (enc t)=decide (s=t):=by
 unfold Dv
 rw[La,Gt,Gt]
 by_cases e:s=t
 · subst e;simp
 · rw[decide_eq_false e]
   by_cases hl:s.length=t.length
   · have:¬enc s=enc t:=fun he=>e (Zc hl he)
     simp[this]
   · simp[hl]
theorem Fz{i:Nat}{K:Nat→Prop}(h:i<s.length)(hk:K (s[i]).toNat):Ij s.length (enc s) i K:=by
 have hb:Nat.ble (Nat.add i 1) s.length=true:=Nat.ble_eq_true_of_le h
 unfold Ij
 rw[hb]
 show K (Fw (enc s) i)
 rw[A1b h];exact hk
theorem Agi{lo hi:Nat}{K:Nat→Nat→Prop}(h1:lo≤hi)(h2:hi≤s.length)(hk:K ((s.drop lo).take (hi-lo)).length (enc ((s.drop lo).take (hi-lo)))):No s.length (enc s) lo hi K:=by
 have hb:An (Nat.ble lo hi) (Nat.ble hi s.length)=true:=by rw[La,Nat.ble_eq_true_of_le h1,Nat.ble_eq_true_of_le h2];rfl
 unfold No
 rw[hb]
 show K (hi-lo) (Wi (enc s) lo hi)
 rw[A1q]
 have:((s.drop lo).take (hi-lo)).length=hi-lo:=by simp;omega
 rw[this] at hk;exact hk
theorem Alc{lo:Nat}{K:Nat→Nat→Prop}(h:lo≤s.length)(hk:K (s.drop lo).length (enc (s.drop lo))):No s.length (enc s) lo s.length K:=by
 refine Agi h (Nat.le_refl _) ?_
 have:(s.drop lo).take (s.length-lo)=s.drop lo:=by rw[List.take_of_length_le (by simp)]
 rw[this];exact hk
theorem Alb{hi:Nat}{K:Nat→Nat→Prop}(h:hi≤s.length)(hk:K (s.take hi).length (enc (s.take hi))):No s.length (enc s) 0 hi K:=by
 refine Agi (Nat.zero_le _) h ?_
 simpa using hk
end
theorem Gu{n:Nat}{K:Nat→Prop}(hk:K n):Ce (Int.ofNat n) K:=hk
theorem Br{b:Bool}{A B:Prop}(hA:b=true→A)(hB:b=false→B):cnd b A B:=by
 cases b with
 |true=>exact hA rfl
 |false=>exact hB rfl
theorem Dp{b:Bool}{A B:Prop}(hb:b=true)(hA:A):cnd b A B:=by subst hb;exact hA
theorem Cp{b:Bool}{A B:Prop}(hb:b=false)(hB:B):cnd b A B:=by subst hb;exact hB
theorem Avw{w b:Bool}{A B:Prop}(hA:b=w→A)(hB:b=!w→B):gate w b A B:=by
 cases w<;>cases b<;>first|exact hA rfl|exact hB rfl
theorem Qe{a:Bool}{R:(Bool→H→Prop)→Prop}{h:H}{k:Bool→H→Prop}(hr:a=false→R k)(ht:a=true→k true h):Ay (fun k1=>gate false a (R k1) (k1 true h)) k:=by
 show gate false a (R k) (k true h)
 exact Avw hr (fun e=>ht e)
theorem Fa{a:Bool}{R:(Bool→H→Prop)→Prop}{h:H}{k:Bool→H→Prop}(hr:a=true→R k)(hf:a=false→k false h):Ay (fun k1=>gate true a (R k1) (k1 false h)) k:=by
 show gate true a (R k) (k false h)
 exact Avw hr (fun e=>hf e)
theorem Bd6{a b:Bool}{h:H}{k:Bool→H→Prop}(hk:k (a||b) h):Ay (fun k1=>gate false a (k1 b h) (k1 true h)) k:=by
 cases a<;>exact hk
theorem Adx{a b:Bool}{h:H}{k:Bool→H→Prop}(hk:k (a&&b) h):Ay (fun k1=>gate true a (k1 b h) (k1 false h)) k:=by
 cases a<;>exact hk
mutual
def plain:AV→Bool
 |.bool _=>true
 |.int _ _=>true
 |.str _ _=>true
 |.Cm=>true
 |.Ai=>true
 |.Qx=>true
 |.Uv=>true
 |.Mf=>true
 |.agg cs=>Qs cs
 |.tuple cs=>Qs cs
 |_=>false
def Qs:List AV→Bool
 |[]=>true
 |c::cs=>plain c&&Qs cs
end
mutual
theorem VR.plain{μ μ':Mu}:∀(a:AV)(v:Value),plain a=true→VR μ a v→VR μ' a v
 |.bool _,_,_,r=>r
 |.int _ _,_,_,r=>r
 |.str _ _,_,_,r=>r
 |.Cm,_,_,r=>r
 |.Ai,_,_,r=>r
 |.Qx,_,_,r=>r
 |.Uv,_,_,r=>r
 |.Mf,_,_,r=>r
 |.agg cs,_,h,⟨vs,e,hc,ho⟩=>⟨vs,e,VRs.plain cs _ h hc,ho⟩
 |.tuple cs,_,h,⟨vs,e,hc⟩=>⟨vs,e,VRs.plain cs _ h hc⟩
theorem VRs.plain{μ μ':Mu}:∀(as:List AV)(vs:List Value),Qs as=true→VRs μ as vs→VRs μ' as vs
 |[],_,_,r=>r
 |c::cs,_,h,⟨w,ws,e,h1,h2⟩=>by
  have h:(Den.plain c&&Qs cs)=true:=h
  rw[Bool.and_eq_true] at h
  exact⟨w,ws,e,VR.plain c _ h.1 h1,VRs.plain cs _ h.2 h2⟩
end
theorem Sim.below{μ:Mu}{h:H}{w w':World}(s:Sim μ h w)(b:Below w.heap.size w w'):Sim μ h w':=
 ⟨s.fresh,s.dead,fun p l hp h1=>by
  have h2:=s.ob p l hp h1
  exact h2.world (b.block _ (h2.lt hp)),s.inj⟩
theorem Dc.below{μ:Mu}{h:H}{w w':World}(b:Below w.heap.size w w'):Dc μ h w μ h w':=
 ⟨Mu.le.refl μ,b.size,fun k hk _=>b.block k hk,fun _ _ h=>h,⟨Nat.le_refl _,fun _ _ e=>⟨e,rfl⟩⟩,b.os,b.tape,b.output⟩
def Pure(P:Program)(G:Nat)(h0:H)(F:FuncId)(args:List AV)(r:AV):Prop:=SW P G (.func F) args h0 fun v _=>v=r
theorem Aua{P:Program}{G:Nat}{L0:List Loc}{l0:List (Ob FT)}(s0:∀w,Sim (mu0 L0) (Aa3 l0) w)(g0:Hj (mu0 L0) G)(ho:l0.all (fun o=>!o.own)=true){F:FuncId}{args:List AV}{r:AV}
 (hp:Pure P G (Aa3 l0) F args r) (ha:Qs args=true) (hr:plain r=true) {h:H} {k:KV} (hk:k r h):SW P G (.func F) args h k:=fun μ w fn' vargs s gl hf hv=>by
 rcases hp (mu0 L0) w fn' vargs (s0 w) g0 (show FnR (mu0 L0) (.func F) fn' by cases fn'<;>exact hf) (VRs.plain _ _ ha hv) with⟨f,e,hh⟩|⟨l,F',tmps,as,bd,e,_⟩
 case inr=>subst e;exact hf.elim
 refine .inl ⟨f,e,?_⟩
 rcases hh with⟨v,w',μ',av,h',h1,h2,h3,h4,h5⟩|⟨h1,h2⟩
 · subst h5
   have b:=Pn h3 (Up ho)
   exact .inl ⟨v,w',μ,av,h,h1,s.below b,.below b,VR.plain _ _ hr h4,hk⟩
 · refine .inr ⟨h1,h2.mono fun e w' he=>?_⟩
   obtain⟨v,μ',av,h',h3,h4,h5,h6,h7⟩:=he
   subst h7
   have b:=Pn h5 (Up ho)
   exact⟨v,μ,av,h,h3,s.below b,.below b,VR.plain _ _ hr h6,hk⟩
end Go.Den
namespace Go.Den
open Go.RowKit
theorem Cy{h:H}{o:Ob FT}{K:P→H→Prop}(hk:K h.next (h.new o)):Hp.Cs h o K:=by
 obtain⟨m,n⟩:=h
 show Ks (Tr.set .dead o m n) (fun m=>K n ⟨m,P.succ n⟩)
 rw[Jr];exact hk
theorem A7h{h:H}{b:P}{o:Ob FT}{K:H→Prop}(hk:K (h.put b o)):Hp.Kl h b o K:=by
 obtain⟨m,n⟩:=h
 show Ks (Tr.set .dead o m b) (fun m=>K ⟨m,n⟩)
 rw[Jr];exact hk
section
variable{h:H}{b:P}{t:Tm}{n z:Nat}{e:TypeId}{w:Bool}
theorem Eh{o:Nat}{K:AV→Prop}(ha:h.at b=.row t n z e w)(ho:o<n)(hk:K (Aw t o)):ld1 (.ptr b o) h K:=by
 show h.Ih b o As K
 unfold Hp.Ih
 rw[ha]
 show Th o As K t n
 unfold Th
 rw[show Nat.ble (Nat.add o 1) n=true from Nat.ble_eq_true_of_le ho]
 show Cj (Aw t o) K
 rw[Ch];exact hk
theorem Au5{o c:Nat}{K:AV→Prop}(ha:h.at b=.row t n z e w)(ho:o+c≤n)(hk:K (.agg (Dy t c o))):ldn c (.ptr b o) h K:=by
 show h.Ix b o c As (fun l=>K (.agg l))
 unfold Hp.Ix
 rw[ha]
 show Nb o c As (fun l=>K (.agg l)) t n
 unfold Nb
 rw[show Nat.ble (Nat.add o c) n=true from Nat.ble_eq_true_of_le ho]
 exact hk
theorem Ag9{o:Nat}{cs:List AV}{K:H→Prop}(ha:h.at b=.row t n z e w)(hz:z≤o)(ho:o+cs.length≤n)(hk:K (h.put b (.row (Aj cs o t) n z e w))):h.Hw b o cs As K:=by
 unfold Hp.Hw
 rw[ha]
 show Xm h b o cs As K t n z e w
 unfold Xm
 rw[show Nat.ble z o=true from Nat.ble_eq_true_of_le hz,De,show Nat.ble (Nat.add o cs.length) n=true from Nat.ble_eq_true_of_le ho]
 show Ks (Aj cs o t) (fun t=>h.Kl b (.row t n z e w) K)
 rw[Jr]
 exact A7h hk
theorem Iw{o:Nat}{v:AV}{K:H→Prop}(ha:h.at b=.row t n z e w)(hz:z≤o)(ho:o<n)(hv:v.one=true)(hk:K (h.put b (.row (Aj [v] o t) n z e w))):st1 (.ptr b o) v h K:=by
 have:h.Hw b o [v] As K:=Ag9 ha hz ho hk
 show one v (h.Hw b o [v] As K)
 cases v<;>first|exact this|cases hv
theorem Amb{o c:Nat}{cs:List AV}{K:H→Prop}(ha:h.at b=.row t n z e w)(hz:z≤o)(hc:cs.length=c)(h1:1≤c)(ho:o+c≤n)(hk:K (h.put b (.row (Aj cs o t) n z e w))):stn c (.ptr b o) (.agg cs) h K:=by
 show Bool.rec As (h.Hw b o cs As K) (An (Nat.beq (len cs) c) (Nat.ble 1 c))
 rw[De,hc,Nat.beq_refl,Nat.ble_eq_true_of_le h1]
 exact Ag9 ha hz (hc▸ho) hk
end
theorem Bc(h:H)(o:Ob FT):(h.new o).at h.next=o:=by rw[Fs,if_pos rfl]
theorem Ba(h:H)(b:P)(o:Ob FT):(h.put b o).at b=o:=by rw[Rm,if_pos rfl]
theorem Kc(t:Tm):∀(n o:Nat),Dy t n o=(List.range n).map fun i=>Aw t (o+i)
 |0,_=>rfl
 |n+1,o=>by
  show Aw t o::Dy t n (Nat.add o 1)=_
  rw[Kc t n,List.range_succ_eq_map,List.map_cons,List.map_map]
  congr 1
  apply List.map_congr_left
  intro i _
  show Aw t (o+1+i)=Aw t (o+(i+1))
  congr 1;omega
theorem Bn{b:Bool}{K:Bool→Prop}:asB (.bool b) K=K b:=rfl
theorem Eg{l c:Nat}{K:Nat→Nat→Prop}:asS (.str l c) K=K l c:=rfl
theorem Bj{k:IntKind}{n:Int}{K:Int→Prop}:asI k (.int k n) K=K n:=by cases k<;>rfl
theorem Hu{a:AV}{l:List AV}{K:AV→Prop}:ext 0 (.tuple (a::l)) K=K a:=rfl
theorem Ht{a b:AV}{l:List AV}{K:AV→Prop}:ext 1 (.tuple (a::b::l)) K=K b:=rfl
theorem On{n:Nat}{K:Nat→Prop}:Ce (Int.ofNat n) K=K n:=rfl
end Go.Den
