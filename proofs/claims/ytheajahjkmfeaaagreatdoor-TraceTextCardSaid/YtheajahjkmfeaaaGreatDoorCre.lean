/-
 Proof.
-/
import Derived.Test.YtheajahjkmfeaaaGreatDoorIst
import Derived.Test.YtheajahjkmfeaaaGreatDoorVar
namespace Go.Den
open Go.RowKit
set_option maxRecDepth 100000
theorem Ao7{h:H}{q:P}{c:Nat→AV}{m:Nat}(f:We h q c m){o n:Nat}(hn:o+n≤m):h.read q o n=some ((List.range n).map fun i=>c (o+i)):=by
 unfold Hp.read Hp.Ix
 rcases f with⟨t,z,e,w,ha,rfl⟩|ha
 · rw[ha]
   show(Nb o n none some t m:Option (List AV))=_
   unfold Nb
   rw[show Nat.ble (Nat.add o n) m=true from Nat.ble_eq_true_of_le hn]
   show some (Dy t n o)=_
   rw[Kc]
 · rw[ha]
   show(Zw o n none some c m:Option (List AV))=_
   unfold Zw
   rw[show Nat.ble (Nat.add o n) m=true from Nat.ble_eq_true_of_le hn]
   show some (Da c n o)=_
   rw[Rb]
theorem Acy{sz:Nat}{c:Nat→AV}:∀{L:List (List AV)}{o:Nat},Ag2 sz o c L→(List.range (L.length*sz)).map (fun i=>c (o+i))=L.flatten
 |[],o,_=>by simp
 |a::L,o,hr=>by
  have ha:=hr 0 (Nat.succ_pos _)
  have h0:a.length=sz:=ha.1
  have ht:Ag2 sz (o+sz) c L:=fun i hi=>by
   have:=hr (i+1) (Nat.succ_lt_succ hi)
   refine⟨this.1,fun j hj=>?_⟩
   have e:=this.2 j hj
   rw[show o+sz+i*sz+j=o+(i+1)*sz+j by rw[Nat.succ_mul];omega]
   exact e
  rw[List.length_cons,Nat.succ_mul,Nat.add_comm,List.range_add,List.map_append,List.map_map,List.flatten_cons,←Acy ht]
  congr 1
  · apply List.ext_getElem
    · simp[h0]
    · intro i h1 h2
      simp only[List.getElem_map,List.getElem_range]
      have:=ha.2 i h2
      rw[Nat.zero_mul,Nat.add_zero] at this
      exact this
  · exact List.map_congr_left fun i _=>by show c (o+(sz+i))=c (o+sz+i);rw[Nat.add_assoc]
theorem Aw6{sz:Nat}{h:H}{v:AV}{L:List (List AV)}(hr:Rd sz h v L):Ck h sz v=some (L.length,L.flatten):=by
 obtain⟨q,o,c,m,b,rfl,h1,h2,h3,h4⟩:=hr
 show(Bool.rec none (Option.rec none (fun cs=>some (L.length,cs)) (h.read q o (Nat.mul L.length sz))) (Nat.beq sz sz):Option (Nat×List AV))=_
 rw[Nat.beq_refl]
 show(Option.rec none (fun cs=>some (L.length,cs)) (h.read q o (L.length*sz)):Option (Nat×List AV))=_
 rw[Ao7 h2 h3,Acy h4]
theorem Jt{sz:Nat}{h:H}{v:AV}{L:List (List AV)}(hr:SlR sz h v L):Ck h sz v=some (L.length,L.flatten):=by
 rcases hr with⟨rfl,rfl⟩|hr
 · rfl
 · exact Aw6 hr
theorem Rd.Tv{sz:Nat}{h:H}{v:AV}{L:List (List AV)}(hr:Rd sz h v L):∀c∈L,c.length=sz:=fun c hc=>by
 obtain⟨q,o,f,m,b,rfl,h1,h2,h3,h4⟩:=hr
 obtain⟨i,hi,rfl⟩:=List.getElem_of_mem hc
 exact(h4 i hi).1
theorem SlR.Tv{sz:Nat}{h:H}{v:AV}{L:List (List AV)}(hr:SlR sz h v L):∀c∈L,c.length=sz:=by
 rcases hr with⟨rfl,rfl⟩|hr
 · intro c hc;cases hc
 · exact hr.Tv
def SlE(sz:Nat)(h:H)(v:AV)(L:List (List AV)):Prop:=(L=[]∧(v=.Ai∨∃b,v=.slice b 0 0 sz false))∨Rd sz h v L
theorem SlE.len{sz:Nat}{h:H}{v:AV}{L:List (List AV)}(hr:SlE sz h v L){K:Nat→Prop}:Cz v K=K L.length:=by
 rcases hr with⟨rfl,rfl|⟨b,rfl⟩⟩|hr
 · rfl
 · rfl
 · exact hr.len
theorem SlE.ext{sz:Nat}{h h':H}{v:AV}{L:List (List AV)}(hr:SlE sz h v L)(x:Exh h h'):SlE sz h' v L:=hr.imp id fun hr=>hr.ext x
theorem SlE.rd{sz:Nat}{h:H}{v:AV}{L:List (List AV)}(hr:SlE sz h v L){i:Nat}(hi:i<L.length):Rd sz h v L:=hr.resolve_left fun e=>by rw[e.1] at hi;cases hi
theorem SlE.sl{sz:Nat}{h:H}{v:AV}{L:List (List AV)}(hr:SlE sz h v L):v=.Ai∨∃b o n z t,v=.slice b o n z t:=by
 rcases hr with⟨_,rfl|⟨b,rfl⟩⟩|⟨q,o,c,m,b,rfl,_⟩
 · exact .inl rfl
 · exact .inr ⟨_,_,_,_,_,rfl⟩
 · exact .inr ⟨_,_,_,_,_,rfl⟩
def Aby(e:TypeId)(sz lo:Nat)(h:H)(v:AV)(L:List (List AV)):Prop:=(L=[]∧∃q,v=.slice q 0 0 sz true∧q.nat<h.next.nat∧h.at q=.row .e 0 0 e true)∨Cb e sz lo h v L
theorem Aq1{e:TypeId}{sz lo:Nat}{ei:TI}{h:H}{v x:AV}{L M:List (List AV)}(hb:Aby e sz lo h v L)(hx:Ck h sz x=some (M.length,M.flatten))(hM:∀c∈M,c.length=sz)(hsz:ei.size=sz)(hf:Bv ei (L.length+M.length)=true)(hlo:lo≤h.next.nat){k:KV}(hk:∀v' h',Aby e sz lo h' v' (L++M)→(M≠[]→Cb e sz lo h' v' (L++M))→KpS e lo h h'→k v' h'):oK (Co (some false) v x h e ei) k:=by
 rcases hb with⟨rfl,q,rfl,hq,ha⟩|hb
 · by_cases hm:M=[]
   · subst hm
     have e1:Co (some false) (.slice q 0 0 sz true) x h e ei=some (.slice q 0 0 sz true,h):=by
      show(Option.rec none (fun p=>Bool.rec none (Bool.rec (Gy e ei.size (.slice q 0 0 sz true) p.1 p.2 h) (some (.slice q 0 0 sz true,h)) (Nat.beq p.1 0)) (An true (Bv ei (Nat.add 0 p.1)))) (Ck h ei.size x):Option (AV×H))=_
      rw[hsz,hx]
      show(Bool.rec none (some (.slice q 0 0 sz true,h)) (An true (Bv ei (Nat.add 0 0))):Option (AV×H))=_
      rw[show Bv ei (Nat.add 0 0)=true from hf];rfl
     rw[e1,Ad]
     exact hk _ _ (.inl ⟨rfl,q,rfl,hq,ha⟩) (fun e=>absurd rfl e) .refl
   have hbq:Nat.beq M.length 0=false:=by
    cases M with
    |nil=>exact absurd rfl hm
    |cons _ _=>rfl
   have e1:Co (some false) (.slice q 0 0 sz true) x h e ei=some (.slice h.next 0 M.length sz false,h.new (.row (Aj M.flatten 0 .e) (Nat.mul M.length sz) 0 e false)):=by
    show(Option.rec none (fun p=>Bool.rec none (Bool.rec (Gy e ei.size (.slice q 0 0 sz true) p.1 p.2 h) (some (.slice q 0 0 sz true,h)) (Nat.beq p.1 0)) (An true (Bv ei (Nat.add 0 p.1)))) (Ck h ei.size x):Option (AV×H))=_
    rw[hsz,hx]
    show(Bool.rec none (Bool.rec (Gy e sz (.slice q 0 0 sz true) M.length M.flatten h) (some (.slice q 0 0 sz true,h)) (Nat.beq M.length 0)) (An true (Bv ei (Nat.add 0 M.length))):Option (AV×H))=_
    rw[hbq,show Bv ei (Nat.add 0 M.length)=true by rw[show Nat.add 0 M.length=([]:List (List AV)).length+M.length from rfl];exact hf]
    show(Bool.rec none (Option.rec none (fun old=>Xj e sz (Nat.add 0 M.length) (Jh old M.flatten) h) (h.read q 0 (Nat.mul 0 sz))) (Nat.beq sz sz):Option (AV×H))=_
    rw[Nat.beq_refl,show Nat.mul 0 sz=0 from Nat.zero_mul sz,Ao7 (.inl ⟨_,_,_,_,ha,rfl⟩) (Nat.le_refl 0),show Nat.add 0 M.length=M.length from Nat.zero_add _]
    rfl
   rw[e1,Ad]
   have hB:Cb e sz lo (h.new (.row (Aj M.flatten 0 .e) (Nat.mul M.length sz) 0 e false)) (.slice h.next 0 M.length sz false) ([]++M):=by
    refine .inr ⟨h.next,Aj M.flatten 0 .e,Nat.mul M.length sz,0,false,rfl,hlo,by rw[Bf];omega,Bc _ _,Nat.le_refl _,Nat.zero_le _,?_⟩
    have:=Ld.Ayg (t:=.e) (Ld.nil (sz:=sz) (o:=0)) hM
    rwa [show([]:List (List AV)).length*sz=0 by simp] at this
   exact hk _ _ (.inr hB) (fun _=>hB) .new
 · exact Agx hb hx hM hsz hf hlo fun v' h' b x=>hk v' h' (.inr b) (fun _=>b) x
theorem KpS.exh{e:TypeId}{lo:Nat}{hE h h':H}(a:Exh hE h)(hl:hE.next.nat≤lo)(b:KpS e lo h h'):Exh hE h':=
 ⟨Nat.le_trans a.1 b.1,fun c hc=>by rw[b.2 c (Nat.lt_of_lt_of_le hc a.1) (.inl (by omega)),a.2 c hc]⟩
def FrX(X:P→Prop)(h h':H):Prop:=h.next.nat≤h'.next.nat∧∀c,c.nat<h.next.nat→¬X c→h'.at c=h.at c
theorem FrX.refl{X:P→Prop}{h:H}:FrX X h h:=⟨Nat.le_refl _,fun _ _ _=>rfl⟩
theorem FrX.trans{X:P→Prop}{h h1 h2:H}(a:FrX X h h1)(b:FrX X h1 h2):FrX X h h2:=⟨Nat.le_trans a.1 b.1,fun c hc hx=>by rw[b.2 c (Nat.lt_of_lt_of_le hc a.1) hx,a.2 c hc hx]⟩
theorem Exh.frx{X:P→Prop}{h h':H}(x:Exh h h'):FrX X h h':=⟨x.1,fun c hc _=>x.2 c hc⟩
theorem FrX.put{X:P→Prop}{h:H}{q:P}{o:Ob FT}(hq:X q):FrX X h (h.put q o):=⟨by rw[Dq];exact Nat.le_refl _,fun c _ hx=>Az fun e=>hx (by rw[e];exact hq)⟩
theorem FrX.weak{X Y:P→Prop}{h h':H}(x:FrX X h h')(hY:∀c,X c→Y c):FrX Y h h':=⟨x.1,fun c hc hy=>x.2 c hc fun q=>hy (hY c q)⟩
theorem Eb.frx{X:P→Prop}:∀{d:Nat}{h h':H}{v:AV}{s:List UInt8},Eb d h v s→FrX X h h'→(∀q cs,AtP h q 0 cs→cs.length=5→¬X q)→Eb d h' v s
 |0,_,_,_,_,hr,_,_=>hr
 |d+1,h,h',v,s,hr,x,hX=>by
  rcases hr with hr|⟨q,hi,e,hq,hh,hc⟩
  · exact .inl hr
  · refine .inr ⟨q,hi,e,Nat.lt_of_lt_of_le hq x.1,hh,?_⟩
    rcases hc with hc|⟨qa,b,s1,s2,hc,e2,e3,h1,h2⟩
    · exact .inl (hc.frame (x.2 q hq (hX q _ hc rfl)))
    · exact .inr ⟨qa,b,s1,s2,hc.frame (x.2 q hq (hX q _ hc rfl)),e2,e3,Eb.frx h1 x hX,Eb.frx h2 x hX⟩
theorem Ali{h:H}{q:P}{c:Nat→AV}{m ck:Nat}{es:Es}(f:We h q c m)(e:h.at q=.map es ck):False:=by
 rcases f with⟨t,z,e',w,ha,_⟩|ha
 · rw[e] at ha;cases ha
 · rw[e] at ha;cases ha
theorem Abs{h:H}{q:P}{o ck:Nat}{cs:List AV}{es:Es}(a:AtP h q o cs)(e:h.at q=.map es ck):False:=by
 obtain⟨_,_,f,_⟩:=a;exact Ali f e
theorem Rd.frx{X:P→Prop}{sz:Nat}{h h':H}{v:AV}{L:List (List AV)}(a:Rd sz h v L)(x:FrX X h h')(hX:∀q o n z b,v=.slice q o n z b→¬X q):Rd sz h' v L:=a.frame x.1 fun c hc o n z b e=>x.2 c hc (hX c o n z b e)
theorem SlR.frx{X:P→Prop}{sz:Nat}{h h':H}{v:AV}{L:List (List AV)}(a:SlR sz h v L)(x:FrX X h h')(hX:∀q o n z b,v=.slice q o n z b→¬X q):SlR sz h' v L:=a.imp id fun a=>a.frx x hX
theorem Qn{h:H}{q:P}{t:Tm}{e:TypeId}{cs:List AV}{c:Nat}{K:H→Prop}(ha:h.at q=.row t c 0 e true)(hc:cs.length=c)(h1:1≤c)(hk:∀t',AtP (h.put q (.row t' c 0 e true)) q 0 cs→K (h.put q (.row t' c 0 e true))):stn c (.ptr q 0) (.agg cs) h K:=by
 refine Amb ha (Nat.le_refl _) hc h1 (by omega) (hk _ (.row _ c 0 e true (Ba _ _ _) (by omega) fun j hj=>?_))
 rw[Ah,if_pos (by omega),List.getD_eq_getElem?_getD,List.getElem?_eq_getElem (by omega)]
 simp
theorem FrX.exh{X:P→Prop}{hE h h':H}(a:Exh hE h)(x:FrX X h h')(hX:∀c,X c→hE.next.nat≤c.nat):Exh hE h':=
 ⟨Nat.le_trans a.1 x.1,fun c hc=>by rw[x.2 c (Nat.lt_of_lt_of_le hc a.1) (fun q=>by have:=hX c q;omega),a.2 c hc]⟩
theorem A1j{hE h:H}{q:P}{o:Ob FT}(x:Exh hE h)(hq:hE.next.nat≤q.nat):Exh hE (h.put q o):=
 (FrX.put (X:=fun c=>c=q) rfl).exh x fun c e=>by rw[e];exact hq
theorem Av6{a b c:AV}{l:List AV}{K:AV→Prop}:ext 2 (.tuple (a::b::c::l)) K=K c:=rfl
end Go.Den
namespace Go.Den
open Go.RowKit
set_option maxRecDepth 100000
theorem Wg{h:H}{q:P}{t:Tm}{m z o:Nat}{e:TypeId}{w:Bool}{cs:List AV}(ha:h.at q=.row t m z e w)(hz:z≤o)(ho:o+cs.length≤m):h.write q o cs=some (h.put q (.row (Aj cs o t) m z e w)):=by
 unfold Hp.write Hp.Hw
 rw[ha]
 show(Xm h q o cs none some t m z e w:Option H)=_
 unfold Xm
 rw[De,Nat.ble_eq_true_of_le hz,show Nat.ble (Nat.add o cs.length) m=true from Nat.ble_eq_true_of_le ho]
 show Ks (Aj cs o t) (fun t=>h.Kl q (.row t m z e w) some)=_
 rw[Jr,Gw]
theorem Wo{h:H}{q:P}{t:Tm}{m z o:Nat}{e:TypeId}{w:Bool}(ha:h.at q=.row t m z e w)(ho:o<m):h.Ka q o=some (Aw t o):=by
 unfold Hp.Ka Hp.Ih
 rw[ha]
 show(Th o none some t m:Option AV)=_
 unfold Th
 rw[show Nat.ble (Nat.add o 1) m=true from Nat.ble_eq_true_of_le ho]
 show Cj (Aw t o) some=_
 rw[Ch]
theorem Bo8{h:H}{q:P}{t:Tm}{e:TypeId}{n m:Int}(ha:h.at q=.row t 1 0 e true)(ht:Aw t 0=.int .i64 n){k:KV}(hk:∀w t',k (.int .i64 w) (h.put q (.row t' 1 0 e true))):W1 (.func 101) [.ptr q 0,.int .i64 m] h k:=by
 refine Bbx ?_
 refine Dp rfl ?_
 have e1:Gl (.Xl .i64) [.ptr q 0,.int .i64 m] h=some (.int .i64 (wrap .i64 (Bq n m)),h.put q (.row (Aj [.int .i64 (wrap .i64 (Bq n m))] 0 t) 1 0 e true)):=by
  show(Option.rec none (fun v=>Option.rec none (fun n=>Option.rec none (fun m=>Option.rec none (fun h=>some (.int .i64 (wrap .i64 (Bq n m)),h)) (h.write q 0 [.int .i64 (wrap .i64 (Bq n m))])) (isI .i64 (.int .i64 m))) (isI .i64 v)) (h.Ka q 0):Option (AV×H))=_
  rw[Wo ha Nat.one_pos,ht]
  show(Option.rec none (fun h=>some (.int .i64 (wrap .i64 (Bq n m)),h)) (h.write q 0 [.int .i64 (wrap .i64 (Bq n m))]):Option (AV×H))=_
  rw[Wg (cs:=[.int .i64 (wrap .i64 (Bq n m))]) ha (Nat.le_refl _) (Nat.le_refl 1)]
 rw[e1,Ad]
 exact hk _ _
theorem c77{h:H}{q:P}{t:Tm}{e:TypeId}{n m:Int}(ha:h.at q=.row t 1 0 e true)(ht:Aw t 0=.int .i64 n){k:KV}(hk:∀w t',k (.int .i64 w) (h.put q (.row t' 1 0 e true))):W1 (.func 77) [.ptr q 0,.int .i64 m] h k:=by
 refine w77 (n:=1) Bg (g77 ?_)
 unfold Amy
 rw[Am,Ad,Ae]
 refine Bo8 ha ht fun w t'=>?_
 rw[Bj]
 exact hk w t'
theorem Abt{α:Type}:∀(l r:List α),Jh l r=l++r
 |[],_=>rfl
 |a::l,r=>by show a::Jh l r=_;rw[Abt l r];rfl
theorem Adf{p:List UInt8}:∀{es:Es}{fs:List Fl}(i:Nat),es.map (·.1)=fs.map (fun f=>S f.1)→Bl fs p=none→Ee (S p) es i=some none
 |[],[],_,_,_=>rfl
 |[],_::_,_,h,_=>by cases h
 |_::_,[],_,h,_=>by cases h
 |(k,v,b)::es,f::fs,i,h,hn=>by
  rw[List.map_cons,List.map_cons] at h
  injection h with h1 h2
  have h1:k=S f.1:=h1
  subst h1
  have ne:f.1≠p:=fun e=>by rw[Bl,if_pos e] at hn;cases hn
  have hn':Bl fs p=none:=by rw[Bl,if_neg ne] at hn;exact hn
  rw[Af5,Fj,decide_eq_false fun q=>ne q.symm]
  exact Adf (Nat.add i 1) h2 hn'
theorem Adg{p:List UInt8}{v:AV}{b:Nat}:∀{es:Es}(i:Nat),Ee (S p) es i=some none→∃j,Ee (S p) (es++[(S p,v,b)]) i=some (some (v,b,j))
 |[],i,_=>⟨i,by
  show Ee (S p) ((S p,v,b)::[]) i=_
  rw[Af5,Fj,decide_eq_true rfl]⟩
 |(k,v',b')::es,i,h=>by
  have e:∀(es:Es)(i:Nat),Ee (S p) ((k,v',b')::es) i=(Option.rec none (fun t=>Bool.rec (Ee (S p) es (Nat.add i 1)) (some (some (v',b',i))) t) (Vm (S p) k):Option Hit):=fun _ _=>rfl
  rw[e] at h
  show∃j,Ee (S p) ((k,v',b')::(es++[(S p,v,b)])) i=_
  rw[e]
  cases q:Vm (S p) k with
  |none=>rw[q] at h;cases h
  |some t=>
   rw[q] at h
   cases t with
   |true=>cases h
   |false=>exact Adg (es:=es) (Nat.add i 1) h
theorem Au1(q:P)(l c:Nat)(h:H):Db env 77 (.map q) (.str l c) false h=(Option.rec none (fun p=>Fv env 193 false (Ee (.str l c) p.1 0) h) (Kt (h.at q)):Option (AV×H)):=by kernel_rfl
theorem A0s(h:H):Fv env 193 false (some none) h=some (.Cm,h):=by kernel_rfl
theorem Bct(q:P)(l c:Nat)(v:AV)(h:H):Dj env 77 (.map q) (.str l c) v h=(Option.rec none (fun p=>Oq q (.str l c) v p.1 p.2 (Ee (.str l c) p.1 0) h) (Kt (h.at q)):Option (AV×H)):=by kernel_rfl
theorem Bcu(q:P)(l c:Nat)(v:AV)(h:H):Dj env 76 (.map q) (.str l c) v h=(Option.rec none (fun p=>Oq q (.str l c) v p.1 p.2 (Ee (.str l c) p.1 0) h) (Kt (h.at q)):Option (AV×H)):=by kernel_rfl
theorem Bei(q:P)(h:H):Qc env [76] (.map q) h=(Option.rec none (fun p=>some (.int .i64 (.ofNat (len p.1)),h)) (Kt (h.at q)):Option (AV×H)):=by kernel_rfl
theorem Bn3:Hh env .eql 193 .Cm .Cm=some (.bool true):=by kernel_rfl
theorem Bfo(h:H):Ax env (env.ty 143) [] h=some (.agg [.int .i64 (.ofNat 0)],h):=by kernel_rfl
theorem Ahy{q:P}{p:List UInt8}{v:AV}{es:Es}{ck:Nat}{h:H}(hn:Ee (S p) es 0=some none):Oq q (S p) v es ck (Ee (S p) es 0) h=some (.undef,h.put q (.map (es++[(S p,v,ck)]) (ck+1))):=by
 rw[hn,←Abt];rfl
theorem c52{h:H}{pT pF pV:P}{es:Es}{ck:Nat}{p:List UInt8}(hT:AtP h pT 0 [.Ai,.map pF,.map pV])(nT:pT.nat<h.next.nat)(nV:pV.nat<h.next.nat)(hV:h.at pV=.map es ck)(hn:Ee (S p) es 0=some none){k:KV}
 (hk:∀h' v ck',FrX (fun c=>c=pV) h h'→h'.at pV=.map (es++[(S p,v,ck)]) ck'→k (.tuple []) h'):W1 (.func 52) [.ptr pT 0,S p] h k:=by
 have neT:pT≠pV:=fun e=>Abs hT (by rw[e];exact hV)
 refine w52 (n:=2) Bg (g52 ?_)
 unfold Anq
 rw[Am,Ad,Ae]
 refine hT.ld1 (j:=2) (by show 2<3;decide) ?_
 show oK (Db env 77 (.map pV) (S p) false h) _
 rw[Au1,hV]
 show oK (Fv env 193 false (Ee (S p) es 0) h) _
 rw[hn,A0s,Ad,Bn3,Uu,Bn]
 refine Dp rfl ?_
 rw[Am,Ad,Ae]
 refine hT.ld1 (j:=2) (by show 2<3;decide) ?_
 show oK (Ax env (env.ty 143) [] h) _
 rw[Bfo,Ad,Fu]
 refine Ft (by simp) (Cy ?_)
 have x1:Exh h (h.new (rowOf 143 [.int .i64 (.ofNat 0)])):=.new
 have a1:(h.new (rowOf 143 [.int .i64 (.ofNat 0)])).at h.next=.row (Aj [.int .i64 (.ofNat 0)] 0 .e) 1 0 143 true:=Bc _ _
 generalize h.new (rowOf 143 [.int .i64 (.ofNat 0)])=h1 at x1 a1 ⊢
 have x11:=x1.1
 have hV1:h1.at pV=.map es ck:=by rw[x1.2 _ nV];exact hV
 show oK (Dj env 77 (.map pV) (S p) (.ptr h.next 0) h1) _
 rw[Bct,hV1]
 show oK (Oq pV (S p) (.ptr h.next 0) es ck (Ee (S p) es 0) h1) _
 rw[Ahy hn,Ad]
 have ne:h.next≠pV:=fun e=>by rw[←e] at nV;exact Nat.lt_irrefl _ nV
 have hV2:(h1.put pV (.map (es++[(S p,.ptr h.next 0,ck)]) (ck+1))).at pV=.map (es++[(S p,.ptr h.next 0,ck)]) (ck+1):=Ba _ _ _
 have hT2:AtP (h1.put pV (.map (es++[(S p,.ptr h.next 0,ck)]) (ck+1))) pT 0 [.Ai,.map pF,.map pV]:=(hT.ext x1 nT).frame (Az neT)
 have a2:(h1.put pV (.map (es++[(S p,.ptr h.next 0,ck)]) (ck+1))).at h.next=.row (Aj [.int .i64 (.ofNat 0)] 0 .e) 1 0 143 true:=by rw[Az ne];exact a1
 have x2:FrX (fun c=>c=pV) h (h1.put pV (.map (es++[(S p,.ptr h.next 0,ck)]) (ck+1))):=x1.frx.trans (.put rfl)
 generalize h1.put pV (.map (es++[(S p,.ptr h.next 0,ck)]) (ck+1))=h2 at hV2 hT2 a2 x2 ⊢
 refine Bey ?_
 unfold Anp
 rw[Am,Ad,Ae]
 refine hT2.ld1 (j:=2) (by show 2<3;decide) ?_
 show oK (Db env 77 (.map pV) (S p) false h2) _
 rw[Au1,hV2]
 obtain⟨j,hj⟩:=Adg (v:=.ptr h.next 0) (b:=ck) 0 hn
 show oK (Fv env 193 false (Ee (S p) (es++[(S p,.ptr h.next 0,ck)]) 0) h2) _
 rw[hj]
 show oK (some (.ptr h.next 0,h2)) _
 rw[Ad]
 refine c77 (n:=.ofNat 0) a2 (by kernel_rfl) fun w t'=>?_
 rw[Bj]
 refine hk _ (.ptr h.next 0) (ck+1) ⟨by rw[Dq];exact x2.1,fun c hc hne=>?_⟩ (by rw[Az ne.symm];exact hV2)
 rw[Az fun e=>by subst e;exact Nat.lt_irrefl _ hc,x2.2 c hc hne]
theorem FsP.snoc{h:H}{p x:List UInt8}{q:P}{b:Nat}:∀{es:Es}{fs:List Fl},FsP h es fs→Eb 4 h (.ptr q 0) x→FsP h (es++[(S p,.ptr q 0,b)]) (fs++[(p,x)])
 |[],[],_,hr=>⟨rfl,hr,⟨q,rfl⟩,trivial⟩
 |_::_,_::_,⟨h1,h2,h3,h4⟩,hr=>⟨h1,h2,h3,FsP.snoc h4 hr⟩
 |[],_::_,h,_=>h.elim
 |_::_,[],h,_=>h.elim
theorem FsP.none{h:H}{p:List UInt8}{es:Es}{fs:List Fl}(hf:FsP h es fs)(hn:Bl fs p=none):Ee (S p) es 0=some none:=by
 rcases hf.look (p:=p) 0 with⟨_,e⟩|⟨x,_,_,_,e,_⟩
 · exact e
 · rw[hn] at e;cases e
theorem c28{h:H}{pT pF pV q:P}{fs:List Fl}{p x:List UInt8}(tb:Sq h pT pF pV fs)(hn:Bl fs p=none)(hr:Eb 4 h (.ptr q 0) x){k:KV}
 (hk:∀h',FrX (fun c=>c=pF∨c=pV) h h'→Sq h' pT pF pV (fs++[(p,x)])→k (.int .i64 (Int.ofNat 0)) h'):W1 (.func 28) [.ptr pT 0,S p,.ptr q 0,.int .i64 (Int.ofNat 0)] h k:=by
 obtain⟨es,ck,hF,hfs,hlen⟩:=tb.files
 obtain⟨ev,cv,hV,hkeys⟩:=tb.Aq8
 have nF:=hfs.none hn
 have nV:=Adf 0 hkeys hn
 have neF:pT≠pF:=fun e=>Abs tb.row (by rw[e];exact hF)
 have neV:pT≠pV:=fun e=>Abs tb.row (by rw[e];exact hV)
 refine w28 (n:=1) Bg (g28 ?_)
 unfold Aon
 refine Dp rfl ?_
 rw[Am,Ad,Ae]
 refine tb.row.ld1 (j:=1) (by show 1<3;decide) ?_
 show oK (Dj env 76 (.map pF) (S p) (.ptr q 0) h) _
 rw[Bcu,hF]
 show oK (Oq pF (S p) (.ptr q 0) es ck (Ee (S p) es 0) h) _
 rw[Ahy nF,Ad]
 have x1:FrX (fun c=>c=pF) h (h.put pF (.map (es++[(S p,.ptr q 0,ck)]) (ck+1))):=.put rfl
 have hF1:(h.put pF (.map (es++[(S p,.ptr q 0,ck)]) (ck+1))).at pF=.map (es++[(S p,.ptr q 0,ck)]) (ck+1):=Ba _ _ _
 have hV1:(h.put pF (.map (es++[(S p,.ptr q 0,ck)]) (ck+1))).at pV=.map ev cv:=by rw[Az tb.ne.symm];exact hV
 have hT1:AtP (h.put pF (.map (es++[(S p,.ptr q 0,ck)]) (ck+1))) pT 0 [.Ai,.map pF,.map pV]:=tb.row.frame (Az neF)
 have n1:(h.put pF (.map (es++[(S p,.ptr q 0,ck)]) (ck+1))).next=h.next:=rfl
 generalize h.put pF (.map (es++[(S p,.ptr q 0,ck)]) (ck+1))=h1 at x1 hF1 hV1 hT1 n1 ⊢
 refine c52 hT1 (by rw[n1];exact tb.nT) (by rw[n1];exact tb.nV) hV1 nV fun h2 v ck' x2 hV2=>?_
 have x12:FrX (fun c=>c=pF∨c=pV) h h2:=(x1.weak fun c e=>.inl e).trans (x2.weak fun c e=>.inr e)
 have hF2:h2.at pF=.map (es++[(S p,.ptr q 0,ck)]) (ck+1):=by rw[x2.2 pF (by rw[n1];exact tb.nF) tb.ne];exact hF1
 have ok:∀q' cs,AtP h q' 0 cs→cs.length=5→¬(q'=pF∨q'=pV):=fun q' cs ha _ e=>e.elim (fun e=>by subst e;exact Abs ha hF) fun e=>by subst e;exact Abs ha hV
 refine hk h2 x12 ⟨hT1.frame (x2.2 pT (by rw[n1];exact tb.nT) neV),Nat.lt_of_lt_of_le tb.nT x12.1,Nat.lt_of_lt_of_le tb.nF x12.1,Nat.lt_of_lt_of_le tb.nV x12.1,tb.ne,⟨_,_,hF2,(hfs.mono fun v s r=>r.frx x12 ok).snoc (hr.frx x12 ok),by rw[List.length_append,List.length_append,hlen];rfl⟩,⟨_,_,hV2,by rw[List.map_append,List.map_append,hkeys];rfl⟩⟩
def crE(fs:List Fl)(p:List UInt8):Nat:=if Me p=true then(if(Bl fs p).isSome=true then 3 else 0) else 1
def crF(fs:List Fl)(p x:List UInt8):List Fl:=if crE fs p=0 then fs++[(p,x)] else fs
theorem Awy{fs:List Fl}{p:List UInt8}:crE fs p=0↔Me p=true∧Bl fs p=none:=by
 unfold crE
 by_cases a:Me p=true
 · rw[if_pos a]
   cases e:Bl fs p with
   |none=>simp[a]
   |some y=>simp
 · rw[if_neg a]
   simp[a]
theorem c14{h:H}{pT pF pV:P}{fs:List Fl}{p x:List UInt8}(tb:Sq h pT pF pV fs)(h50:fs.length<50)(hp:p.length≤1000000)(hx:x.length≤2048){k:KV}
 (hk:∀h',FrX (fun c=>c=pF∨c=pV) h h'→Sq h' pT pF pV (crF fs p x)→k (.int .i64 (Int.ofNat (crE fs p))) h'):W1 (.func 14) [.ptr pT 0,S p,S x] h k:=by
 refine w14 (n:=1) Bg (g14 ?_)
 unfold Ao2
 rw[A89,Uu,Bn]
 refine Cp rfl ?_
 refine c24 hp fun h1 x1=>?_
 have tb1:=tb.ext x1
 rw[Bn,Gv]
 refine Br (fun e=>?_) (fun e=>?_)
 · have e:Me p=false:=by cases w:Me p with
    |true=>rw[w] at e;cases e
    |false=>rfl
   have e1:crE fs p=1:=by unfold crE;rw[if_neg (by rw[e];decide)]
   have e2:crF fs p x=fs:=by unfold crF;rw[e1];rfl
   rw[e1,e2] at hk
   exact hk _ x1.frx tb1
 have e:Me p=true:=by cases w:Me p with
  |true=>rfl
  |false=>rw[w] at e;cases e
 rw[Am,Ad,Ae]
 refine tb1.row.ld1 (j:=1) (by show 1<3;decide) ?_
 refine tb1.get p fun v hv=>?_
 rw[Hu,Ht,Bn]
 refine Br (fun q=>?_) (fun q=>?_)
 · have e1:crE fs p=3:=by unfold crE;rw[if_pos e,if_pos q]
   have e2:crF fs p x=fs:=by unfold crF;rw[e1];rfl
   rw[e1,e2] at hk
   exact hk _ x1.frx tb1
 have hn:Bl fs p=none:=by
  cases w:Bl fs p with
  |none=>rfl
  |some y=>rw[w] at q;cases q
 have e1:crE fs p=0:=Awy.2 ⟨e,hn⟩
 have e2:crF fs p x=fs++[(p,x)]:=by unfold crF;rw[if_pos e1]
 rw[e1,e2] at hk
 rw[Am,Ad,Ae]
 refine tb1.row.ld1 (j:=1) (by show 1<3;decide) ?_
 obtain⟨es,ck,hF,hfs,hlen⟩:=tb1.files
 show oK (Qc env [76] (.map pF) h1) _
 rw[Bei,hF]
 show oK (some (.int .i64 (.ofNat (len es)),h1)) _
 rw[Ad,Bj,De,hlen,ile]
 refine Cp (decide_eq_false (by omega)) ?_
 refine c27 hx fun h2 q2 x2 r2=>?_
 rw[Hu,Ht,Bj]
 refine c28 (tb1.ext x2) hn r2 fun h3 x3 t3=>?_
 rw[Bj]
 exact hk h3 ((x1.trans x2).frx.trans x3) t3
end Go.Den
