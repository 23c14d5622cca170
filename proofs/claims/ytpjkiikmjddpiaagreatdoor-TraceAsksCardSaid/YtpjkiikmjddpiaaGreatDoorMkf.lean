/-
  A part of the proof: rows that are read as arguments; what is appended to a literal; what else is left.
-/
import Derived.Test.YtpjkiikmjddpiaaGreatDoorTad
import Derived.Test.YtpjkiikmjddpiaaGreatDoorVar
namespace Go.Den
open Go.RowKit
set_option maxRecDepth 100000
theorem read_cf{h:H}{q:P}{c:Nat→AV}{m:Nat}(f:CellF h q c m){o n:Nat}(hn:o+n≤m):h.read q o n=some ((List.range n).map fun i=>c (o+i)):=by
  unfold Hp.read Hp.readK
  rcases f with⟨t,z,e,w,ha,rfl⟩|ha
  · rw[ha]
    show(rdRow o n none some t m:Option (List AV))=_
    unfold rdRow
    rw[show Nat.ble (Nat.add o n) m=true from Nat.ble_eq_true_of_le hn]
    show some (getCells t n o)=_
    rw[getCells_eq]
  · rw[ha]
    show(rdExt o n none some c m:Option (List AV))=_
    unfold rdExt
    rw[show Nat.ble (Nat.add o n) m=true from Nat.ble_eq_true_of_le hn]
    show some (funCells c n o)=_
    rw[funCells_eq]
theorem rowF_flat{sz:Nat}{c:Nat→AV}:∀{L:List (List AV)}{o:Nat},RowF sz o c L→(List.range (L.length*sz)).map (fun i=>c (o+i))=L.flatten
  |[],o,_=>by simp
  |a::L,o,hr=>by
    have ha:=hr 0 (Nat.succ_pos _)
    have h0:a.length=sz:=ha.1
    have ht:RowF sz (o+sz) c L:=fun i hi=>by
      have:=hr (i+1) (Nat.succ_lt_succ hi)
      refine⟨this.1,fun j hj=>?_⟩
      have e:=this.2 j hj
      rw[show o+sz+i*sz+j=o+(i+1)*sz+j by rw[Nat.succ_mul];omega]
      exact e
    rw[List.length_cons,Nat.succ_mul,Nat.add_comm,List.range_add,List.map_append,List.map_map,List.flatten_cons,←rowF_flat ht]
    congr 1
    · apply List.ext_getElem
      · simp[h0]
      · intro i h1 h2
        simp only[List.getElem_map,List.getElem_range]
        have:=ha.2 i h2
        rw[Nat.zero_mul,Nat.add_zero] at this
        exact this
    · exact List.map_congr_left fun i _=>by show c (o+(sz+i))=c (o+sz+i);rw[Nat.add_assoc]
theorem cells_rd{sz:Nat}{h:H}{v:AV}{L:List (List AV)}(hr:Rd sz h v L):cellsOfArg h sz v=some (L.length,L.flatten):=by
  obtain⟨q,o,c,m,b,rfl,h1,h2,h3,h4⟩:=hr
  show(Bool.rec none (Option.rec none (fun cs=>some (L.length,cs)) (h.read q o (Nat.mul L.length sz))) (Nat.beq sz sz):Option (Nat×List AV))=_
  rw[Nat.beq_refl]
  show(Option.rec none (fun cs=>some (L.length,cs)) (h.read q o (L.length*sz)):Option (Nat×List AV))=_
  rw[read_cf h2 h3,rowF_flat h4]
theorem cells_slr{sz:Nat}{h:H}{v:AV}{L:List (List AV)}(hr:SlR sz h v L):cellsOfArg h sz v=some (L.length,L.flatten):=by
  rcases hr with⟨rfl,rfl⟩|hr
  · rfl
  · exact cells_rd hr
theorem Rd.all_sz{sz:Nat}{h:H}{v:AV}{L:List (List AV)}(hr:Rd sz h v L):∀c∈L,c.length=sz:=fun c hc=>by
  obtain⟨q,o,f,m,b,rfl,h1,h2,h3,h4⟩:=hr
  obtain⟨i,hi,rfl⟩:=List.getElem_of_mem hc
  exact(h4 i hi).1
theorem SlR.all_sz{sz:Nat}{h:H}{v:AV}{L:List (List AV)}(hr:SlR sz h v L):∀c∈L,c.length=sz:=by
  rcases hr with⟨rfl,rfl⟩|hr
  · intro c hc;cases hc
  · exact hr.all_sz
/-- a slice that is read, or one of none -/
def SlE(sz:Nat)(h:H)(v:AV)(L:List (List AV)):Prop:=(L=[]∧(v=.nils∨∃b,v=.slice b 0 0 sz false))∨Rd sz h v L
theorem SlE.len{sz:Nat}{h:H}{v:AV}{L:List (List AV)}(hr:SlE sz h v L){K:Nat→Prop}:lenV v K=K L.length:=by
  rcases hr with⟨rfl,rfl|⟨b,rfl⟩⟩|hr
  · rfl
  · rfl
  · exact hr.len
theorem SlE.ext{sz:Nat}{h h':H}{v:AV}{L:List (List AV)}(hr:SlE sz h v L)(x:Exh h h'):SlE sz h' v L:=hr.imp id fun hr=>hr.ext x
theorem SlE.rd{sz:Nat}{h:H}{v:AV}{L:List (List AV)}(hr:SlE sz h v L){i:Nat}(hi:i<L.length):Rd sz h v L:=hr.resolve_left fun e=>by rw[e.1] at hi;cases hi
theorem SlE.sl{sz:Nat}{h:H}{v:AV}{L:List (List AV)}(hr:SlE sz h v L):v=.nils∨∃b o n z t,v=.slice b o n z t:=by
  rcases hr with⟨_,rfl|⟨b,rfl⟩⟩|⟨q,o,c,m,b,rfl,_⟩
  · exact .inl rfl
  · exact .inr ⟨_,_,_,_,_,rfl⟩
  · exact .inr ⟨_,_,_,_,_,rfl⟩
/-! ### What is appended to a literal of none -/
def BufQ(e:TypeId)(sz lo:Nat)(h:H)(v:AV)(L:List (List AV)):Prop:=(L=[]∧∃q,v=.slice q 0 0 sz true∧q.nat<h.next.nat∧h.at q=.row .e 0 0 e true)∨BufN e sz lo h v L
theorem app_q{e:TypeId}{sz lo:Nat}{ei:TI}{h:H}{v x:AV}{L M:List (List AV)}(hb:BufQ e sz lo h v L)(hx:cellsOfArg h sz x=some (M.length,M.flatten))(hM:∀c∈M,c.length=sz)(hsz:ei.size=sz)(hf:fitsMem ei (L.length+M.length)=true)(hlo:lo≤h.next.nat){k:KV}(hk:∀v' h',BufQ e sz lo h' v' (L++M)→(M≠[]→BufN e sz lo h' v' (L++M))→KpS e lo h h'→k v' h'):oK (exAppend (some false) v x h e ei) k:=by
  rcases hb with⟨rfl,q,rfl,hq,ha⟩|hb
  · by_cases hm:M=[]
    · subst hm
      have e1:exAppend (some false) (.slice q 0 0 sz true) x h e ei=some (.slice q 0 0 sz true,h):=by
        show(Option.rec none (fun p=>Bool.rec none (Bool.rec (appTo e ei.size (.slice q 0 0 sz true) p.1 p.2 h) (some (.slice q 0 0 sz true,h)) (Nat.beq p.1 0)) (band true (fitsMem ei (Nat.add 0 p.1)))) (cellsOfArg h ei.size x):Option (AV×H))=_
        rw[hsz,hx]
        show(Bool.rec none (some (.slice q 0 0 sz true,h)) (band true (fitsMem ei (Nat.add 0 0))):Option (AV×H))=_
        rw[show fitsMem ei (Nat.add 0 0)=true from hf];rfl
      rw[e1,oK_some]
      exact hk _ _ (.inl ⟨rfl,q,rfl,hq,ha⟩) (fun e=>absurd rfl e) .refl
    have hbq:Nat.beq M.length 0=false:=by
      cases M with
      |nil=>exact absurd rfl hm
      |cons _ _=>rfl
    have e1:exAppend (some false) (.slice q 0 0 sz true) x h e ei=some (.slice h.next 0 M.length sz false,h.new (.row (tlist M.flatten 0 .e) (Nat.mul M.length sz) 0 e false)):=by
      show(Option.rec none (fun p=>Bool.rec none (Bool.rec (appTo e ei.size (.slice q 0 0 sz true) p.1 p.2 h) (some (.slice q 0 0 sz true,h)) (Nat.beq p.1 0)) (band true (fitsMem ei (Nat.add 0 p.1)))) (cellsOfArg h ei.size x):Option (AV×H))=_
      rw[hsz,hx]
      show(Bool.rec none (Bool.rec (appTo e sz (.slice q 0 0 sz true) M.length M.flatten h) (some (.slice q 0 0 sz true,h)) (Nat.beq M.length 0)) (band true (fitsMem ei (Nat.add 0 M.length))):Option (AV×H))=_
      rw[hbq,show fitsMem ei (Nat.add 0 M.length)=true by rw[show Nat.add 0 M.length=([]:List (List AV)).length+M.length from rfl];exact hf]
      show(Bool.rec none (Option.rec none (fun old=>appNew e sz (Nat.add 0 M.length) (appL old M.flatten) h) (h.read q 0 (Nat.mul 0 sz))) (Nat.beq sz sz):Option (AV×H))=_
      rw[Nat.beq_refl,show Nat.mul 0 sz=0 from Nat.zero_mul sz,read_cf (.inl ⟨_,_,_,_,ha,rfl⟩) (Nat.le_refl 0),show Nat.add 0 M.length=M.length from Nat.zero_add _]
      rfl
    rw[e1,oK_some]
    have hB:BufN e sz lo (h.new (.row (tlist M.flatten 0 .e) (Nat.mul M.length sz) 0 e false)) (.slice h.next 0 M.length sz false) ([]++M):=by
      refine .inr ⟨h.next,tlist M.flatten 0 .e,Nat.mul M.length sz,0,false,rfl,hlo,by rw[next_new];omega,at_new_same _ _,Nat.le_refl _,Nat.zero_le _,?_⟩
      have:=RowL.appM (t:=.e) (RowL.nil (sz:=sz) (o:=0)) hM
      rwa [show([]:List (List AV)).length*sz=0 by simp] at this
    exact hk _ _ (.inr hB) (fun _=>hB) .new
  · exact app_ms hb hx hM hsz hf hlo fun v' h' b x=>hk v' h' (.inr b) (fun _=>b) x
theorem KpS.exh{e:TypeId}{lo:Nat}{hE h h':H}(a:Exh hE h)(hl:hE.next.nat≤lo)(b:KpS e lo h h'):Exh hE h':=
  ⟨Nat.le_trans a.1 b.1,fun c hc=>by rw[b.2 c (Nat.lt_of_lt_of_le hc a.1) (.inl (by omega)),a.2 c hc]⟩
/-! ### All is left but some blocks -/
def FrX(X:P→Prop)(h h':H):Prop:=h.next.nat≤h'.next.nat∧∀c,c.nat<h.next.nat→¬X c→h'.at c=h.at c
theorem FrX.refl{X:P→Prop}{h:H}:FrX X h h:=⟨Nat.le_refl _,fun _ _ _=>rfl⟩
theorem FrX.trans{X:P→Prop}{h h1 h2:H}(a:FrX X h h1)(b:FrX X h1 h2):FrX X h h2:=⟨Nat.le_trans a.1 b.1,fun c hc hx=>by rw[b.2 c (Nat.lt_of_lt_of_le hc a.1) hx,a.2 c hc hx]⟩
theorem Exh.frx{X:P→Prop}{h h':H}(x:Exh h h'):FrX X h h':=⟨x.1,fun c hc _=>x.2 c hc⟩
theorem FrX.put{X:P→Prop}{h:H}{q:P}{o:Ob FT}(hq:X q):FrX X h (h.put q o):=⟨by rw[next_put];exact Nat.le_refl _,fun c _ hx=>at_put_o fun e=>hx (by rw[e];exact hq)⟩
theorem FrX.weak{X Y:P→Prop}{h h':H}(x:FrX X h h')(hY:∀c,X c→Y c):FrX Y h h':=⟨x.1,fun c hc hy=>x.2 c hc fun q=>hy (hY c q)⟩
theorem RopeP.frx{X:P→Prop}:∀{d:Nat}{h h':H}{v:AV}{s:List UInt8},RopeP d h v s→FrX X h h'→(∀q cs,AtP h q 0 cs→cs.length=5→¬X q)→RopeP d h' v s
  |0,_,_,_,_,hr,_,_=>hr
  |d+1,h,h',v,s,hr,x,hX=>by
    rcases hr with hr|⟨q,hi,e,hq,hh,hc⟩
    · exact .inl hr
    · refine .inr ⟨q,hi,e,Nat.lt_of_lt_of_le hq x.1,hh,?_⟩
      rcases hc with hc|⟨qa,b,s1,s2,hc,e2,e3,h1,h2⟩
      · exact .inl (hc.frame (x.2 q hq (hX q _ hc rfl)))
      · exact .inr ⟨qa,b,s1,s2,hc.frame (x.2 q hq (hX q _ hc rfl)),e2,e3,RopeP.frx h1 x hX,RopeP.frx h2 x hX⟩
theorem cf_map{h:H}{q:P}{c:Nat→AV}{m ck:Nat}{es:Es}(f:CellF h q c m)(e:h.at q=.map es ck):False:=by
  rcases f with⟨t,z,e',w,ha,_⟩|ha
  · rw[e] at ha;cases ha
  · rw[e] at ha;cases ha
theorem at_map{h:H}{q:P}{o ck:Nat}{cs:List AV}{es:Es}(a:AtP h q o cs)(e:h.at q=.map es ck):False:=by
  obtain⟨_,_,f,_⟩:=a;exact cf_map f e
theorem rd_map{sz ck:Nat}{h:H}{q:P}{o n z:Nat}{b:Bool}{es:Es}{L:List (List AV)}(a:Rd sz h (.slice q o n z b) L)(e:h.at q=.map es ck):False:=by
  obtain⟨_,_,_,_,_,e',_,f,_⟩:=a
  cases e'
  exact cf_map f e
theorem Rd.frx{X:P→Prop}{sz:Nat}{h h':H}{v:AV}{L:List (List AV)}(a:Rd sz h v L)(x:FrX X h h')(hX:∀q o n z b,v=.slice q o n z b→¬X q):Rd sz h' v L:=a.frame x.1 fun c hc o n z b e=>x.2 c hc (hX c o n z b e)
theorem SlR.frx{X:P→Prop}{sz:Nat}{h h':H}{v:AV}{L:List (List AV)}(a:SlR sz h v L)(x:FrX X h h')(hX:∀q o n z b,v=.slice q o n z b→¬X q):SlR sz h' v L:=a.imp id fun a=>a.frx x hX
theorem set_cp{h:H}{q:P}{t:Tm}{e:TypeId}{cs:List AV}{c:Nat}{K:H→Prop}(ha:h.at q=.row t c 0 e true)(hc:cs.length=c)(h1:1≤c)(hk:∀t',AtP (h.put q (.row t' c 0 e true)) q 0 cs→K (h.put q (.row t' c 0 e true))):stn c (.ptr q 0) (.agg cs) h K:=by
  refine stn_i ha (Nat.le_refl _) hc h1 (by omega) (hk _ (.row _ c 0 e true (at_put_same _ _ _) (by omega) fun j hj=>?_))
  rw[tget_tlist,if_pos (by omega),List.getD_eq_getElem?_getD,List.getElem?_eq_getElem (by omega)]
  simp
theorem new_cpr{h:H}{e:TypeId}{zs cs:List AV}{c:Nat}{K:H→Prop}(hz:zs.length=c)(hc:cs.length=c)(h1:1≤c)(hk:∀h' t,Exh h h'→h.next.nat<h'.next.nat→AtP h' h.next 0 cs→h'.at h.next=.row t c 0 e true→K h'):stn c (.ptr h.next 0) (.agg cs) (h.new (rowOf e zs)) K:=by
  have ha:(h.new (rowOf e zs)).at h.next=.row (tlist zs 0 .e) c 0 e true:=by
    rw[at_new_same];unfold rowOf;rw[len_eq,hz]
  refine stn_i ha (Nat.le_refl _) hc h1 (by omega) (hk _ (tlist cs 0 (tlist zs 0 .e)) ⟨by rw[next_put,next_new];omega,fun d hd=>?_⟩ (by rw[next_put,next_new];omega) (.row _ c 0 e true (at_put_same _ _ _) (by omega) fun j hj=>?_) (at_put_same _ _ _))
  · rw[at_put_o (fun e'=>by subst e';omega),at_new_o hd]
  · rw[tget_tlist,if_pos (by omega),List.getD_eq_getElem?_getD,List.getElem?_eq_getElem (by omega)]
    simp
theorem FrX.exh{X:P→Prop}{hE h h':H}(a:Exh hE h)(x:FrX X h h')(hX:∀c,X c→hE.next.nat≤c.nat):Exh hE h':=
  ⟨Nat.le_trans a.1 x.1,fun c hc=>by rw[x.2 c (Nat.lt_of_lt_of_le hc a.1) (fun q=>by have:=hX c q;omega),a.2 c hc]⟩
theorem exh_put{hE h:H}{q:P}{o:Ob FT}(x:Exh hE h)(hq:hE.next.nat≤q.nat):Exh hE (h.put q o):=
  (FrX.put (X:=fun c=>c=q) rfl).exh x fun c e=>by rw[e];exact hq
theorem ext_2{a b c:AV}{l:List AV}{K:AV→Prop}:ext 2 (.tuple (a::b::c::l)) K=K c:=rfl
end Go.Den
