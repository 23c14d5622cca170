/-
 Proof.
-/
import Derived.Test.YtheajahjkmfeaaaGreatDoorLpg
noncomputable section
namespace Go.Den
open Go.RowKit
set_option maxRecDepth 100000
open Go.Lx (Rn bts Bt Er Ke toR Rh Au)
abbrev LnV:=List (Nat×Bool)×Nat×Nat×Bool
def Afn(L:List Rn)(n e:Nat):Nat:=if e<L.length then toR L e else n
def Jc(L:List Rn)(n:Nat):Nat→Nat→Nat→List LnV
 |0,_,_=>[]
 |k+1,a,fr=>if L.length≤a then[] else((Dd L (L.length+2) a false).1,fr,Afn L n (Dd L (L.length+2) a false).2.1,(Dd L (L.length+2) a false).2.2)::Jc L n k ((Dd L (L.length+2) a false).2.1+1) (Afn L n (Dd L (L.length+2) a false).2.1)
def Ot(L:List Rn):Nat→Nat→Bool
 |0,_=>true
 |k+1,a=>if L.length≤a then true else Qy L (L.length+2) a false&&Ot L k ((Dd L (L.length+2) a false).2.1+1)
def Age(n:Nat)(X:List LnV):List LnV:=match X[X.length-1]? with
 |some y=>X.set (X.length-1) (y.1,y.2.1,n,y.2.2.2)
 |none=>X
theorem Aij(L:List Rn):∀(k a:Nat)(sp:Bool),a≤L.length→a≤(Dd L k a sp).2.1
 |0,a,_,_=>Nat.le_refl _
 |k+1,a,sp,ha=>by
  have h1:=Qm L (L.length+2) a sp false
  unfold Dd
  split
  · exact h1
  · rename_i c
    have hlt:(Di L (L.length+2) a sp false).1<L.length:=by
     rcases Nat.lt_or_ge (Di L (L.length+2) a sp false).1 L.length with h|h
     · exact h
     · exact absurd (.inl h) c
    have nl:=Go.Lx.Lt (s:=(bts L).drop (Di L (L.length+2) a sp false).1) (fun e=>by
     have:=congrArg List.length e
     rw[List.length_drop,Cl] at this
     have:L.length-(Di L (L.length+2) a sp false).1=0:=this
     omega)
    rw[List.length_drop,Cl] at nl
    have:=Aij L k ((Di L (L.length+2) a sp false).1+(Go.Lx.Ds ((bts L).drop (Di L (L.length+2) a sp false).1)).2.1) false (by omega)
    show a≤(Dd L k ((Di L (L.length+2) a sp false).1+(Go.Lx.Ds ((bts L).drop (Di L (L.length+2) a sp false).1)).2.1) false).2.1
    omega
theorem Zs(L:List Rn):∀(k a:Nat)(sp o:Bool),a≤L.length→(Di L k a sp o).1≤L.length
 |0,a,sp,o,h=>h
 |k+1,a,sp,o,h=>by
  unfold Di
  split
  · exact h
  · rename_i c
    split
    · exact h
    · split
      · exact Zs L k (a+1) true o (by omega)
      · split
        · exact h
        · rename_i n b hc
          have:=Agk hc
          rw[List.length_drop,Cl] at this
          exact Zs L k (a+n) true b (by omega)
theorem Aii(L:List Rn):∀(k a:Nat)(sp:Bool),a≤L.length→(Dd L k a sp).2.1≤L.length
 |0,a,_,h=>h
 |k+1,a,sp,ha=>by
  have h1:=Zs L (L.length+2) a sp false ha
  unfold Dd
  split
  · exact h1
  · rename_i c
    have hlt:(Di L (L.length+2) a sp false).1<L.length:=by
     rcases Nat.lt_or_ge (Di L (L.length+2) a sp false).1 L.length with h|h
     · exact h
     · exact absurd (.inl h) c
    have nl:=Go.Lx.Lt (s:=(bts L).drop (Di L (L.length+2) a sp false).1) (fun e=>by
     have:=congrArg List.length e
     rw[List.length_drop,Cl] at this
     have:L.length-(Di L (L.length+2) a sp false).1=0:=this
     omega)
    rw[List.length_drop,Cl] at nl
    exact Aii L k ((Di L (L.length+2) a sp false).1+(Go.Lx.Ds ((bts L).drop (Di L (L.length+2) a sp false).1)).2.1) false (by omega)
theorem A0p{h:H}{e:TypeId}{zs cs:List AV}{c:Nat}{K:H→Prop}(hz:zs.length=c)(hc:cs.length=c)(h1:1≤c)(hk:∀h' t,Exh h h'→h'.next.nat=h.next.nat+1→(∀j (hj:j<cs.length),Aw t j=cs[j])→h'.at h.next=.row t c 0 e true→K h'):stn c (.ptr h.next 0) (.agg cs) (h.new (rowOf e zs)) K:=by
 have ha:(h.new (rowOf e zs)).at h.next=.row (Aj zs 0 .e) c 0 e true:=by
  rw[Bc];unfold rowOf;rw[De,hz]
 refine Amb ha (Nat.le_refl _) hc h1 (by omega) (hk _ (Aj cs 0 (Aj zs 0 .e)) ⟨by rw[Dq,Bf];omega,fun d hd=>?_⟩ (by rw[Dq,Bf]) (fun j hj=>?_) (Ba _ _ _))
 · rw[Az (fun e'=>by subst e';omega),Gq hd]
 · rw[Ah,if_pos (by omega),List.getD_eq_getElem?_getD,List.getElem?_eq_getElem (by omega)]
   simp
theorem Cb.low{e:TypeId}{sz lo lo':Nat}{h:H}{v:AV}{M:List (List AV)}(hb:Cb e sz lo h v M)(hl:lo'≤lo):Cb e sz lo' h v M:=by
 rcases hb with hb|⟨q,t,m,z,w,e1,h1,h2⟩
 · exact .inl hb
 · exact .inr ⟨q,t,m,z,w,e1,by omega,h2⟩
def Nv(lo:Nat)(h:H)(fl:List UInt8)(L:List Rn)(Lc:List (List AV))(X:List LnV):Prop:=Lc.length=X.length∧∀i (h1:i<Lc.length) (h2:i<X.length),∃vt,Lc[i]=[vt,.int .i64 (Int.ofNat X[i].2.1),.int .i64 (Int.ofNat X[i].2.2.1),.bool X[i].2.2.2]∧Cb TTk 8 lo h vt (Ev fl L X[i].1)
section
variable{h:H}{pW:P}{fl:List UInt8}{L:List Rn}{a lo:Nat}{D:List (List AV)}{sp:Bool}{q:Int}{Lc:List (List AV)}{X:List LnV}
theorem Nv.fr{h':H}(o:Nv lo h fl L Lc X)(hn:h.next.nat≤h'.next.nat)(hf:∀c,c.nat<h.next.nat→(∃t m z w,h.at c=.row t m z TTk w)→h'.at c=h.at c):Nv lo h' fl L Lc X:=by
 refine⟨o.1,fun i h1 h2=>?_⟩
 obtain⟨vt,e,b⟩:=o.2 i h1 h2
 exact⟨vt,e,b.frame hn fun c hc _ t m z w ha=>hf c hc ⟨t,m,z,w,ha⟩⟩
theorem Nv.snoc{x:LnV}{vt:AV}(o:Nv lo h fl L Lc X)(hb:Cb TTk 8 lo h vt (Ev fl L x.1)):Nv lo h fl L (Lc++[[vt,.int .i64 (Int.ofNat x.2.1),.int .i64 (Int.ofNat x.2.2.1),.bool x.2.2.2]]) (X++[x]):=by
 have h0:=o.1
 refine⟨by rw[List.length_append,List.length_append,h0];rfl,fun i h1 h2=>?_⟩
 rcases Nat.lt_or_ge i Lc.length with h3|h3
 · rw[List.getElem_append_left h3,List.getElem_append_left (by omega)]
   exact o.2 i h3 (by omega)
 · have e:i=Lc.length:=by rw[List.length_append,List.length_singleton] at h1;omega
   subst e
   rw[List.getElem_append_right (Nat.le_refl _),List.getElem_append_right (by omega)]
   simp only[h0,Nat.sub_self,List.getElem_cons_zero]
   exact⟨vt,rfl,hb⟩
theorem Nv.fix{n:Nat}(o:Nv lo h fl L Lc X)(hi:Lc.length-1<Lc.length):Nv lo h fl L (Lc.set (Lc.length-1) ((Lc[Lc.length-1]).set 2 (.int .i64 (Int.ofNat n)))) (Age n X):=by
 have h0:=o.1
 have hx:X.length-1<X.length:=by omega
 have e:Age n X=X.set (X.length-1) (X[X.length-1].1,X[X.length-1].2.1,n,X[X.length-1].2.2.2):=by
  unfold Age;rw[List.getElem?_eq_getElem hx]
 rw[e]
 refine⟨by rw[List.length_set,List.length_set,h0],fun i h1 h2=>?_⟩
 rw[List.length_set] at h1 h2
 obtain⟨vt,e1,b⟩:=o.2 i h1 h2
 rw[List.getElem_set,List.getElem_set]
 by_cases c:Lc.length-1=i
 · have c':X.length-1=i:=by omega
   subst c
   rw[if_pos rfl,if_pos c',e1]
   simp only[c']
   exact⟨vt,rfl,b⟩
 · have c':¬X.length-1=i:=by omega
   rw[if_neg c,if_neg c']
   exact⟨vt,e1,b⟩
def Bpe:Tm:=Aj [.Ai,.int .i64 (.ofNat 0),.int .i64 (.ofNat 0),.bool false] 0 .e
theorem Ba9(a b c d:AV)(h:H):Ap env 103 (fun t ei=>Ak 1 [(0,.agg [a,b,c,d])] h t ei)=some (.slice h.next 0 1 4 true,h.new (.row (Aj [a,b,c,d] 0 Bpe) 4 0 TLn true)):=by kernel_rfl
theorem Bbj(x y:AV)(h:H):Ar env .append [103,103] [x,y] h=Co (some false) x y h TLn (Hz TLn):=by kernel_rfl
theorem Bdc:(Hz TLn).size=4:=by kernel_rfl
theorem A1g{n:Nat}(hn:n≤1099511627776):Bv (Hz TLn) n=true:=Lv (by kernel_rfl) (by kernel_rfl) hn
theorem A0x{h1 h:H}{vo vt:AV}{p:P}{t:Tm}{e fr to:Nat}{o:Bool}{T:List (Nat×Bool)}{K:Int→AV→H→Prop}(hl:L.length≤1000000)(he:e≤L.length)(s:Wd h pW fl L e D sp q)(hp:h1.next.nat≤p.nat)(hpn:p.nat<h.next.nat)(hW:pW.nat<h1.next.nat)(hr:h.at p=.row t 4 0 TLn true)(f0:Aw t 0=vt)(f1:Aw t 1=.int .i64 (Int.ofNat fr))(f2:Aw t 2=.int .i64 (Int.ofNat to))(f3:Aw t 3=.bool o)
 (hn:h1.next.nat≤h.next.nat) (hf:∀c,c.nat<h1.next.nat→c≠pW→h.at c=h1.at c) {tw:Tm} (hw1:h1.at pW=.row tw 6 0 TWk true) (hz:He TLn 4 (pW.nat+1) h1 vo Lc) (ho:Nv (pW.nat+1) h1 fl L Lc X) (hb:Cb TTk 8 (pW.nat+1) h1 vt (Ev fl L T)) (hLc:Lc.length≤2000000)
 (hk:∀v' h',Wd h' pW fl L (e+1) D sp q→He TLn 4 (pW.nat+1) h' v' (Lc++[[vt,.int .i64 (Int.ofNat fr),.int .i64 (Int.ofNat to),.bool o]])→Nv (pW.nat+1) h' fl L (Lc++[[vt,.int .i64 (Int.ofNat fr),.int .i64 (Int.ofNat to),.bool o]]) (X++[(T,fr,to,o)])→h1.next.nat≤h'.next.nat→(∀c,c.nat<pW.nat→h'.at c=h1.at c)→K (Int.ofNat to) v' h'):
 oK (Ag (.ptr pW 0) h) fun v60 h61=>Ac 2 v60 fun v62=>ld1 v62 h61 fun v63=>asI .i64 v63 fun n64=>fI (wrap .i64 (Bq n64 (Int.ofNat 1))) fun n65=>
  oK (Ag (.ptr pW 0) h61) fun v66 h67=>Ac 2 v66 fun v68=>st1 v68 (.int .i64 n65) h67 fun h69=>
   Ac 2 (.ptr p 0) fun v70=>ld1 v70 h69 fun v71=>asI .i64 v71 fun n72=>ldn 4 (.ptr p 0) h69 fun v73=>
    oK (Ap env 103 (fun e ei=>Ak 1 [(0,v73)] h69 e ei)) fun v74 h75=>
     oK (Ar env .append [103,103] [vo,v74] h75) fun v76 h77=>K n72 v76 h77:=by
 have hpp:p≠pW:=fun e=>by subst e;omega
 refine s.pos (Bw (by omega) (s.setPos (b:=e+1) (Nat.le_succ _) fun h2 x2 n2 y2 s2=>?_))
 have r2:h2.at p=.row t 4 0 TLn true:=by rw[y2 p hpp];exact hr
 rw[Ae]
 refine Eh r2 (by decide) ?_
 rw[show Aw t (0+2)=.int .i64 (Int.ofNat to) from f2,Bj]
 refine Au5 (c:=4) r2 (by decide) ?_
 rw[show Dy t 4 0=[Aw t 0,Aw t 1,Aw t 2,Aw t 3] from rfl,f0,f1,f2,f3,Ba9,Ad,Bbj]
 have kp:∀c,c.nat<h1.next.nat→c≠pW→h2.at c=h1.at c:=fun c hc hcp=>by rw[y2 c hcp,hf c hc hcp]
 have m2:h1.next.nat≤h2.next.nat:=by rw[n2];exact hn
 have z2:He TLn 4 (pW.nat+1) h2 vo Lc:=hz.frame m2 fun c hc _ t' m' z' w' e'=>kp c hc fun q=>by subst q;rw[hw1] at e';cases e'
 have o2:Nv (pW.nat+1) h2 fl L Lc X:=ho.fr m2 fun c hc ⟨t',m',z',w',e'⟩=>kp c hc fun q=>by subst q;rw[hw1] at e';cases e'
 have b2:Cb TTk 8 (pW.nat+1) h2 vt (Ev fl L T):=hb.frame m2 fun c hc _ t' m' z' w' e'=>kp c hc fun q=>by subst q;rw[hw1] at e';cases e'
 have nW:pW.nat+1≤h2.next.nat:=by omega
 refine Bj3 (lo:=pW.nat+1) (ds:=[vt,.int .i64 (Int.ofNat fr),.int .i64 (Int.ofNat to),.bool o]) (z2.ext .new) rfl Bdc (A1g (by omega)) (by rw[Bf];omega) rfl rfl fun v' h' b' k'=>?_
 have x3:KpS TLn (pW.nat+1) h2 h':=(Exh.kps .new).trans k'
 have o3:Nv (pW.nat+1) h' fl L Lc X:=o2.fr x3.1 fun c hc ⟨t',m',z',w',e'⟩=>x3.2 c hc (.inr fun t2 m2 z2 w2 e2=>by rw[e'] at e2;cases e2)
 refine hk v' h' (s2.kps x3 (Nat.le_refl _) (by decide)) b' (o3.snoc (x:=(T,fr,to,o)) (b2.kps x3 (by decide))) (Nat.le_trans m2 x3.1) fun c hc=>?_
 rw[x3.2 c (by omega) (.inl (by omega)),kp c (by omega) fun e=>by subst e;exact Nat.lt_irrefl _ hc]
structure LnK(hE:H)(fl:List UInt8)(L:List Rn)(X:List LnV)(cl:Bool)(k:KV):Prop where
 go:∀h' lo vo vd D Lc,Exh hE h'→hE.next.nat≤lo→lo≤h'.next.nat→He TLn 4 lo h' vo Lc→Nv lo h' fl L Lc X→Cb TDg 4 lo h' vd D→(cl=true→D=[])→D.length≤L.length+1→k (.tuple [vo,vd]) h'
theorem A37 (hl : L.length ≤ 1000000) {hE : H} {s : List UInt8} (hs : s.length ≤ 900000) {k : KV} : ∀ (m n : Nat) {h : H} {a fr : Nat} {D : List (List AV)} {sp : Bool} {q : Int} {Lc : List (List AV)} {X : List LnV} {vo : AV}, L.length + 1 - a < m → 2 * m ≤ n → D.length ≤ a → a ≤ L.length + 1 → Lc.length ≤ a → hE.next.nat ≤ pW.nat → Exh hE h → Wd h pW fl L a D sp q → He TLn 4 (pW.nat + 1) h vo Lc → Nv (pW.nat + 1) h fl L Lc X →
    ∀ {C0 : Bool} (_ : C0 = true → D = []), LnK hE fl L (Age s.length (X ++ Jc L s.length m a fr)) (C0 && Ot L m a) k → (r39 W1 k n).a1 s.length (enc s) vo (.ptr pW 0) (Int.ofNat fr) h
  | 0, n, h, a, fr, D, sp, q, Lc, X, vo, hm, _, _, _, _, _, _, _, _, _, _, _, _ => absurd hm (Nat.not_lt_zero _)
  | m + 1, n, h, a, fr, D, sp, q, Lc, X, vo, hm, hn, hD, ha, hLc, hEW, x, w, hz, ho, C0, hC0, K => by
    obtain ⟨n, rfl⟩ : ∃ n', n = n' + 1 := ⟨n - 1, by omega⟩
    refine Be8 ?_
    unfold An8
    refine w.pos (w.l fun v hr => ?_)
    rw [hr.len, Dh, ilt]
    obtain ⟨n, rfl⟩ : ∃ m, n = m + 1 := ⟨n - 1, by omega⟩
    have hW := w.n
    refine Br (fun c => ?_) (fun c => ?_)
    · have c : a < L.length := of_decide_eq_true c
      obtain ⟨vd, wk, _⟩ := w.w
      obtain ⟨tw, hwr⟩ := wk.Wm
      refine c63 hl hD (by omega) w fun h1 D1 q1 sp1 vt x1 w1 cl1 b1 d1 => ?_
      have le := Aij L (L.length + 2) a false (by omega)
      have X1 : Exh hE h1 := x1.exh x (by omega) hEW
      obtain ⟨vd1, wk1, _⟩ := w1.w
      obtain ⟨tw1, hwr1⟩ := wk1.Wm
      have z1 : He TLn 4 (pW.nat + 1) h1 vo Lc := hz.frame x1.1 fun c hc _ t m z w e => x1.2 c hc (fun q => by subst q; rw [hwr] at e; cases e) (.inr fun t2 m2 z2 w2 e2 => by rw [e] at e2; cases e2)
      have o1 : Nv (pW.nat + 1) h1 fl L Lc X := ho.fr x1.1 fun c hc ⟨t, m, z, w, e⟩ => x1.2 c hc (fun q => by subst q; rw [hwr] at e; cases e) (.inr fun t2 m2 z2 w2 e2 => by rw [e] at e2; cases e2)
      have b1 := b1.low (show pW.nat + 1 ≤ h.next.nat by omega)
      have hW1 := w1.n
      refine Cy ?_
      refine A0p (e := TLn) (zs := [.Ai, .int .i64 (.ofNat 0), .int .i64 (.ofNat 0), .bool false]) (cs := [vt, .int .i64 (.ofNat 0), .int .i64 (.ofNat 0), .bool (Dd L (L.length + 2) a false).2.2]) rfl rfl (by decide) fun h2 t2 x2 n2 g2 r2 => ?_
      have e0 : Aw t2 0 = vt := g2 0 (by show 0 < 4; decide)
      have e3 : Aw t2 3 = .bool (Dd L (L.length + 2) a false).2.2 := g2 3 (by show 3 < 4; decide)
      rw [Ae]
      refine Iw r2 (Nat.zero_le _) (by decide) rfl ?_
      have y3 : ∀ c, c ≠ h1.next → (h2.put h1.next (.row (Aj [.int .i64 (Int.ofNat fr)] (0 + 1) t2) 4 0 TLn true)).at c = h2.at c := fun c hc => Az hc
      have r3 : (h2.put h1.next (.row (Aj [.int .i64 (Int.ofNat fr)] (0 + 1) t2) 4 0 TLn true)).at h1.next = .row (Aj [.int .i64 (Int.ofNat fr)] (0 + 1) t2) 4 0 TLn true := Ba _ _ _
      have w2 := w1.ext x2
      have w3 : Wd (h2.put h1.next (.row (Aj [.int .i64 (Int.ofNat fr)] (0 + 1) t2) 4 0 TLn true)) pW fl L _ D1 sp1 q1 := w2.Akl (by omega) r2 (by decide) rfl y3
      have n3 : (h2.put h1.next (.row (Aj [.int .i64 (Int.ofNat fr)] (0 + 1) t2) 4 0 TLn true)).next.nat = h1.next.nat + 1 := n2
      generalize h2.put h1.next (.row (Aj [.int .i64 (Int.ofNat fr)] (0 + 1) t2) 4 0 TLn true) = h3 at y3 r3 w3 n3 ⊢
      rw [Ae]
      refine Iw r3 (Nat.zero_le _) (by decide) rfl ?_
      have y4 : ∀ c, c ≠ h1.next → (h3.put h1.next (.row (Aj [.int .i64 (Int.ofNat s.length)] (0 + 2) (Aj [.int .i64 (Int.ofNat fr)] (0 + 1) t2)) 4 0 TLn true)).at c = h3.at c := fun c hc => Az hc
      have r4 : (h3.put h1.next (.row (Aj [.int .i64 (Int.ofNat s.length)] (0 + 2) (Aj [.int .i64 (Int.ofNat fr)] (0 + 1) t2)) 4 0 TLn true)).at h1.next = .row (Aj [.int .i64 (Int.ofNat s.length)] (0 + 2) (Aj [.int .i64 (Int.ofNat fr)] (0 + 1) t2)) 4 0 TLn true := Ba _ _ _
      have w4 : Wd (h3.put h1.next (.row (Aj [.int .i64 (Int.ofNat s.length)] (0 + 2) (Aj [.int .i64 (Int.ofNat fr)] (0 + 1) t2)) 4 0 TLn true)) pW fl L _ D1 sp1 q1 := w3.Akl (by omega) r3 (by decide) rfl y4
      have n4 : (h3.put h1.next (.row (Aj [.int .i64 (Int.ofNat s.length)] (0 + 2) (Aj [.int .i64 (Int.ofNat fr)] (0 + 1) t2)) 4 0 TLn true)).next.nat = h1.next.nat + 1 := n3
      generalize h3.put h1.next (.row (Aj [.int .i64 (Int.ofNat s.length)] (0 + 2) (Aj [.int .i64 (Int.ofNat fr)] (0 + 1) t2)) 4 0 TLn true) = h4 at y4 r4 w4 n4 ⊢
      have f0 : Aw (Aj [.int .i64 (Int.ofNat s.length)] (0 + 2) (Aj [.int .i64 (Int.ofNat fr)] (0 + 1) t2)) 0 = vt := by rw [Ah, Ah]; simpa using e0
      have f1 : Aw (Aj [.int .i64 (Int.ofNat s.length)] (0 + 2) (Aj [.int .i64 (Int.ofNat fr)] (0 + 1) t2)) 1 = .int .i64 (Int.ofNat fr) := by rw [Ah, Ah]; simp
      have f2 : Aw (Aj [.int .i64 (Int.ofNat s.length)] (0 + 2) (Aj [.int .i64 (Int.ofNat fr)] (0 + 1) t2)) 2 = .int .i64 (Int.ofNat s.length) := by rw [Ah]; simp
      have f3 : Aw (Aj [.int .i64 (Int.ofNat s.length)] (0 + 2) (Aj [.int .i64 (Int.ofNat fr)] (0 + 1) t2)) 3 = .bool (Dd L (L.length + 2) a false).2.2 := by rw [Ah, Ah]; simpa using e3
      generalize Aj [.int .i64 (Int.ofNat s.length)] (0 + 2) (Aj [.int .i64 (Int.ofNat fr)] (0 + 1) t2) = t4 at r4 f0 f1 f2 f3
      have y14 : ∀ c, c.nat < h1.next.nat → h4.at c = h1.at c := fun c hc => by
        have hne : c ≠ h1.next := fun e => by subst e; exact Nat.lt_irrefl _ hc
        rw [y4 c hne, y3 c hne, x2.2 c hc]
      have eL : Jc L s.length (m + 1) a fr = ((Dd L (L.length + 2) a false).1, fr, Afn L s.length (Dd L (L.length + 2) a false).2.1, (Dd L (L.length + 2) a false).2.2) :: Jc L s.length m ((Dd L (L.length + 2) a false).2.1 + 1) (Afn L s.length (Dd L (L.length + 2) a false).2.1) := by
        conv => lhs; unfold Jc
        rw [if_neg (by omega)]
      have eC : Ot L (m + 1) a = (Qy L (L.length + 2) a false && Ot L m ((Dd L (L.length + 2) a false).2.1 + 1)) := by
        conv => lhs; unfold Ot
        rw [if_neg (by omega)]
      rw [eL, eC] at K
      have dl : D1.length ≤ (Dd L (L.length + 2) a false).2.1 := d1
      have el : (Dd L (L.length + 2) a false).2.1 ≤ L.length := Aii L (L.length + 2) a false (by omega)
      have push : ∀ {h5 : H} {t5 : Tm} (_ : Wd h5 pW fl L (Dd L (L.length + 2) a false).2.1 D1 sp1 q1) (_ : h5.at h1.next = .row t5 4 0 TLn true) (_ : Aw t5 0 = vt) (_ : Aw t5 1 = .int .i64 (Int.ofNat fr)) (_ : Aw t5 2 = .int .i64 (Int.ofNat (Afn L s.length (Dd L (L.length + 2) a false).2.1))) (_ : Aw t5 3 = .bool (Dd L (L.length + 2) a false).2.2) (_ : h5.next.nat = h1.next.nat + 1) (_ : ∀ c, c.nat < h1.next.nat → h5.at c = h1.at c), (r39 W1 k (n + 1)).a2 s.length (enc s) vo (.ptr pW 0) (.ptr h1.next 0) h5 := fun w5 r5 g0 g1 g2 g3 n5 y5 => by
        refine Be7 ?_
        unfold An7
        refine A0x (T := (Dd L (L.length + 2) a false).1) hl el w5 (Nat.le_refl _) (by omega) hW1 r5 g0 g1 g2 g3 (by omega) (fun c hc _ => y5 c hc) hwr1 z1 o1 b1 (by omega) fun v6 h6 w6 z6 o6 n6 y6 => ?_
        refine A37 hl hs m n (by omega) (by omega) (by omega) (by omega) (by rw [List.length_append]; simp; omega) hEW ⟨Nat.le_trans X1.1 n6, fun c hc => by rw [y6 c (by omega), X1.2 c hc]⟩ w6 z6 o6 (C0 := C0 && Qy L (L.length + 2) a false) (fun z => ?_) ?_
        · simp only [Bool.and_eq_true] at z
          rw [(cl1 z.2).1, hC0 z.1]
        · rw [List.append_assoc, Bool.and_assoc]
          exact K
      refine w4.pos (w4.l fun v5 hr5 => ?_)
      rw [hr5.len, Dh, ilt]
      refine Br (fun d => ?_) (fun d => ?_)
      · have d : (Dd L (L.length + 2) a false).2.1 < L.length := of_decide_eq_true d
        refine w4.l fun v6 hr6 => w4.pos (A3v hr6 d ?_)
        rw [Ae]
        refine Iw r4 (Nat.zero_le _) (by decide) rfl ?_
        have eto : Afn L s.length (Dd L (L.length + 2) a false).2.1 = L[(Dd L (L.length + 2) a false).2.1].2.2 := by
          unfold Afn toR
          rw [if_pos d, List.getD_eq_getElem?_getD, List.getElem?_eq_getElem d]; rfl
        have y5 : ∀ c, c ≠ h1.next → (h4.put h1.next (.row (Aj [.int .i64 (Int.ofNat L[(Dd L (L.length + 2) a false).2.1].2.2)] (0 + 2) t4) 4 0 TLn true)).at c = h4.at c := fun c hc => Az hc
        refine push (w4.Akl (by omega) r4 (by decide) rfl y5) (Ba _ _ _) ?_ ?_ ?_ ?_ n4 fun c hc => ?_
        · rw [Ah]; simpa using f0
        · rw [Ah]; simpa using f1
        · rw [Ah, eto]; simp
        · rw [Ah]; simpa using f3
        · rw [y5 c fun e => by subst e; exact Nat.lt_irrefl _ hc, y14 c hc]
      · have d := of_decide_eq_false d
        have eto : Afn L s.length (Dd L (L.length + 2) a false).2.1 = s.length := by unfold Afn; rw [if_neg d]
        exact push w4 r4 f0 f1 (by rw [eto]; exact f2) f3 n4 y14
    · have c := of_decide_eq_false c
      have eL : Jc L s.length (m + 1) a fr = [] := by
        unfold Jc
        rw [if_pos (by omega)]
      have eC : Ot L (m + 1) a = true := by
        unfold Ot
        rw [if_pos (by omega)]
      rw [eL, eC, List.append_nil, Bool.and_true] at K
      have fin : ∀ {h' : H} {Lc' : List (List AV)} {vo' : AV}, Exh hE h' → Wd h' pW fl L a D sp q → He TLn 4 (pW.nat + 1) h' vo' Lc' → Nv (pW.nat + 1) h' fl L Lc' (Age s.length X) → (r39 W1 k (n + 1)).a3 vo' (.ptr pW 0) h' := fun x' w' z' o' => by
        refine Be6 ?_
        unfold An6
        obtain ⟨vd', wk', bd'⟩ := w'.w
        refine wk'.dg ?_
        exact K.go _ (pW.nat + 1) _ _ D _ x' (by omega) w'.n z' o' bd' hC0 (by omega)
      rw [hz.n.len, show Ca (Int.ofNat 0) (Int.ofNat Lc.length) = decide (0 < Lc.length) from ilt _ _]
      refine Br (fun d => ?_) (fun d => ?_)
      · have d : 0 < Lc.length := of_decide_eq_true d
        rw [hz.n.len]
        refine Xa d (by omega) ?_
        have hi : Lc.length - 1 < Lc.length := by omega
        refine Dg (hz.set (x := .int .i64 (Int.ofNat s.length)) hi (by decide) rfl fun h' z' k' n' => ?_)
        have o' : Nv (pW.nat + 1) h' fl L Lc X := ho.fr k'.1 fun c hc ⟨t', m', z', w', e'⟩ => k'.2 c hc (.inr fun t2 m2 z2 w2 e2 => by rw [e'] at e2; cases e2)
        exact fin (k'.exh x (by omega)) (w.kps k' (Nat.le_refl _) (by decide)) z' (o'.fix hi)
      · have d := of_decide_eq_false d
        have hx : X = [] := List.eq_nil_of_length_eq_zero (by have := ho.1; omega)
        subst hx
        exact fin x w hz ho
theorem A1l(l c:Nat)(n:Int)(h:H):Ax env (env.ty TWk) [(0,(.str l c)),(1,.Ai),(5,(.int .i64 n))] h=some (.agg [.str l c,.Ai,.int .i64 (.ofNat 0),.Ai,.bool false,.int .i64 n],h):=by kernel_rfl
theorem A1k(l c:Nat)(b:P)(o m z:Nat)(x:Bool)(n:Int)(h:H):Ax env (env.ty TWk) [(0,(.str l c)),(1,.slice b o m z x),(5,(.int .i64 n))] h=some (.agg [.str l c,.slice b o m z x,.int .i64 (.ofNat 0),.Ai,.bool false,.int .i64 n],h):=by kernel_rfl
theorem c39{s:List UInt8}(hs:s.length≤900000){hE:H}{k:KV}(K:LnK hE fl (Au s) (Age s.length (Jc (Au s) s.length ((Au s).length+2) 0 0)) (Ot (Au s) ((Au s).length+2) 0) k):W1 (.func 39) [S fl,S s] hE k:=by
 have cl:=Js s
 refine w39 (n:=2*(Au s).length+5) Bg (g39 ?_)
 unfold An9
 refine c62 hs fun h1 v1 x1 b1=>?_
 have eb:Ax env (env.ty TWk) [(0,(.str fl.length (enc fl))),(1,v1),(5,(.int .i64 (Int.negSucc 0)))] h1=some (.agg [S fl,v1,.int .i64 (.ofNat 0),.Ai,.bool false,.int .i64 (Int.negSucc 0)],h1):=by
  rcases b1.sl with rfl|⟨b,o,n,z,t,rfl⟩
  · exact A1l _ _ _ _
  · exact A1k _ _ _ _ _ _ _ _ _
 rw[eb,Ad,Fu]
 refine Ft (by simp) (Cy ?_)
 have x2:Exh h1 (h1.new (rowOf TWk [S fl,v1,.int .i64 (.ofNat 0),.Ai,.bool false,.int .i64 (Int.negSucc 0)])):=.new
 have m2:(h1.new (rowOf TWk [S fl,v1,.int .i64 (.ofNat 0),.Ai,.bool false,.int .i64 (Int.negSucc 0)])).next.nat=h1.next.nat+1:=Bf
 have a2:(h1.new (rowOf TWk [S fl,v1,.int .i64 (.ofNat 0),.Ai,.bool false,.int .i64 (Int.negSucc 0)])).at h1.next=.row (Aj [S fl,v1,.int .i64 (.ofNat 0),.Ai,.bool false,.int .i64 (Int.negSucc 0)] 0 .e) 6 0 TWk true:=Bc _ _
 generalize h1.new (rowOf TWk [S fl,v1,.int .i64 (.ofNat 0),.Ai,.bool false,.int .i64 (Int.negSucc 0)])=h2 at x2 m2 a2 ⊢
 have g:∀j (hj:j<6),Aw (Aj [S fl,v1,.int .i64 (.ofNat 0),.Ai,.bool false,.int .i64 (Int.negSucc 0)] 0 .e) j=[S fl,v1,.int .i64 (.ofNat 0),.Ai,.bool false,.int .i64 (Int.negSucc 0)][j]:=fun j hj=>by
  rw[Ah,if_pos ⟨Nat.zero_le _,by show j<0+6;omega⟩,List.getD_eq_getElem?_getD,List.getElem?_eq_getElem (by show j-0<6;omega)]
  simp
 have w2:Wk h2 h1.next fl (Au s) 0 .Ai false (Int.negSucc 0):=by
  refine⟨by omega,_,a2,g 0 (by decide),?_,?_,g 2 (by decide),g 3 (by decide),g 4 (by decide),g 5 (by decide)⟩
  · rw[g 1 (by decide)];exact b1.slr.ext x2
  · rw[g 1 (by decide)]
    intro q o n z b e
    have e:v1=.slice q o n z b:=e
    rcases b1 with⟨rfl,_⟩|⟨q',t,m,z',w,rfl,h1',h2',_⟩
    · cases e
    · cases e;exact h2'
 refine A37 (pW:=h1.next) (by omega) hs ((Au s).length+2) _ (by omega) (by omega) (Nat.zero_le _) (Nat.zero_le _) (Nat.zero_le _) x1.1 (x1.trans x2) (D:=[]) ⟨⟨.Ai,w2,.inl ⟨rfl,rfl⟩⟩,Nat.zero_le _⟩ (.inl ⟨rfl,rfl⟩) ⟨rfl,fun i h1=>absurd h1 (Nat.not_lt_zero _)⟩ (C0:=true) (X:=[]) (fun _=>rfl) ?_
 rw[List.nil_append,Bool.true_and]
 exact K
end
end Go.Den
