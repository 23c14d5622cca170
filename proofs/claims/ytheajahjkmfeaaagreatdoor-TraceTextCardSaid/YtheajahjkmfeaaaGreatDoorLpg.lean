/-
 Proof.
-/
import Derived.Test.YtheajahjkmfeaaaGreatDoorLpe
noncomputable section
namespace Go.Den
open Go.RowKit
set_option maxRecDepth 100000
open Go.Lx (Rn bts Bt Er Ke toR Rh)
abbrev TLn:TypeId:=150
def He(e:TypeId)(sz lo:Nat)(h:H)(v:AV)(L:List (List AV)):Prop:=(v=.Ai∧L=[])∨∃q t m w,v=.slice q 0 L.length sz false∧lo≤q.nat∧q.nat<h.next.nat∧h.at q=.row t m 0 e w∧L.length*sz≤m∧Ld sz 0 t L
theorem He.n{e:TypeId}{sz lo:Nat}{h:H}{v:AV}{L:List (List AV)}(hb:He e sz lo h v L):Cb e sz lo h v L:=by
 rcases hb with⟨rfl,rfl⟩|⟨q,t,m,w,rfl,h1,h2,h3,h4,h6⟩
 · exact .inl ⟨rfl,rfl⟩
 · exact .inr ⟨q,t,m,0,w,rfl,h1,h2,h3,h4,Nat.zero_le _,h6⟩
theorem He.frame{e:TypeId}{sz lo:Nat}{h h':H}{v:AV}{L:List (List AV)}(hb:He e sz lo h v L)(hn:h.next.nat≤h'.next.nat)(hf:∀c,c.nat<h.next.nat→lo≤c.nat→(∀t m z w,h.at c=.row t m z e w→h'.at c=h.at c)):He e sz lo h' v L:=by
 rcases hb with⟨rfl,rfl⟩|⟨q,t,m,w,rfl,h1,h2,h3,h4⟩
 · exact .inl ⟨rfl,rfl⟩
 · exact .inr ⟨q,t,m,w,rfl,h1,by omega,by rw[hf q h2 h1 _ _ _ _ h3];exact h3,h4⟩
theorem He.ext{e:TypeId}{sz lo:Nat}{h h':H}{v:AV}{L:List (List AV)}(hb:He e sz lo h v L)(hx:Exh h h'):He e sz lo h' v L:=hb.frame hx.1 fun c hc _ _ _ _ _ _=>hx.2 c hc
theorem Bj3{e:TypeId}{sz lo:Nat}{ei:TI}{h h0:H}{p:P}{v:AV}{L:List (List AV)}{ds:List AV}{t:Tm}(hb:He e sz lo h v L)(hd:ds.length=sz)(hsz:ei.size=sz)(hf:Bv ei (L.length+1)=true)(hlo:lo≤h.next.nat)(hh:h0.new (.row (Aj ds 0 t) sz 0 e true)=h)(hp:p=h0.next){k:KV}(hk:∀v' h',He e sz lo h' v' (L++[ds])→KpS e lo h h'→k v' h'):
 oK (Co (some false) v (.slice p 0 1 sz true) h e ei) k:=by
 have hx:Ck h sz (.slice p 0 1 sz true)=some (1,ds):=by subst hh hp;exact Yn hd
 generalize (AV.slice p 0 1 sz true)=x at*
 have hl:Fh v=L.length:=by rcases hb with⟨rfl,rfl⟩|⟨_,_,_,_,rfl,_⟩<;>rfl
 have hok:Fe v=true:=by rcases hb with⟨rfl,rfl⟩|⟨_,_,_,_,rfl,_⟩<;>rfl
 have e0:Co (some false) v x h e ei=Gy e sz v 1 ds h:=by
  show(Option.rec none (fun p=>Bool.rec none (Bool.rec (Gy e ei.size v p.1 p.2 h) (some (v,h)) (Nat.beq p.1 0)) (An (Fe v) (Bv ei (Nat.add (Fh v) p.1)))) (Ck h ei.size x):Option (AV×H))=_
  rw[hsz,hx]
  show(Bool.rec none (Gy e sz v 1 ds h) (An (Fe v) (Bv ei (Nat.add (Fh v) 1))):Option (AV×H))=_
  rw[hl,hok,show Bv ei (Nat.add L.length 1)=true from hf];rfl
 rw[e0]
 rcases hb with⟨rfl,rfl⟩|⟨q,t,m,w,rfl,h1,h2,h3,h4,h6⟩
 · show oK (some (AV.slice h.next 0 1 sz false,h.new (.row (Aj ds 0 .e) (Nat.mul 1 sz) 0 e false))) k
   rw[Ad]
   refine hk (.slice h.next 0 1 sz false) (h.new (.row (Aj ds 0 .e) (Nat.mul 1 sz) 0 e false)) (.inr ⟨h.next,Aj ds 0 .e,Nat.mul 1 sz,false,rfl,hlo,by rw[Bf];omega,Bc _ _,Nat.le_refl _,?_⟩) .new
   have:=Ld.app (t:=.e) (Ld.nil (sz:=sz) (o:=0)) hd
   rwa [show([]:List (List AV)).length*sz=0 by simp] at this
 · have e1:Gy e sz (.slice q 0 L.length sz false) 1 ds h=(Bool.rec none (Tu e q 0 L.length 1 sz ds h (Em (h.at q))) (Nat.beq sz sz):Option (AV×H)):=rfl
   rw[e1,Nat.beq_refl,h3]
   show oK (Bool.rec none (some (.slice h.next 0 (Nat.add L.length 1) sz false,(h.put q .dead).new (.row (Aj ds (Nat.add 0 (Nat.mul L.length sz)) t) (Nat.add 0 (Nat.mul (Nat.add L.length 1) sz)) 0 e false)))
    (An (An (Nat.beq e e) (Nat.beq 0 0)) (An (Nat.ble (Nat.add 0 (Nat.mul L.length sz)) m) (Nat.ble 0 (Nat.add 0 (Nat.mul L.length sz)))))) k
   have a1:Nat.add 0 (Nat.mul L.length sz)=L.length*sz:=Nat.zero_add _
   rw[a1,Nat.beq_refl,Nat.ble_eq_true_of_le h4,Nat.ble_eq_true_of_le (Nat.zero_le _)]
   show oK (some (AV.slice h.next 0 (Nat.add L.length 1) sz false,(h.put q .dead).new (.row (Aj ds (L.length*sz) t) (Nat.add 0 (Nat.mul (Nat.add L.length 1) sz)) 0 e false))) k
   rw[Ad]
   refine hk _ _ (.inr ⟨h.next,_,_,false,?_,hlo,?_,Bc (h.put q .dead) _,?_,h6.app hd⟩) ⟨?_,fun c hc hne=>?_⟩
   · rw[List.length_append];rfl
   · show h.next.nat<(P.succ h.next).nat
     rw[P.Dx];omega
   · rw[List.length_append]
     show(L.length+1)*sz≤0+(L.length+1)*sz
     omega
   · show h.next.nat≤(P.succ h.next).nat
     rw[P.Dx];omega
   · have hcq:c≠q:=fun e'=>by
      subst e'
      rcases hne with hne|hne
      · omega
      · exact hne _ _ _ _ h3
     rw[Gq (show c.nat<(h.put q .dead).next.nat from hc),Az hcq]
theorem He.one{e:TypeId}{sz lo:Nat}{h:H}{v:AV}{M:List (List AV)}(hb:He e sz lo h v M):v.one=true:=hb.n.one
theorem He.set{e:TypeId}{sz lo:Nat}{h:H}{v:AV}{M:List (List AV)}(hb:He e sz lo h v M){i j:Nat}{x:AV}(hi:i<M.length)(hj:j<sz)(hx:x.one=true){K:H→Prop}(hk:∀h',He e sz lo h' v (M.set i ((M[i]).set j x))→KpS e lo h h'→h'.next=h.next→K h'):Cc sz i v fun a=>Ac j a fun a=>st1 a x h K:=by
 rcases hb with⟨rfl,rfl⟩|⟨q,t,m,w,rfl,h1,h2,h3,h4,h6⟩
 · cases hi
 · refine Aqf hi ?_
   rw[Ae]
   have hs:(i+1)*sz≤M.length*sz:=Nat.mul_le_mul_right _ hi
   rw[Nat.succ_mul] at hs
   refine Iw h3 (Nat.zero_le _) (by omega) hx ?_
   refine hk _ (.inr ⟨q,_,m,w,by rw[List.length_set],h1,h2,Ba _ _ _,by rw[List.length_set];exact h4,fun i' hi'=>?_⟩) ⟨Nat.le_refl _,fun c hc hh=>Az fun e'=>?_⟩ rfl
   · rw[List.length_set] at hi'
     rw[List.getElem_set]
     by_cases c:i=i'
     · subst c
       rw[if_pos rfl]
       refine⟨by rw[List.length_set];exact(h6 i hi).1,fun j' hj'=>?_⟩
       rw[List.length_set] at hj'
       rw[Ah,List.getElem_set]
       by_cases d:j=j'
       · subst d
         rw[if_pos (by simp),if_pos rfl]
         simp
       · rw[if_neg (by simp;omega),if_neg d]
         exact(h6 i hi).2 j' hj'
     · rw[if_neg c]
       refine⟨(h6 i' hi').1,fun j' hj'=>?_⟩
       have hj2:j'<sz:=by rw[←(h6 i' hi').1];exact hj'
       rw[Ah,if_neg ?_]
       · exact(h6 i' hi').2 j' hj'
       · simp only[List.length_cons,List.length_nil]
         rcases Nat.lt_or_gt_of_ne c with c|c
         · have:(i+1)*sz≤i'*sz:=Nat.mul_le_mul_right _ c
           rw[Nat.succ_mul] at this
           omega
         · have:(i'+1)*sz≤i*sz:=Nat.mul_le_mul_right _ c
           rw[Nat.succ_mul] at this
           omega
   · subst e'
     rcases hh with hh|hh
     · omega
     · exact hh _ _ _ _ h3
def Dd(L:List Rn):Nat→Nat→Bool→List (Nat×Bool)×Nat×Bool
 |0,a,_=>([],a,false)
 |k+1,a,sp=>if L.length≤(Di L (L.length+2) a sp false).1∨bt (bts L) (Di L (L.length+2) a sp false).1=10 then([],(Di L (L.length+2) a sp false).1,(Di L (L.length+2) a sp false).2.2)
  else(((Di L (L.length+2) a sp false).1,(Di L (L.length+2) a sp false).2.1)::(Dd L k ((Di L (L.length+2) a sp false).1+(Go.Lx.Ds ((bts L).drop (Di L (L.length+2) a sp false).1)).2.1) false).1,(Dd L k ((Di L (L.length+2) a sp false).1+(Go.Lx.Ds ((bts L).drop (Di L (L.length+2) a sp false).1)).2.1) false).2)
def Qy(L:List Rn):Nat→Nat→Bool→Bool
 |0,_,_=>true
 |k+1,a,sp=>if L.length≤(Di L (L.length+2) a sp false).1∨bt (bts L) (Di L (L.length+2) a sp false).1=10 then !(Di L (L.length+2) a sp false).2.2
  else !Asd ((bts L).drop (Di L (L.length+2) a sp false).1)&&Qy L k ((Di L (L.length+2) a sp false).1+(Go.Lx.Ds ((bts L).drop (Di L (L.length+2) a sp false).1)).2.1) false
def Ev(fl:List UInt8)(L:List Rn)(T:List (Nat×Bool)):List (List AV):=T.map fun x=>Ad5 fl L x.1 x.2
theorem Aq9(fl:List UInt8)(L:List Rn)(T:List (Nat×Bool)):(Ev fl L T).length=T.length:=List.length_map ..
theorem Qm(L:List Rn):∀(k a:Nat)(sp o:Bool),a≤(Di L k a sp o).1
 |0,a,sp,o=>Nat.le_refl _
 |k+1,a,sp,o=>by
  unfold Di
  split
  · exact Nat.le_refl _
  · split
    · exact Nat.le_refl _
    · split
      · exact Nat.le_trans (Nat.le_succ _) (Qm L k (a+1) true o)
      · split
        · exact Nat.le_refl _
        · rename_i n b _
          exact Nat.le_trans (Nat.le_add_right _ _) (Qm L k (a+n) true b)
def Z44:Tm:=Aj Na 0 .e
theorem A4b(a b c d e f g i:AV)(h:H):Ap env 30 (fun t ei=>Ak 1 [(0,.agg [a,b,c,d,e,f,g,i])] h t ei)=some (.slice h.next 0 1 8 true,h.new (.row (Aj [a,b,c,d,e,f,g,i] 0 Z44) 8 0 TTk true)):=by kernel_rfl
theorem Aq3(x y:AV)(h:H):Ar env .append [30,30] [x,y] h=Co (some false) x y h TTk (Hz TTk):=by kernel_rfl
theorem Azh:(Hz TTk).size=8:=by kernel_rfl
theorem Af3{n:Nat}(hn:n≤1099511627776):Bv (Hz TTk) n=true:=Lv (by kernel_rfl) (by kernel_rfl) hn
section
variable{h:H}{pW:P}{fl:List UInt8}{L:List Rn}{a:Nat}{D:List (List AV)}{sp:Bool}{q:Int}
structure LnH(h0 h:H)(pW p:P)(T:List (List AV)):Prop where
 fr:FrE TDg (pW.nat+1) pW h0 h
 row:∃t o,h.at p=.row t 4 0 TLn true∧Cb TTk 8 h0.next.nat h (Aw t 0) T∧Aw t 1=.int .i64 (.ofNat 0)∧Aw t 2=.int .i64 (.ofNat 0)∧Aw t 3=.bool o
 n1:p.nat<h.next.nat
 l1:h0.next.nat≤p.nat
theorem LnH.fre{h0 h h':H}{p:P}{T:List (List AV)}(g:LnH h0 h pW p T)(hW:pW.nat<h0.next.nat)(x:FrE TDg (pW.nat+1) pW h h'){t:Tm}(hw:h.at pW=.row t 6 0 TWk true):LnH h0 h' pW p T:=by
 obtain⟨t1,o,r1,r2,r3⟩:=g.row
 have l1:=g.l1
 have e1:h'.at p=h.at p:=x.2 p g.n1 (fun e=>by subst e;omega) (.inr fun t2 m2 z2 w2 e2=>by rw[r1] at e2;cases e2)
 exact⟨g.fr.trans x,⟨t1,o,by rw[e1];exact r1,r2.fre x (by decide) hw (by decide),r3⟩,Nat.lt_of_lt_of_le g.n1 x.1,l1⟩
theorem LnH.ext{h0 h h':H}{p:P}{T:List (List AV)}(g:LnH h0 h pW p T)(x:Exh h h'):LnH h0 h' pW p T:=by
 obtain⟨t1,o,r1,r2,r3⟩:=g.row
 exact⟨g.fr.trans x.fre,⟨t1,o,by rw[x.2 _ g.n1];exact r1,r2.ext x,r3⟩,Nat.lt_of_lt_of_le g.n1 x.1,g.l1⟩
theorem Wd.Akl{h':H}{p:P}{t:Tm}{m z:Nat}{e:TypeId}{w:Bool}(s:Wd h pW fl L a D sp q)(hp:pW.nat<p.nat)(hr:h.at p=.row t m z e w)(he:TDg≠e)(hn:h'.next=h.next)(hf:∀c,c≠p→h'.at c=h.at c):Wd h' pW fl L a D sp q:=by
 obtain⟨v',w',b'⟩:=s.w
 exact⟨⟨v',w'.keep (by rw[hn];exact Nat.le_refl _) fun c hc=>hf c fun e=>by subst e;omega,b'.frame (by rw[hn];exact Nat.le_refl _) fun c _ _ t2 m2 z2 w2 e2=>hf c fun e'=>by subst e';rw[hr] at e2;cases e2;exact he rfl⟩,s.len⟩
theorem A30 (hl : L.length ≤ 1000000) {h00 : H} (hW : pW.nat < h00.next.nat) {p : P} {k : KV} : ∀ (n : Nat) {h : H} {a : Nat} {D : List (List AV)} {sp : Bool} {q : Int} {T : List (List AV)}, L.length + 1 - a ≤ n → D.length ≤ a → a ≤ L.length → T.length ≤ a → LnH h00 h pW p T → Wd h pW fl L a D sp q →
    (∀ h' D' q' sp' vt, FrE TDg (pW.nat + 1) pW h00 h' → Wd h' pW fl L (Dd L n a sp).2.1 D' sp' q' → (Qy L n a sp = true → D' = D ∧ q' = q) → Cb TTk 8 h00.next.nat h' vt (T ++ Ev fl L (Dd L n a sp).1) → D'.length ≤ (Dd L n a sp).2.1 → k (.agg [vt, .int .i64 (.ofNat 0), .int .i64 (.ofNat 0), .bool (Dd L n a sp).2.2]) h') →
    (r63 W1 k n).a1 (.ptr pW 0) (.ptr p 0) h
  | 0, h, a, D, sp, q, T, hn, _, ha, _, _, _, _ => absurd hn (by omega)
  | n + 1, h, a, D, sp, q, T, hn, hD, ha, hT, g, s, hk => by
    refine Beu ?_
    unfold Ane
    obtain ⟨vd, w, _⟩ := s.w
    obtain ⟨tw, hwr⟩ := w.Wm
    have l1 := g.l1
    refine c86 hl hD ha s ⟨fun h1 D1 a1 sp1 o1 e1 e2 x1 s1 c1 d1 => ?_, fun h1 D1 q1 a1 sp1 e1 e2 e3 x1 s1 c1 d1 => ?_⟩
    · have g1 := g.fre hW x1 hwr
      rw [Hu, Ht, Bn, Av6, Bn]
      refine Cy ?_
      refine Ko (e := TTk) (zs := Na) (cs := Na) rfl rfl (by decide) fun h2 x2 n2 at2 => ?_
      have g2 := g1.ext x2
      have s2 := s1.ext x2
      obtain ⟨t2, o2, r2, b2, z1, z2, z3⟩ := g2.row
      rw [Ae]
      refine Iw r2 (Nat.zero_le _) (by decide) rfl ?_
      have f3 : ∀ c, c ≠ p → (h2.put p (.row (Aj [.bool o1] (0 + 3) t2) 4 0 TLn true)).at c = h2.at c := fun c hc => Az hc
      have r3 : (h2.put p (.row (Aj [.bool o1] (0 + 3) t2) 4 0 TLn true)).at p = .row (Aj [.bool o1] (0 + 3) t2) 4 0 TLn true := Ba _ _ _
      have s3 : Wd (h2.put p (.row (Aj [.bool o1] (0 + 3) t2) 4 0 TLn true)) pW fl L a1 D1 sp1 q := s2.Akl (by omega) r2 (by decide) rfl f3
      have b3 : Cb TTk 8 h00.next.nat (h2.put p (.row (Aj [.bool o1] (0 + 3) t2) 4 0 TLn true)) (Aw t2 0) T := b2.frame (Nat.le_refl _) fun c _ _ t' m' z' w' e' => f3 c fun e => by subst e; rw [r2] at e'; cases e'
      have x3 : FrE TDg (pW.nat + 1) pW h00 (h2.put p (.row (Aj [.bool o1] (0 + 3) t2) 4 0 TLn true)) := g2.fr.of (Nat.le_refl _) fun c hc => f3 c fun e => by subst e; omega
      generalize h2.put p (.row (Aj [.bool o1] (0 + 3) t2) 4 0 TLn true) = h3 at r3 s3 b3 x3 ⊢
      refine Dp rfl ?_
      have ec : Dy (Aj [.bool o1] (0 + 3) t2) 4 0 = [Aw t2 0, .int .i64 (.ofNat 0), .int .i64 (.ofNat 0), .bool o1] := by
        show [Aw (Aj [.bool o1] (0 + 3) t2) 0, Aw (Aj [.bool o1] (0 + 3) t2) 1, Aw (Aj [.bool o1] (0 + 3) t2) 2, Aw (Aj [.bool o1] (0 + 3) t2) 3] = _
        rw [Ah, Ah, Ah, Ah]
        simp [z1, z2]
      refine Au5 (c := 4) r3 (by decide) ?_
      rw [ec]
      refine Qn r3 (by rfl) (by decide) fun t6 at6 => ?_
      refine at6.ldn rfl ?_
      have f6 : ∀ c, c ≠ p → (h3.put p (.row t6 4 0 TLn true)).at c = h3.at c := fun c hc => Az hc
      have eL : Dd L (n + 1) a sp = ([], a1, o1) := by
        unfold Dd
        rw [e1, if_pos e2]
      have eC : Qy L (n + 1) a sp = !o1 := by
        unfold Qy
        rw [e1, if_pos e2]
      have := hk (h3.put p (.row t6 4 0 TLn true)) D1 q sp1 (Aw t2 0) (x3.of (Nat.le_refl _) fun c hc => f6 c fun e => by subst e; omega)
      rw [eL, eC] at this
      refine this (s3.Akl (by omega) r3 (by decide) rfl f6) (fun z => ⟨c1 (by simpa using z), rfl⟩) ?_ d1
      show Cb TTk 8 h00.next.nat _ (Aw t2 0) (T ++ [])
      rw [List.append_nil]
      exact b3.frame (Nat.le_refl _) fun c _ _ t' m' z' w' e' => f6 c fun e => by subst e; rw [r3] at e'; cases e'
    · have g1 := g.fre hW x1 hwr
      rw [Hu, Ht, Bn, Av6, Bn]
      refine Cy ?_
      refine Ko (e := TTk) (zs := Na) (cs := Ad5 fl L a1 sp1) rfl rfl (by decide) fun h2 x2 n2 at2 => ?_
      have g2 := g1.ext x2
      have s2 := s1.ext x2
      obtain ⟨t2, o2, r2, b2, z1, z2, z3⟩ := g2.row
      have ge := Qm L (L.length + 2) a sp false
      rw [e1] at ge
      have ge : a ≤ a1 := ge
      have nl := Go.Lx.Lt (s := (bts L).drop a1) (fun e => by
        have := congrArg List.length e
        rw [List.length_drop, Cl] at this
        have : L.length - a1 = 0 := this
        omega)
      rw [List.length_drop, Cl] at nl
      rw [Ae]
      refine Iw r2 (Nat.zero_le _) (by decide) rfl ?_
      have hpn : h1.next ≠ p := fun e => by have := g1.n1; rw [← e] at this; exact Nat.lt_irrefl _ this
      have f3 : ∀ c, c ≠ p → (h2.put p (.row (Aj [.bool false] (0 + 3) t2) 4 0 TLn true)).at c = h2.at c := fun c hc => Az hc
      have r3 : (h2.put p (.row (Aj [.bool false] (0 + 3) t2) 4 0 TLn true)).at p = .row (Aj [.bool false] (0 + 3) t2) 4 0 TLn true := Ba _ _ _
      have s3 : Wd (h2.put p (.row (Aj [.bool false] (0 + 3) t2) 4 0 TLn true)) pW fl L _ D1 false q1 := s2.Akl (by omega) r2 (by decide) rfl f3
      have b3 : Cb TTk 8 h00.next.nat (h2.put p (.row (Aj [.bool false] (0 + 3) t2) 4 0 TLn true)) (Aw t2 0) T := b2.frame (Nat.le_refl _) fun c _ _ t' m' z' w' e' => f3 c fun e => by subst e; rw [r2] at e'; cases e'
      have x3 : FrE TDg (pW.nat + 1) pW h00 (h2.put p (.row (Aj [.bool false] (0 + 3) t2) 4 0 TLn true)) := g2.fr.of (Nat.le_refl _) fun c hc => f3 c fun e => by subst e; omega
      have at3 := at2.frame (f3 h1.next hpn)
      have n3 : p.nat < (h2.put p (.row (Aj [.bool false] (0 + 3) t2) 4 0 TLn true)).next.nat := g2.n1
      have m3 : h00.next.nat ≤ (h2.put p (.row (Aj [.bool false] (0 + 3) t2) 4 0 TLn true)).next.nat := x3.1
      generalize h2.put p (.row (Aj [.bool false] (0 + 3) t2) 4 0 TLn true) = h3 at r3 s3 b3 x3 at3 n3 m3 ⊢
      refine Cp rfl ?_
      rw [Ae]
      refine Eh r3 (by decide) ?_
      have e0 : Aw (Aj [.bool false] (0 + 3) t2) (0 + 0) = Aw t2 0 := by rw [Ah]; simp
      rw [e0]
      refine at3.ldn rfl ?_
      show oK (Ap env 30 (fun e ei => Ak 1 [(0, .agg [.int .i64 (Int.ofNat (Go.Lx.Ds ((bts L).drop a1)).1), S (((bts L).drop a1).take (Go.Lx.Ds ((bts L).drop a1)).2.1), .bool sp1, S fl, .int .i64 (Int.ofNat (Go.Lx.Ke L a1)), .int .i64 (Int.ofNat (Go.Lx.toR L (a1 + (Go.Lx.Ds ((bts L).drop a1)).2.1 - 1))), .bool false, .Ai])] h3 e ei)) _
      rw [A4b, Ad, Aq3]
      refine Po (lo := h00.next.nat) (ds := Ad5 fl L a1 sp1) (.inr b3) rfl Azh (Af3 (by omega)) m3 fun v4 h4 b4 k4 => ?_
      have r4 : h4.at p = .row (Aj [.bool false] (0 + 3) t2) 4 0 TLn true := by rw [k4.2 p n3 (.inr fun t' m' z' w' e' => by rw [r3] at e'; cases e')]; exact r3
      have s4 := s3.kps k4 hW (by decide)
      have x4 : FrE TDg (pW.nat + 1) pW h00 h4 := x3.of k4.1 fun c hc => k4.2 c (Nat.lt_of_lt_of_le hc m3) (.inl hc)
      rw [Ae]
      refine Iw r4 (Nat.zero_le _) (by decide) b4.one ?_
      have f5 : ∀ c, c ≠ p → (h4.put p (.row (Aj [v4] (0 + 0) (Aj [.bool false] (0 + 3) t2)) 4 0 TLn true)).at c = h4.at c := fun c hc => Az hc
      have s5 : Wd (h4.put p (.row (Aj [v4] (0 + 0) (Aj [.bool false] (0 + 3) t2)) 4 0 TLn true)) pW fl L _ D1 false q1 := s4.Akl (by omega) r4 (by decide) rfl f5
      have g5 : LnH h00 (h4.put p (.row (Aj [v4] (0 + 0) (Aj [.bool false] (0 + 3) t2)) 4 0 TLn true)) pW p (T ++ [Ad5 fl L a1 sp1]) := by
        refine ⟨x4.of (Nat.le_refl _) fun c hc => f5 c fun e => by subst e; omega, ⟨_, false, Ba _ _ _, ?_, ?_, ?_, ?_⟩, Nat.lt_of_lt_of_le n3 k4.1, l1⟩
        · rw [show Aw (Aj [v4] (0 + 0) (Aj [.bool false] (0 + 3) t2)) 0 = v4 by rw [Ah]; simp]
          exact b4.frame (Nat.le_refl _) fun c _ _ t' m' z' w' e' => f5 c fun e => by subst e; rw [r4] at e'; cases e'
        · rw [Ah, Ah]; simpa using z1
        · rw [Ah, Ah]; simpa using z2
        · rw [Ah, Ah]; simp
      have eL : Dd L (n + 1) a sp = ((a1, sp1) :: (Dd L n (a1 + (Go.Lx.Ds ((bts L).drop a1)).2.1) false).1, (Dd L n (a1 + (Go.Lx.Ds ((bts L).drop a1)).2.1) false).2) := by
        conv => lhs; unfold Dd
        rw [e1, if_neg (fun z => z.elim (fun z => by omega) e3)]
      have eC : Qy L (n + 1) a sp = (!Asd ((bts L).drop a1) && Qy L n (a1 + (Go.Lx.Ds ((bts L).drop a1)).2.1) false) := by
        conv => lhs; unfold Qy
        rw [e1, if_neg (fun z => z.elim (fun z => by omega) e3)]
      rw [eL, eC] at hk
      refine A30 hl hW n (by omega) d1 (by omega) (by rw [List.length_append]; simp; omega) g5 s5 fun h6 D6 q6 sp6 vt x6 s6 c6 b6 d6 => ?_
      refine hk h6 D6 q6 sp6 vt x6 s6 (fun z => ?_) ?_ d6
      · simp only [Bool.and_eq_true, Bool.not_eq_true'] at z
        obtain ⟨w1, w2⟩ := c6 z.2
        obtain ⟨w3, w4⟩ := c1 z.1
        exact ⟨by rw [w1, w3], by rw [w2, w4]⟩
      · show Cb TTk 8 h00.next.nat h6 vt (T ++ (Ad5 fl L a1 sp1 :: Ev fl L (Dd L n (a1 + (Go.Lx.Ds ((bts L).drop a1)).2.1) false).1))
        rw [List.append_assoc] at b6
        exact b6
theorem c63(hl:L.length≤1000000)(hD:D.length≤a)(ha:a≤L.length)(s:Wd h pW fl L a D sp q){k:KV}
 (hk:∀h' D' q' sp' vt,FrE TDg (pW.nat+1) pW h h'→Wd h' pW fl L (Dd L (L.length+2) a false).2.1 D' sp' q'→(Qy L (L.length+2) a false=true→D'=D∧q'=q)→Cb TTk 8 h.next.nat h' vt (Ev fl L (Dd L (L.length+2) a false).1)→D'.length≤(Dd L (L.length+2) a false).2.1→k (.agg [vt,.int .i64 (.ofNat 0),.int .i64 (.ofNat 0),.bool (Dd L (L.length+2) a false).2.2]) h'):
 W1 (.func 63) [.ptr pW 0] h k:=by
 refine w63 (n:=L.length+3) Bg (g63 ?_)
 unfold Anf
 have hW:=s.n
 refine Cy ?_
 have x1:Exh h (h.new Aal):=.new
 have m1:(h.new Aal).next.nat=h.next.nat+1:=Bf
 have a1:(h.new Aal).at h.next=.row (Aj [.Ai,.int .i64 (.ofNat 0),.int .i64 (.ofNat 0),.bool false] 0 .e) 4 0 TLn true:=Bc _ _
 have s1:=s.ext x1
 have g1:LnH h (h.new Aal) pW h.next []:=⟨x1.fre,⟨_,false,a1,.inl ⟨by kernel_rfl,rfl⟩,by kernel_rfl,by kernel_rfl,by kernel_rfl⟩,by omega,Nat.le_refl _⟩
 generalize h.new Aal=h1 at s1 g1 ⊢
 obtain⟨vd,w,_⟩:=s1.w
 obtain⟨tw,hwr⟩:=w.Wm
 refine s1.Oe (b:=false) fun h2 x2 _ _ s2=>?_
 refine A30 hl hW (L.length+2) (by omega) hD ha (Nat.zero_le _) (g1.fre hW x2 hwr) s2 fun h' D' q' sp' vt e1 e2 e3 e4 e5=>hk h' D' q' sp' vt e1 e2 e3 (by rw[List.nil_append] at e4;exact e4) e5
end
end Go.Den
namespace Go.Den
open Go.RowKit
set_option maxRecDepth 100000
open Go.Lx (Rn bts Bt Er Ke toR Rh Au)
theorem Uf:∀l:List Rn,(Go.Lx.Er l).length≤l.length
 |[]=>Nat.le_refl _
 |[_]=>Nat.le_refl _
 |x::y::r=>by
  have h1:=Uf r
  have h2:=Uf (y::r)
  unfold Go.Lx.Er
  simp only[List.length_cons] at h2 ⊢
  split
  · omega
  · simp only[List.length_cons];omega
theorem Oi:∀(s:List UInt8)(i:Nat),(Bt i s).length≤s.length
 |[],_=>Nat.le_refl _
 |[_],_=>Nat.le_refl _
 |[_,_],_=>Nat.le_refl _
 |a::b::c::r,i=>by
  have h1:=Oi r (i+3)
  have h2:=Oi (b::c::r) (i+1)
  unfold Bt
  simp only[List.length_cons] at h2 ⊢
  split
  · split
    · simp only[List.length_cons];omega
    · simp only[List.length_cons];omega
  · simp only[List.length_cons];omega
theorem Js(s:List UInt8):(Au s).length≤s.length+1:=by
 have h1:=Uf (Bt 0 s)
 have h2:=Oi s 0
 unfold Au
 split
 · rw[List.length_append];simp only[List.length_cons,List.length_nil];omega
 · omega
theorem Aiu{L:List Rn}(h:L.length-1<L.length):L.getLast? =some L[L.length-1]:=by
 rw[List.getLast?_eq_getElem?,List.getElem?_eq_getElem h]
theorem Xa{a b:Nat}{K:Int→Prop}(h:b≤a)(ha:a≤1000000000)(hk:K (Int.ofNat (a-b))):fI (wrap .i64 (Mg (Int.ofNat a) (Int.ofNat b))) K:=by
 rw[Avc h,Pu (by omega),Gp];exact hk
theorem c62{s:List UInt8}(hl:s.length≤900000){h:H}{k:KV}(hk:∀h' v',Exh h h'→Cb 165 3 h.next.nat h' v' (cel (Au s))→k v' h'):W1 (.func 62) [S s] h k:=by
 refine w62 (n:=1) Bg (g62 ?_)
 unfold Ang
 refine c67 (by omega) fun h1 v1 x1 b1=>?_
 have l1:=Uf (Bt 0 s)
 have l2:=Oi s 0
 have sl:(Dw s).length≤s.length:=Nat.le_trans l1 l2
 rw[Wh,Gv]
 refine Mc (b:=decide ((Dw s).getLast?.map (·.1)≠some 10)) (fun k' hk'=>?_) ?_
 · rw[b1.len,Dh,show Bx (Int.ofNat (Dw s).length) (Int.ofNat 0)=decide ((Dw s).length=0) from Wx _ _]
   refine Qe (fun c=>?_) (fun c=>?_)
   · have c:=of_decide_eq_false c
     have hlt:(Dw s).length-1<(Dw s).length:=by omega
     rw[b1.len,Dh]
     refine Xa (by omega) (by omega) ?_
     refine Xx b1.slr hlt ?_
     rw[show Bx (Int.ofNat (Dw s)[(Dw s).length-1].1.toNat) (Int.ofNat 10)=decide ((Dw s)[(Dw s).length-1].1=10) from Tp _ 10 (by decide),Gv]
     rw[Aiu hlt] at hk'
     have e:decide (Option.map (fun x=>x.1) (some (Dw s)[(Dw s).length-1])≠some 10)=!decide ((Dw s)[(Dw s).length-1].1=10):=by
      simp
     rw[e] at hk';exact hk'
   · have c:=of_decide_eq_true c
     have:Dw s=[]:=List.eq_nil_of_length_eq_zero c
     rw[this] at hk'
     exact hk'
 have ec:Au s=if s≠[]∧(Dw s).getLast?.map (·.1)≠some 10 then Dw s++[(10,s.length,s.length)] else Dw s:=rfl
 refine Br (fun c=>?_) (fun c=>?_)
 · simp only[Bool.and_eq_true,Bool.not_eq_true',decide_eq_false_iff_not,decide_eq_true_eq] at c
   rw[if_pos ⟨c.1,c.2⟩] at ec
   rw[Ak7,Ad]
   refine Aym b1 (by rw[Dh];omega) x1.1 fun v2 h2 b2 k2=>?_
   have eb:cel (Dw s)++[[.int .u8 (Int.ofNat 10),.int .i64 (Int.ofNat s.length),.int .i64 (Int.ofNat s.length)]]=cel (Au s):=by
    rw[ec,Ajf];rfl
   rw[eb] at b2
   exact hk h2 v2 (x1.kp (Nat.le_refl _) k2) b2
 · rw[if_neg (fun z=>by
    rw[decide_eq_true z.2,decide_eq_false z.1] at c;cases c)] at ec
   rw[←ec] at b1
   exact hk h1 v1 x1 b1
end Go.Den
