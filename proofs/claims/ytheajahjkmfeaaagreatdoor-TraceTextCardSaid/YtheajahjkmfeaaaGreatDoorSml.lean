/-
 Proof.
-/
import Derived.Test.YtheajahjkmfeaaaGreatDoorCrd
namespace Go.Den
open Go.RowKit
set_option maxRecDepth 100000
theorem A9b:Hh env .eql 32 .Ai .Ai=some (.bool true):=by kernel_rfl
theorem Bf0(p q:P)(h:H):Ax env (env.ty 79) [(0,.Ai),(1,.map p),(2,.map q)] h=some (.agg [.Ai,.map p,.map q],h):=by kernel_rfl
theorem Bf1(h:H):Ax env (env.ty 57) [(0,.Ai)] h=some (.agg [.Ai,.Ai,.Ai,.Ai],h):=by kernel_rfl
theorem c13{h:H}{k:KV}(hk:∀h' pT pF pV,Exh h h'→h.next.nat≤pT.nat→h.next.nat≤pF.nat→h.next.nat≤pV.nat→Sq h' pT pF pV []→k (.tuple [.ptr pT 0,.int .i64 (Int.ofNat 0)]) h'):W1 (.func 13) [.Ai] h k:=by
 refine w13 (n:=1) Bg (g13 ?_)
 unfold Ao3
 rw[Lh]
 refine Aae (b:=false) (fun k' hk'=>?_) ?_
 · refine w25 (n:=1) Bg (g25 ?_)
   unfold Aoq
   refine w49 (n:=2) Bg (g49 ?_)
   unfold Anu
   rw[Lh]
   refine Bez ?_
   unfold Ant
   refine Cp rfl ?_
   show asI .i64 (.int .i64 (Int.negSucc 0)) _
   rw[Bj]
   show asB (.bool false) _
   rw[Bn];exact hk'
 refine Cp rfl ?_
 refine w26 (n:=1) Bg (g26 ?_)
 unfold Aop
 rw[A9b,Uu,Bn]
 refine Dp rfl ?_
 refine Cy ?_
 have x1:Exh h (h.new (.map [] 0)):=.new
 have n1:(h.new (.map [] 0)).next.nat=h.next.nat+1:=Bf
 have a1:(h.new (.map [] 0)).at h.next=.map [] 0:=Bc _ _
 generalize h.new (.map [] 0)=h1 at x1 a1 n1 ⊢
 refine Cy ?_
 have x2:Exh h1 (h1.new (.map [] 0)):=.new
 have n2:(h1.new (.map [] 0)).next.nat=h1.next.nat+1:=Bf
 have a2:(h1.new (.map [] 0)).at h1.next=.map [] 0:=Bc _ _
 generalize h1.new (.map [] 0)=h2 at x2 a2 n2 ⊢
 rw[Bf0,Ad,Fu]
 refine Ft (by simp) (Cy ?_)
 have x3:Exh h2 (h2.new (rowOf 79 [.Ai,.map h.next,.map h1.next])):=.new
 have n3:(h2.new (rowOf 79 [.Ai,.map h.next,.map h1.next])).next.nat=h2.next.nat+1:=Bf
 have a3:AtP (h2.new (rowOf 79 [.Ai,.map h.next,.map h1.next])) h2.next 0 [.Ai,.map h.next,.map h1.next]:=AtP.newRow
 generalize h2.new (rowOf 79 [.Ai,.map h.next,.map h1.next])=h3 at x3 a3 n3 ⊢
 exact hk h3 h2.next h.next h1.next ((x1.trans x2).trans x3) (by omega) (by omega) (by omega)
  { row:=a3,nT:=(by omega),nF:=(by omega),nV:=(by omega),ne:=(fun e=>by rw[←e] at n1;omega),files:=(⟨[],0,by rw[x3.2 _ (by omega),x2.2 _ (by omega)];exact a1,trivial,rfl⟩),Aq8:=⟨[],0,by rw[x3.2 _ (by omega)];exact a2,rfl⟩ }
structure Bbm(hE h:H)(pT pF pV pm:P)(fs ls:List Fl)(ns:List (List UInt8)):Prop where
 x:Exh hE h
 p:Sq h pT pF pV fs
 e:Wb h pm ls ns
 eT:hE.next.nat≤pT.nat
 eF:hE.next.nat≤pF.nat
 eV:hE.next.nat≤pV.nat
 em:hE.next.nat≤pm.nat
 lT:pT.nat<pm.nat
 same:∀q,Bl fs q=Bl ls q
 sp:Sht fs
 sl:Sht ls
theorem Ajd{fs ls:List Fl}{p:List UInt8}(h:Bl fs p=Bl ls p):crE fs p=crE ls p:=by unfold crE;rw[h]
theorem A1r{fs ls:List Fl}(h:∀q,Bl fs q=Bl ls q)(p x q:List UInt8):Bl (crF fs p x) q=Bl (crL ls p x) q:=by
 unfold crF crL
 rw[Ajd (h p)]
 by_cases e:crE ls p=0
 · rw[if_pos e,if_pos e]
   have hn:=(Awy.1 e).2
   rw[Xn (by rw[h p];exact hn),Wu hn,h q]
 · rw[if_neg e,if_neg e];exact h q
theorem A1v{fs:List Fl}{p x:List UInt8}(h:Sht fs)(hx:x.length≤2048):Sht (crF fs p x):=by
 unfold crF
 split
 · intro f hf
   rcases List.mem_append.1 hf with hf|hf
   · exact h f hf
   · rw[List.mem_singleton.1 hf];exact hx
 · exact h
theorem A1t{ls:List Fl}{p x:List UInt8}(h:Sht ls)(hx:x.length≤2048):Sht (crL ls p x):=by
 unfold crL
 split
 · intro f hf
   rcases Aa1 hf with rfl|hf
   · exact hx
   · exact h f hf
 · exact h
theorem A1w(fs:List Fl)(p x:List UInt8):(crF fs p x).length≤fs.length+1:=by
 unfold crF
 split
 · rw[List.length_append];exact Nat.le_refl _
 · exact Nat.le_succ _
theorem A1u(ls:List Fl)(p x:List UInt8):(crL ls p x).length≤ls.length+1:=by
 unfold crL
 split
 · rw[Air];exact Nat.le_refl _
 · exact Nat.le_succ _
theorem A1s(ls:List Fl)(p:List UInt8)(ns:List (List UInt8)):(crN ls p ns).length≤ns.length+1:=by
 unfold crN
 split
 · rw[List.length_append];exact Nat.le_refl _
 · exact Nat.le_succ _
theorem Art(n:Int):Ci (Bx n n)=false:=by rw[Akz];rfl
theorem Wb.Bmo{h:H}{pm:P}{ls:List Fl}{ns:List (List UInt8)}(t:Wb h pm ls ns):∀q cs,AtP h q 0 cs→cs.length=5→¬q=pm:=fun q cs ⟨c,m,f,hm,_⟩ h5 e=>by
 subst e
 obtain⟨t,a,_⟩:=t.row
 rcases f with⟨t',z,e',w,ha,_⟩|ha
 · rw[a] at ha;cases ha;omega
 · rw[a] at ha;cases ha
def Ale(l:List Fl):List Fl:=l.foldl (fun fs f=>crF fs f.1 f.2) []
theorem Baq{l:List Fl}{i:Nat}(h:i<l.length):Ale (l.take (i+1))=crF (Ale (l.take i)) l[i].1 l[i].2:=by
 have et:l.take (i+1)=l.take i++[l[i]]:=by rw[List.take_add_one,List.getElem?_eq_getElem h];rfl
 unfold Ale
 rw[et,List.foldl_append];rfl
theorem Bji {hE : H} {v : AV} {l : List Fl} (hv : SlE 2 hE v (fcs l)) (h8 : l.length ≤ 12) (hsm : ∀ f ∈ l, f.1.length ≤ 1000 ∧ f.2.length ≤ 2048) {pT pF pV pm : P} {k : KV}
    (hk : ∀ h' fs ls ns, fs = Ale l → Bbm hE h' pT pF pV pm fs ls ns → k (.tuple [.ptr pT 0, .ptr pm 0, .bool true]) h') : ∀ (n i : Nat) {h : H} {fs ls : List Fl} {ns : List (List UInt8)}, l.length - i < n → i ≤ l.length → fs.length ≤ i → ls.length ≤ i → ns.length ≤ i → fs = Ale (l.take i) → Bbm hE h pT pF pV pm fs ls ns → (r5 W1 k n).a1 v (.ptr pT 0) (.ptr pm 0) (Int.ofNat i) h
  | 0, _, _, _, _, _, hh, _, _, _, _, _, _ => absurd hh (Nat.not_lt_zero _)
  | n + 1, i, h, fs, ls, ns, hh, hi, l1, l2, l3, ha, b => by
    refine Bm2 ?_
    unfold Azz
    rw [hv.len, Je, ilt]
    refine Br (fun e => ?_) (fun e => hk h fs ls ns (by have := of_decide_eq_false e; rw [ha, List.take_of_length_le (by omega)]) b)
    have e : i < l.length := of_decide_eq_true e
    have e' : i < (fcs l).length := by rw [Je]; exact e
    have sm := hsm _ (List.getElem_mem e)
    have rd : ∀ {K : AV → Prop} (_ : ∀ q o, q.nat < hE.next.nat → AtP hE q o [S l[i].1, S l[i].2] → K (.ptr q o)), Ce (Int.ofNat i) fun m => Cc 2 m v K := fun hK => Dg ((hv.rd e').elem e' fun q o hq _ ha => by
      rw [Vg e] at ha
      exact hK q o hq ha)
    refine rd fun q1 o1 n1 a1 => ?_
    rw [Ae]
    refine (a1.ext b.x n1).ld1 (j := 0) (by show 0 < 2; decide) ?_
    show asS (S l[i].1) _
    rw [Eg]
    refine rd fun q2 o2 n2 a2 => ?_
    rw [Ae]
    refine (a2.ext b.x n2).ld1 (j := 1) (by show 1 < 2; decide) ?_
    show asS (S l[i].2) _
    rw [Eg]
    refine rd fun q3 o3 n3 a3 => ?_
    rw [Ae]
    refine (a3.ext b.x n3).ld1 (j := 0) (by show 0 < 2; decide) ?_
    show asS (S l[i].1) _
    rw [Eg]
    refine rd fun q4 o4 n4 a4 => ?_
    rw [Ae]
    refine (a4.ext b.x n4).ld1 (j := 1) (by show 1 < 2; decide) ?_
    show asS (S l[i].2) _
    rw [Eg]
    refine c14 b.p (by omega) (by omega) sm.2 fun h1 x1 t1 => ?_
    rw [Bj]
    have X1 : Exh hE h1 := x1.exh b.x fun c q => by
      rcases q with rfl | rfl
      · exact b.eF
      · exact b.eV
    refine (a3.ext X1 n3).ld1 (j := 0) (by show 0 < 2; decide) ?_
    show asS (S l[i].1) _
    rw [Eg]
    refine Gm (.inl ⟨_, _, rfl⟩) ?_
    refine (a4.ext X1 n4).ld1 (j := 1) (by show 1 < 2; decide) ?_
    show asS (S l[i].2) _
    rw [Eg]
    refine Gm (.inl ⟨_, _, rfl⟩) ?_
    obtain ⟨es, ck, hF, _⟩ := b.p.files
    obtain ⟨ev, cv, hV, _⟩ := b.p.Aq8
    have E1 : Wb h1 pm ls ns := b.e.frx x1 fun q ⟨c, m, f⟩ e => e.elim (fun e => by subst e; exact Ali f hF) fun e => by subst e; exact Ali f hV
    refine c15 E1 (by omega) (by omega) (by omega) sm.2 fun h2 x2 t2 => ?_
    rw [Bj, Ajd (b.same l[i].1)]
    refine Cp (Art _) (Bw (by omega) ?_)
    have pne : ∀ {a b : P}, a.nat ≠ b.nat → a ≠ b := fun q e => q (by rw [e])
    have hm : ∃ t, h1.at pm = .row t 4 0 TRf true := by obtain ⟨t, a, _⟩ := E1.row; exact ⟨t, a⟩
    obtain ⟨tm, hm⟩ := hm
    obtain ⟨es1, ck1, hF1, _⟩ := t1.files
    obtain ⟨ev1, cv1, hV1, _⟩ := t1.Aq8
    have T2 : Sq h2 pT pF pV (crF fs l[i].1 l[i].2) := by
      have ok := E1.Bmo
      have neF : pF ≠ pm := fun e => by rw [e, hm] at hF1; cases hF1
      have neV : pV ≠ pm := fun e => by rw [e, hm] at hV1; cases hV1
      have neT : pT ≠ pm := pne (by have := b.lT; omega)
      obtain ⟨es1, ck1, hF1, hfs1, hl1⟩ := t1.files
      obtain ⟨ev1, cv1, hV1, hk1⟩ := t1.Aq8
      exact ⟨t1.row.frame (x2.2 pT t1.nT neT), Nat.lt_of_lt_of_le t1.nT x2.1, Nat.lt_of_lt_of_le t1.nF x2.1, Nat.lt_of_lt_of_le t1.nV x2.1, t1.ne, ⟨es1, ck1, by rw [x2.2 pF t1.nF neF]; exact hF1, hfs1.mono fun v s r => r.frx x2 ok, hl1⟩, ⟨ev1, cv1, by rw [x2.2 pV t1.nV neV]; exact hV1, hk1⟩⟩
    have X2 : Exh hE h2 := x2.exh X1 fun c q => by rw [q]; exact b.em
    have := A1w fs l[i].1 l[i].2
    have := A1u ls l[i].1 l[i].2
    have := A1s ls l[i].1 ns
    exact Bji hv h8 hsm hk n (i + 1) (by omega) e (by omega) (by omega) (by omega) (by rw [Baq e, ← ha])
      { x := X2, p := T2, e := t2, eT := b.eT, eF := b.eF, eV := b.eV, em := b.em, lT := b.lT, same := A1r b.same _ _, sp := A1v b.sp sm.2, sl := A1t b.sl sm.2 }
theorem c5{h:H}{v:AV}{l:List Fl}(hv:SlE 2 h v (fcs l))(h8:l.length≤12)(hsm:∀f∈l,f.1.length≤1000∧f.2.length≤2048){k:KV}
 (hk:∀h' pT pF pV pm fs ls ns,fs=Ale l→Bbm h h' pT pF pV pm fs ls ns→k (.tuple [.ptr pT 0,.ptr pm 0,.bool true]) h'):W1 (.func 5) [.Ai,v] h k:=by
 refine w5 (n:=l.length+2) Bg (g5 ?_)
 unfold Az0
 refine c13 fun h1 pT pF pV x1 eT eF eV t1=>?_
 rw[Hu,Ht,Bj,Bf1,Ad,Fu]
 refine Ft (by simp) (Cy ?_)
 have x2:Exh h1 (h1.new (rowOf 57 [.Ai,.Ai,.Ai,.Ai])):=.new
 have n2:(h1.new (rowOf 57 [.Ai,.Ai,.Ai,.Ai])).next.nat=h1.next.nat+1:=Bf
 have a2:(h1.new (rowOf 57 [.Ai,.Ai,.Ai,.Ai])).at h1.next=.row (Aj [.Ai,.Ai,.Ai,.Ai] 0 .e) 4 0 TRf true:=Bc _ _
 generalize h1.new (rowOf 57 [.Ai,.Ai,.Ai,.Ai])=h2 at x2 a2 n2 ⊢
 refine Qe (fun _=>?_) (fun q=>by cases q)
 rw[A89,Uu,Bn]
 refine Cp rfl ?_
 have nT:=t1.nT
 have g:∀j,1≤j→j<4→Aw (Aj [.Ai,.Ai,.Ai,.Ai] 0 .e) j=.Ai:=fun j h1 h2=>by
  rw[Ah,if_pos ⟨Nat.zero_le _,by show j<0+4;omega⟩]
  match j,h1,h2 with
  |1,_,_|2,_,_|3,_,_=>rfl
 have nl:∀{sz:Nat}{v:AV},v=.Ai→SlR sz h2 v []:=fun e=>.inl ⟨e,rfl⟩
 have ap:∀{v:AV},v=.Ai→Ny h1.next v:=fun e q o n z b e'=>by rw[e] at e';cases e'
 refine Bji hv h8 hsm (fun h' fs ls ns a b=>hk h' pT pF pV h1.next fs ls ns a b) (l.length+1) 0 (fs:=[]) (ls:=[]) (ns:=[]) (by omega) (Nat.zero_le _) (Nat.le_refl _) (Nat.le_refl _) (Nat.le_refl _) (by rw[List.take_zero];rfl)
  { x:=x1.trans x2,p:=t1.ext x2,e:=(⟨by omega,⟨_,a2,⟨nl (g 1 (by decide) (by decide)),nl (g 2 (by decide) (by decide)),nl (g 3 (by decide) (by decide))⟩,ap (g 1 (by decide) (by decide)),ap (g 2 (by decide) (by decide)),ap (g 3 (by decide) (by decide))⟩,trivial,Nat.zero_le _,Nat.zero_le _,fun s hs=>by cases hs⟩),eT:=eT,eF:=eF,eV:=eV,em:=x1.1,lT:=nT,same:=fun _=>rfl,sp:=(fun f hf=>by cases hf),sl:=fun f hf=>by cases hf }
end Go.Den
noncomputable section
namespace Go.Den
open Go.RowKit
set_option maxRecDepth 100000
structure SkA where
 m:List UInt8
 fl:List UInt8
 f:Int
 t:Int
 md:Bool
def SkA.cs(x:SkA):List AV:=[S x.m,S x.fl,.int .i64 x.f,.int .i64 x.t,.bool x.md]
structure TkA where
 k:Int
 s:List UInt8
 sp:Bool
 fl:List UInt8
 f:Int
 t:Int
 md:Bool
 sv:AV
 st:List SkA
def TkA.cs(x:TkA):List AV:=[.int .i64 x.k,S x.s,.bool x.sp,S x.fl,.int .i64 x.f,.int .i64 x.t,.bool x.md,x.sv]
def tks(l:List TkA):List (List AV):=l.map TkA.cs
def sks(l:List SkA):List (List AV):=l.map SkA.cs
theorem Yh(l:List TkA):(tks l).length=l.length:=List.length_map ..
theorem Ama{l:List TkA}{i:Nat}(h:i<l.length)(h':i<(tks l).length):(tks l)[i]=l[i].cs:=List.getElem_map ..
theorem Ame(l:List SkA):(sks l).length=l.length:=List.length_map ..
theorem Azr{l:List SkA}{i:Nat}(h:i<l.length)(h':i<(sks l).length):(sks l)[i]=l[i].cs:=List.getElem_map ..
def TkR(h:H)(v:AV)(l:List TkA):Prop:=SlE 8 h v (tks l)∧∀x∈l,SlE 5 h x.sv (sks x.st)
theorem TkR.ext{h h':H}{v:AV}{l:List TkA}(r:TkR h v l)(x:Exh h h'):TkR h' v l:=⟨r.1.ext x,fun y hy=>(r.2 y hy).ext x⟩
end Go.Den
