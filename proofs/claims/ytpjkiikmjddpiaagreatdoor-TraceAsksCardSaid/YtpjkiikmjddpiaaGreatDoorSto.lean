/-
  A part of the proof: both tables of files, side by side.
-/
import Derived.Test.YtpjkiikmjddpiaaGreatDoorCrd
namespace Go.Den
open Go.RowKit
set_option maxRecDepth 100000
theorem eqS48n:binA env .eql 48 .nils .nils=some (.bool true):=by kernel_rfl
theorem exB87(p q:P)(h:H):exBuild env (env.ty 87) [(0,.nils),(1,.map p),(2,.map q)] h=some (.agg [.nils,.map p,.map q],h):=by kernel_rfl
theorem exB66(h:H):exBuild env (env.ty 66) [(0,.nils)] h=some (.agg [.nils,.nils,.nils,.nils],h):=by kernel_rfl
theorem c20{h:H}{k:KV}(hk:∀h' pT pF pV,Exh h h'→h.next.nat≤pT.nat→h.next.nat≤pF.nat→h.next.nat≤pV.nat→TabP h' pT pF pV []→k (.tuple [.ptr pT 0,.int .i64 (Int.ofNat 0)]) h'):W1 (.func 20) [.nils] h k:=by
  refine w20 (n:=1) sw_ok (g20 ?_)
  unfold s20_0
  rw[lenV_nils]
  refine or_q (b:=false) (fun k' hk'=>?_) ?_
  · refine w34 (n:=1) sw_ok (g34 ?_)
    unfold s34_0
    refine w59 (n:=2) sw_ok (g59 ?_)
    unfold s59_0
    rw[lenV_nils]
    refine j59_1 ?_
    unfold s59_1
    refine cnd_f rfl ?_
    show asI .i64 (.int .i64 (Int.negSucc 0)) _
    rw[asI_k]
    show asB (.bool false) _
    rw[asB_b];exact hk'
  refine cnd_f rfl ?_
  refine w35 (n:=1) sw_ok (g35 ?_)
  unfold s35_0
  rw[eqS48n,oV_b,asB_b]
  refine cnd_t rfl ?_
  refine newK_i ?_
  have x1:Exh h (h.new (.map [] 0)):=.new
  have n1:(h.new (.map [] 0)).next.nat=h.next.nat+1:=next_new
  have a1:(h.new (.map [] 0)).at h.next=.map [] 0:=at_new_same _ _
  generalize h.new (.map [] 0)=h1 at x1 a1 n1 ⊢
  refine newK_i ?_
  have x2:Exh h1 (h1.new (.map [] 0)):=.new
  have n2:(h1.new (.map [] 0)).next.nat=h1.next.nat+1:=next_new
  have a2:(h1.new (.map [] 0)).at h1.next=.map [] 0:=at_new_same _ _
  generalize h1.new (.map [] 0)=h2 at x2 a2 n2 ⊢
  rw[exB87,oK_some,asG_g]
  refine chk_i (by simp) (newK_i ?_)
  have x3:Exh h2 (h2.new (rowOf 87 [.nils,.map h.next,.map h1.next])):=.new
  have n3:(h2.new (rowOf 87 [.nils,.map h.next,.map h1.next])).next.nat=h2.next.nat+1:=next_new
  have a3:AtP (h2.new (rowOf 87 [.nils,.map h.next,.map h1.next])) h2.next 0 [.nils,.map h.next,.map h1.next]:=AtP.newRow
  generalize h2.new (rowOf 87 [.nils,.map h.next,.map h1.next])=h3 at x3 a3 n3 ⊢
  exact hk h3 h2.next h.next h1.next ((x1.trans x2).trans x3) (by omega) (by omega) (by omega)
    { row:=a3
      nT:=by omega
      nF:=by omega
      nV:=by omega
      ne:=fun e=>by rw[←e] at n1;omega
      files:=⟨[],0,by rw[x3.2 _ (by omega),x2.2 _ (by omega)];exact a1,trivial,rfl⟩
      vers:=⟨[],0,by rw[x3.2 _ (by omega)];exact a2,rfl⟩ }
/-- both tables, of the same files -/
structure Both(hE h:H)(pT pF pV pm:P)(fs ls:List Fl)(ns:List (List UInt8)):Prop where
  x:Exh hE h
  p:TabP h pT pF pV fs
  e:TabE h pm ls ns
  eT:hE.next.nat≤pT.nat
  eF:hE.next.nat≤pF.nat
  eV:hE.next.nat≤pV.nat
  em:hE.next.nat≤pm.nat
  lT:pT.nat<pm.nat
  same:∀q,textOf fs q=textOf ls q
  sp:Sht fs
  sl:Sht ls
theorem crE_same{fs ls:List Fl}{p:List UInt8}(h:textOf fs p=textOf ls p):crE fs p=crE ls p:=by unfold crE;rw[h]
theorem cr_same{fs ls:List Fl}(h:∀q,textOf fs q=textOf ls q)(p x:List UInt8)(q:List UInt8):textOf (crF fs p x) q=textOf (crL ls p x) q:=by
  unfold crF crL
  rw[crE_same (h p)]
  by_cases e:crE ls p=0
  · rw[if_pos e,if_pos e]
    have hn:=(crE_0.1 e).2
    rw[textOf_snoc (by rw[h p];exact hn),insF_text hn,h q]
  · rw[if_neg e,if_neg e];exact h q
theorem crF_sht{fs:List Fl}{p x:List UInt8}(h:Sht fs)(hx:x.length≤2048):Sht (crF fs p x):=by
  unfold crF
  split
  · intro f hf
    rcases List.mem_append.1 hf with hf|hf
    · exact h f hf
    · rw[List.mem_singleton.1 hf];exact hx
  · exact h
theorem crL_sht{ls:List Fl}{p x:List UInt8}(h:Sht ls)(hx:x.length≤2048):Sht (crL ls p x):=by
  unfold crL
  split
  · intro f hf
    rcases insF_mem hf with rfl|hf
    · exact hx
    · exact h f hf
  · exact h
theorem crF_len(fs:List Fl)(p x:List UInt8):(crF fs p x).length≤fs.length+1:=by
  unfold crF
  split
  · rw[List.length_append];exact Nat.le_refl _
  · exact Nat.le_succ _
theorem crL_len(ls:List Fl)(p x:List UInt8):(crL ls p x).length≤ls.length+1:=by
  unfold crL
  split
  · rw[insF_len];exact Nat.le_refl _
  · exact Nat.le_succ _
theorem crN_len(ls:List Fl)(p:List UInt8)(ns:List (List UInt8)):(crN ls p ns).length≤ns.length+1:=by
  unfold crN
  split
  · rw[List.length_append];exact Nat.le_refl _
  · exact Nat.le_succ _
theorem ibeq_same(n:Int):bnot (ibeq n n)=false:=by rw[ibeq_r];rfl
theorem TabE.not5{h:H}{pm:P}{ls:List Fl}{ns:List (List UInt8)}(t:TabE h pm ls ns):∀q cs,AtP h q 0 cs→cs.length=5→¬q=pm:=fun q cs ⟨c,m,f,hm,_⟩ h5 e=>by
  subst e
  obtain⟨t,a,_⟩:=t.row
  rcases f with⟨t',z,e',w,ha,_⟩|ha
  · rw[a] at ha;cases ha;omega
  · rw[a] at ha;cases ha
theorem c8_1 {hE : H} {v : AV} {l : List Fl} (hv : SlE 2 hE v (fcs l)) (h8 : l.length ≤ 12) (hsm : ∀ f ∈ l, f.1.length ≤ 1000 ∧ f.2.length ≤ 2048) {pT pF pV pm : P} {k : KV}
    (hk : ∀ h' fs ls ns, Both hE h' pT pF pV pm fs ls ns → k (.tuple [.ptr pT 0, .ptr pm 0, .bool true]) h') : ∀ (n i : Nat) {h : H} {fs ls : List Fl} {ns : List (List UInt8)}, l.length - i < n → i ≤ l.length → fs.length ≤ i → ls.length ≤ i → ns.length ≤ i → Both hE h pT pF pV pm fs ls ns → (r8 W1 k n).a1 v (.ptr pT 0) (.ptr pm 0) (Int.ofNat i) h
  | 0, _, _, _, _, _, hh, _, _, _, _, _ => absurd hh (Nat.not_lt_zero _)
  | n + 1, i, h, fs, ls, ns, hh, hi, l1, l2, l3, b => by
    refine j8_1 ?_
    unfold s8_1
    rw [hv.len, fcs_len, ilt]
    refine cnd_i (fun e => ?_) (fun _ => hk h fs ls ns b)
    have e : i < l.length := of_decide_eq_true e
    have e' : i < (fcs l).length := by rw [fcs_len]; exact e
    have sm := hsm _ (List.getElem_mem e)
    have rd : ∀ {K : AV → Prop} (_ : ∀ q o, q.nat < hE.next.nat → AtP hE q o [S l[i].1, S l[i].2] → K (.ptr q o)), natI (Int.ofNat i) fun m => elemA 2 m v K := fun hK => natI_go ((hv.rd e').elem e' fun q o hq _ ha => by
      rw [fcs_get e] at ha
      exact hK q o hq ha)
    refine rd fun q1 o1 n1 a1 => ?_
    rw [fAddr_i]
    refine (a1.ext b.x n1).ld1 (j := 0) (by show 0 < 2; decide) ?_
    show asS (S l[i].1) _
    rw [asS_s]
    refine rd fun q2 o2 n2 a2 => ?_
    rw [fAddr_i]
    refine (a2.ext b.x n2).ld1 (j := 1) (by show 1 < 2; decide) ?_
    show asS (S l[i].2) _
    rw [asS_s]
    refine rd fun q3 o3 n3 a3 => ?_
    rw [fAddr_i]
    refine (a3.ext b.x n3).ld1 (j := 0) (by show 0 < 2; decide) ?_
    show asS (S l[i].1) _
    rw [asS_s]
    refine rd fun q4 o4 n4 a4 => ?_
    rw [fAddr_i]
    refine (a4.ext b.x n4).ld1 (j := 1) (by show 1 < 2; decide) ?_
    show asS (S l[i].2) _
    rw [asS_s]
    refine c21 b.p (by omega) (by omega) sm.2 fun h1 x1 t1 => ?_
    rw [asI_k]
    have X1 : Exh hE h1 := x1.exh b.x fun c q => by
      rcases q with rfl | rfl
      · exact b.eF
      · exact b.eV
    refine (a3.ext X1 n3).ld1 (j := 0) (by show 0 < 2; decide) ?_
    show asS (S l[i].1) _
    rw [asS_s]
    refine eqC_smp (.inl ⟨_, _, rfl⟩) ?_
    refine (a4.ext X1 n4).ld1 (j := 1) (by show 1 < 2; decide) ?_
    show asS (S l[i].2) _
    rw [asS_s]
    refine eqC_smp (.inl ⟨_, _, rfl⟩) ?_
    obtain ⟨es, ck, hF, _⟩ := b.p.files
    obtain ⟨ev, cv, hV, _⟩ := b.p.vers
    have E1 : TabE h1 pm ls ns := b.e.frx x1 fun q ⟨c, m, f⟩ e => e.elim (fun e => by subst e; exact cf_map f hF) fun e => by subst e; exact cf_map f hV
    refine c22 E1 (by omega) (by omega) (by omega) sm.2 fun h2 x2 t2 => ?_
    rw [asI_k, crE_same (b.same l[i].1)]
    refine cnd_f (ibeq_same _) (fIadd (by omega) ?_)
    have pne : ∀ {a b : P}, a.nat ≠ b.nat → a ≠ b := fun q e => q (by rw [e])
    have hm : ∃ t, h1.at pm = .row t 4 0 TRf true := by obtain ⟨t, a, _⟩ := E1.row; exact ⟨t, a⟩
    obtain ⟨tm, hm⟩ := hm
    obtain ⟨es1, ck1, hF1, _⟩ := t1.files
    obtain ⟨ev1, cv1, hV1, _⟩ := t1.vers
    have T2 : TabP h2 pT pF pV (crF fs l[i].1 l[i].2) := by
      have ok := E1.not5
      have neF : pF ≠ pm := fun e => by rw [e, hm] at hF1; cases hF1
      have neV : pV ≠ pm := fun e => by rw [e, hm] at hV1; cases hV1
      have neT : pT ≠ pm := pne (by have := b.lT; omega)
      obtain ⟨es1, ck1, hF1, hfs1, hl1⟩ := t1.files
      obtain ⟨ev1, cv1, hV1, hk1⟩ := t1.vers
      exact ⟨t1.row.frame (x2.2 pT t1.nT neT), Nat.lt_of_lt_of_le t1.nT x2.1, Nat.lt_of_lt_of_le t1.nF x2.1, Nat.lt_of_lt_of_le t1.nV x2.1, t1.ne, ⟨es1, ck1, by rw [x2.2 pF t1.nF neF]; exact hF1, hfs1.mono fun v s r => r.frx x2 ok, hl1⟩, ⟨ev1, cv1, by rw [x2.2 pV t1.nV neV]; exact hV1, hk1⟩⟩
    have X2 : Exh hE h2 := x2.exh X1 fun c q => by rw [q]; exact b.em
    have := crF_len fs l[i].1 l[i].2
    have := crL_len ls l[i].1 l[i].2
    have := crN_len ls l[i].1 ns
    exact c8_1 hv h8 hsm hk n (i + 1) (by omega) e (by omega) (by omega) (by omega)
      { x := X2, p := T2, e := t2, eT := b.eT, eF := b.eF, eV := b.eV, em := b.em, lT := b.lT, same := cr_same b.same _ _, sp := crF_sht b.sp sm.2, sl := crL_sht b.sl sm.2 }
theorem c8{h:H}{v:AV}{l:List Fl}(hv:SlE 2 h v (fcs l))(h8:l.length≤12)(hsm:∀f∈l,f.1.length≤1000∧f.2.length≤2048){k:KV}
    (hk:∀h' pT pF pV pm fs ls ns,Both h h' pT pF pV pm fs ls ns→k (.tuple [.ptr pT 0,.ptr pm 0,.bool true]) h'):W1 (.func 8) [.nils,v] h k:=by
  refine w8 (n:=l.length+2) sw_ok (g8 ?_)
  unfold s8_0
  refine c20 fun h1 pT pF pV x1 eT eF eV t1=>?_
  rw[ext_0,ext_1,asI_k,exB66,oK_some,asG_g]
  refine chk_i (by simp) (newK_i ?_)
  have x2:Exh h1 (h1.new (rowOf 66 [.nils,.nils,.nils,.nils])):=.new
  have n2:(h1.new (rowOf 66 [.nils,.nils,.nils,.nils])).next.nat=h1.next.nat+1:=next_new
  have a2:(h1.new (rowOf 66 [.nils,.nils,.nils,.nils])).at h1.next=.row (tlist [.nils,.nils,.nils,.nils] 0 .e) 4 0 TRf true:=at_new_same _ _
  generalize h1.new (rowOf 66 [.nils,.nils,.nils,.nils])=h2 at x2 a2 n2 ⊢
  refine or_i (fun _=>?_) (fun q=>by cases q)
  rw[eqTb,oV_b,asB_b]
  refine cnd_f rfl ?_
  have nT:=t1.nT
  have g:∀j,1≤j→j<4→tget (tlist [.nils,.nils,.nils,.nils] 0 .e) j=.nils:=fun j h1 h2=>by
    rw[tget_tlist,if_pos ⟨Nat.zero_le _,by show j<0+4;omega⟩]
    match j,h1,h2 with
    |1,_,_|2,_,_|3,_,_=>rfl
  have nl:∀{sz:Nat}{v:AV},v=.nils→SlR sz h2 v []:=fun e=>.inl ⟨e,rfl⟩
  have ap:∀{v:AV},v=.nils→Apart h1.next v:=fun e q o n z b e'=>by rw[e] at e';cases e'
  refine c8_1 hv h8 hsm (fun h' fs ls ns b=>hk h' pT pF pV h1.next fs ls ns b) (l.length+1) 0 (fs:=[]) (ls:=[]) (ns:=[]) (by omega) (Nat.zero_le _) (Nat.le_refl _) (Nat.le_refl _) (Nat.le_refl _)
    { x:=x1.trans x2
      p:=t1.ext x2
      e:=⟨by omega,⟨_,a2,⟨nl (g 1 (by decide) (by decide)),nl (g 2 (by decide) (by decide)),nl (g 3 (by decide) (by decide))⟩,ap (g 1 (by decide) (by decide)),ap (g 2 (by decide) (by decide)),ap (g 3 (by decide) (by decide))⟩,trivial,Nat.zero_le _,Nat.zero_le _,fun s hs=>by cases hs⟩
      eT:=eT
      eF:=eF
      eV:=eV
      em:=x1.1
      lT:=nT
      same:=fun _=>rfl
      sp:=fun f hf=>by cases hf
      sl:=fun f hf=>by cases hf }
end Go.Den
