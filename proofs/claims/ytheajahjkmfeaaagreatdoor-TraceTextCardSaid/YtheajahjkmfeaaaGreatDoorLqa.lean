/-
 Proof.
-/
import Derived.Test.YtheajahjkmfeaaaGreatDoorLpz
noncomputable section
namespace Go.Den
open Go.RowKit
open Go.Lx (Rn bts Au)
set_option maxRecDepth 100000
theorem Bfz(h:H):Ax env (env.ty TCg) [(1,.int .i64 (Int.ofNat 1)),(2,.int .i64 (Int.ofNat 3000))] h=some (.agg [.Ai,.int .i64 (Int.ofNat 1),.int .i64 (Int.ofNat 3000)],h):=by kernel_rfl
theorem Bfy(a b c d:Nat)(h:H):Ax env (env.ty 28) [(0,.str a b),(1,.str c d)] h=some (.agg [.str a b,.str c d],h):=by kernel_rfl
def ZFi:Tm:=Aj [.str 0 0,.str 0 0] 0 .e
theorem Bjs(a b:AV)(h:H):Ap env 29 (fun t ei=>Ak 1 [(0,.agg [a,b])] h t ei)=some (.slice h.next 0 1 2 true,h.new (.row (Aj [a,b] 0 ZFi) 2 0 28 true)):=by kernel_rfl
theorem Ao9{h:H}{e:TypeId}{ds:List AV}{sz:Nat}{t:Tm}{w:Bool}(hd:ds.length=sz):Rd sz (h.new (.row (Aj ds 0 t) sz 0 e w)) (.slice h.next 0 1 sz true) [ds]:=by
 have r:=Ld.app (t:=t) (Ld.nil (sz:=sz) (o:=0)) hd
 rw[show([]:List (List AV)).length*sz=0 by simp,List.nil_append] at r
 exact .row h.next 0 _ sz 0 e w true rfl (by rw[Bf];omega) (Bc _ _) (by simp) r
theorem A1x(s:List UInt8):Bl (Ale [(nmA,s)]) nmA=some s:=by
 have e:Me nmA=true:=by decide
 have c:crE [] nmA=0:=by unfold crE;rw[if_pos e];rfl
 show Bl (crF [] nmA s) nmA=some s
 unfold crF
 rw[if_pos c]
 show(if nmA=nmA then some s else _)=some s
 rw[if_pos rfl]
section
variable{hB:H}{p4:P}{vt vd vf va:AV}{s:List UInt8}{T:List (Nat×Bool)}{k:KV}
theorem Txt.el(x:Txt hB p4 vt vd vf va s T){j:Nat}(hj:j<T.length){K:AV→Prop}(hk:∀q o,(∀h',Exh hB h'→AtP h' q o (Qi nmA (Au s) T[j]).cs)→K (.ptr q o)):Ce (Int.ofNat j) fun m=>Cc 8 m vt K:=Dg (by
 have e':j<(tks (T.map (Qi nmA (Au s)))).length:=by rw[Yh,List.length_map];exact hj
 refine(x.tk.1.rd e').elem e' fun q o hq _ ha=>hk q o ?_
 have hj':j<(T.map (Qi nmA (Au s))).length:=by rw[List.length_map];exact hj
 rw[Ama hj' e',List.getElem_map] at ha
 exact fun h' xx=>ha.ext xx hq)
theorem Txt.ln(x:Txt hB p4 vt vd vf va s T){K:Nat→Prop}:Cz vt K=K T.length:=by rw[x.tk.1.len,Yh,List.length_map]
theorem Boq(x:Txt hB p4 vt vd vf va s T){i B:Nat}(hi:i<s.length){w:AV}(hk:∀h,k (.bool true) h)
 (nxt:∀(a n:Nat)(h:H),a≤T.length→(∀j (hj:j<T.length),j<a→tEd s T[j].1≤i)→B+(T.length-a)+1<n→Exh hB h→(r3 W1 k n).a4 s.length (enc s) (.ptr p4 0) (Int.ofNat a) (Int.ofNat i) h):
 ∀(d a n:Nat){h:H},T.length-a=d→a≤T.length→(∀j (hj:j<T.length),j<a→tEd s T[j].1≤i)→B+(T.length-a)+2<n→Exh hB h→SlR 1 h w (ics (Pa nmA (Int.ofNat i) (Int.ofNat (i+1)) (T.map (Qi nmA (Au s))) T.length))→(r3 W1 k n).a3 s.length (enc s) (.ptr p4 0) (Int.ofNat a) (Int.ofNat i) w h:=by
 intro d
 induction d with
 |zero=>
  intro a n h hd ha hlo hn xx hw
  obtain⟨n,rfl⟩:∃m,n=m+1:=⟨n-1,by omega⟩
  have e:a=T.length:=by omega
  refine Be3 ?_
  unfold Atf
  have R:=x.row.ext xx x.n4
  have lt:∀{K:Nat→Prop},K T.length→(Ac 0 (.ptr p4 0) fun v62=>ld1 v62 h fun v63=>Cz v63 K):=fun hK=>by
   rw[Ae]
   refine R.ld1 (j:=0) (by show 0<5;decide) ?_
   show Cz vt _
   rw[x.ln];exact hK
  refine lt ?_
  rw[ilt,decide_eq_false (show¬a<T.length by omega)]
  refine Fa (fun q=>by cases q) (fun _=>?_)
  refine Cp rfl ?_
  refine lt ?_
  rw[ilt,decide_eq_false (show¬a<T.length by omega)]
  refine Fa (fun q=>by cases q) (fun _=>?_)
  refine Fa (fun q=>by cases q) (fun _=>?_)
  have hz:Pa nmA (Int.ofNat i) (Int.ofNat (i+1)) (T.map (Qi nmA (Au s))) T.length=[]:=by
   rw[x.Pa ha hlo (fun hj=>by omega) T.length (Nat.le_refl _),if_neg fun q=>by have:=q.2;omega]
  rw[hz] at hw
  refine Qe (fun _=>?_) (fun q=>by cases q)
  refine Fa (fun _=>?_) (fun q=>by cases q)
  rw[hw.len]
  refine Cp rfl ?_
  refine Fa (fun q=>by cases q) (fun _=>?_)
  refine Cp rfl ?_
  exact nxt a n h ha hlo (by omega) xx
 |succ d ih=>
  intro a n h hd ha hlo hn xx hw
  obtain⟨n,rfl⟩:∃m,n=m+1:=⟨n-1,by omega⟩
  have hlt:a<T.length:=by omega
  obtain⟨kd,ec⟩:=x.cell hlt
  refine Be3 ?_
  unfold Atf
  have R:∀{h'},Exh hB h'→Cd h' p4 34 [vt,vd,vf,va,.bool false]:=fun x'=>x.row.ext x' x.n4
  have vt0:∀{h':H}{K:AV→Prop},Exh hB h'→K vt→(Ac 0 (.ptr p4 0) fun v62=>ld1 v62 h' K):=fun{h' K} x' hK=>by
   rw[Ae]
   exact(R x').ld1 (j:=0) (by show 0<5;decide) hK
  have lt:∀{h':H}{K:Nat→Prop},Exh hB h'→K T.length→(Ac 0 (.ptr p4 0) fun v62=>ld1 v62 h' fun v63=>Cz v63 K):=fun{h' K} x' hK=>vt0 x' (by rw[x.ln];exact hK)
  have cl3:∀{h':H}{K:AV→Prop}{j:Nat}{v:AV}(hj:3+j<8),(Qi nmA (Au s) T[a]).cs[3+j]'hj=v→Exh hB h'→K v→(Ce (Int.ofNat a) fun m=>Cc 8 m vt fun v=>Ac 3 v fun v=>Ac j v fun v=>ld1 v h' K):=fun{h' K j v} hj hv x' hK=>x.el hlt fun q o ha'=>by
   rw[Ae,Ae,Nat.add_assoc]
   exact(ha' _ x').ld1 (j:=3+j) hj (by rw[hv];exact hK)
  have cf:(Qi nmA (Au s) T[a]).cs[3+1]'(by show 3+1<8;decide)=.int .i64 (Int.ofNat T[a].1):=by
   have:∀(y:TkA)(hy:3+1<y.cs.length),y.cs[3+1]=.int .i64 y.f:=fun _ _=>rfl
   rw[this,ec]
  have ct:(Qi nmA (Au s) T[a]).cs[3+2]'(by show 3+2<8;decide)=.int .i64 (Int.ofNat (tEd s T[a].1)):=by
   have:∀(y:TkA)(hy:3+2<y.cs.length),y.cs[3+2]=.int .i64 y.t:=fun _ _=>rfl
   rw[this,ec]
  have cx:(Qi nmA (Au s) T[a]).cs[1]'(by show 1<8;decide)=S ((s.drop T[a].1).take (mL (Au s) T[a].1)):=by
   have:∀(y:TkA)(hy:1<y.cs.length),y.cs[1]=S y.s:=fun _ _=>rfl
   rw[this,ec]
  refine lt xx ?_
  rw[ilt,decide_eq_true hlt]
  refine Fa (fun _=>?_) (fun q=>by cases q)
  refine vt0 xx (cl3 (by decide) ct xx ?_)
  rw[Bj,ile]
  refine Br (fun e=>?_) (fun e=>?_)
  · have e:=of_decide_eq_true e
    refine Bw (by have:=x.len;omega) (ih (a+1) n (by omega) hlt (fun j hj hja=>?_) (by omega) xx hw)
    by_cases c:j=a
    · subst c;exact e
    · exact hlo j hj (by omega)
  · have e:¬tEd s T[a].1≤i:=of_decide_eq_false e
    have hz:=x.Pa ha hlo (fun _=>by omega) T.length (Nat.le_refl _)
    rw[hz] at hw
    refine lt xx ?_
    rw[ilt,decide_eq_true hlt]
    refine Fa (fun _=>?_) (fun q=>by cases q)
    refine vt0 xx (cl3 (by decide) cf xx ?_)
    rw[Bj,ile]
    by_cases c:T[a].1≤i
    · rw[if_pos ⟨⟨hlt,c⟩,hlt⟩] at hw
      rw[decide_eq_true c]
      refine Fa (fun _=>?_) (fun q=>by cases q)
      rw[Ba6,Ad]
      have x2:Exh h (h.new (.row (Aj [.int .i64 (Int.ofNat a)] 0 Z3) 1 0 3 true)):=.new
      have r2:Rd 1 (h.new (.row (Aj [.int .i64 (Int.ofNat a)] 0 Z3) 1 0 3 true)) (.slice h.next 0 1 1 true) [[.int .i64 (Int.ofNat a)]]:=Ao9 rfl
      refine c8 (l:=[a]) (hw.ext x2) (.inr r2) (by show 1≤1000000;decide) ?_
      generalize h.new (.row (Aj [.int .i64 (Int.ofNat a)] 0 Z3) 1 0 3 true)=h2 at x2 r2 ⊢
      have X2:=xx.trans x2
      rw[Bn]
      refine Qe (fun _=>?_) (fun q=>by cases q)
      refine Fa (fun q=>by cases q) (fun _=>?_)
      refine Cp rfl ?_
      refine Fa (fun _=>?_) (fun q=>by cases q)
      refine vt0 X2 (cl3 (by decide) cf X2 ?_)
      rw[Bj]
      refine vt0 X2 (cl3 (by decide) ct X2 ?_)
      rw[Bj]
      rw[Ae]
      refine(R X2).ld1 (j:=0) (by show 0<5;decide) ?_
      refine x.el hlt fun q o ha'=>?_
      rw[Ae]
      refine(ha' _ X2).ld1 (j:=1) (by show 1<8;decide) ?_
      have cx':∀{K:AV→Prop},K (S ((s.drop T[a].1).take (mL (Au s) T[a].1)))→K ((Qi nmA (Au s) T[a]).cs[1]'(by show 1<8;decide)):=fun hK=>by rw[cx];exact hK
      refine cx' (K:=fun v=>asS v _) ?_
      rw[Eg]
      refine c9 (by have:=x.hs;omega) fun h3 x3=>?_
      have X3:=X2.trans x3
      rw[Eg]
      refine(R X3).ld1 (j:=0) (by show 0<5;decide) ?_
      refine Gm (x.tk.1.sl.elim (fun e=>.inr (.inr (.inr (.inl e)))) fun e=>.inr (.inr (.inr (.inr (.inl e))))) ?_
      refine(ha' _ X3).ld1 (j:=1) (by show 1<8;decide) ?_
      refine cx' (K:=fun v=>asS v _) ?_
      rw[Eg]
      refine Gm (.inl ⟨_,_,rfl⟩) ?_
      rw[x.back hlt,Azj]
      refine Cp rfl ?_
      exact nxt a n h3 ha hlo (by omega) X3
    · rw[if_neg fun q=>c q.1.2] at hw
      rw[decide_eq_false c]
      refine Fa (fun q=>by cases q) (fun _=>?_)
      refine Qe (fun _=>?_) (fun q=>by cases q)
      refine Fa (fun _=>?_) (fun q=>by cases q)
      rw[hw.len]
      refine Cp rfl ?_
      refine Fa (fun q=>by cases q) (fun _=>?_)
      refine Cp rfl ?_
      exact nxt a n h ha hlo (by omega) xx
theorem Bjj (aw : ∀ (h : H) (k : KV), k (.bool true) h → W1 (.func 4) [] h k) (x : Txt hB p4 vt vd vf va s T) (hk : ∀ h, k (.bool true) h) :
    ∀ (e i a n : Nat) {h : H}, s.length - i = e → i ≤ s.length → a ≤ T.length → (∀ j (hj : j < T.length), j < a → tEd s T[j].1 ≤ i) → 3 * e + (T.length - a) + 3 < n → Exh hB h → (r3 W1 k n).a2 s.length (enc s) (.ptr p4 0) (Int.ofNat a) (Int.ofNat i) h
  | 0, i, a, n, h, he, hi, ha, hlo, hn, xx => by
    obtain ⟨n, rfl⟩ : ∃ m, n = m + 1 := ⟨n - 1, by omega⟩
    refine Be4 ?_
    unfold Atg
    rw [ilt, decide_eq_false (show ¬ i < s.length by omega)]
    refine Cp rfl ?_
    rw [Ae]
    refine (x.row.ext xx x.n4).ld1 (j := 4) (by show 4 < 5; decide) ?_
    show asB (.bool false) _
    rw [Bn]
    refine Fa (fun _ => ?_) (fun q => by cases q)
    refine aw _ _ ?_
    rw [Bn]
    exact hk _
  | e + 1, i, a, n, h, he, hi, ha, hlo, hn, xx => by
    obtain ⟨n, rfl⟩ : ∃ m, n = m + 1 := ⟨n - 1, by omega⟩
    have hi' : i < s.length := by omega
    have hs := x.hs
    refine Be4 ?_
    unfold Atg
    rw [ilt, decide_eq_true hi']
    refine Dp rfl ?_
    refine (x.row.ext xx x.n4).ldn (o := 0) (ds := [vt, vd, vf, va, .bool false]) rfl rfl (by simp) ?_
    refine Bw (by omega) ?_
    rw [A3q, Ad]
    have sp : (.agg [.str 3 6499937, .int .i64 (Int.ofNat i), .int .i64 (Int.ofNat (i + 1))] : AV) = .agg [S nmA, .int .i64 (Int.ofNat i), .int .i64 (Int.ofNat (i + 1))] := by rw [sA]
    rw [sp]
    refine c7 (x.tk.ext xx) ⟨by rw [List.length_map]; exact x.len, fun y hy => ?_⟩ fun v' h' x' hw => ?_
    · obtain ⟨z, _, e⟩ := List.mem_map.1 hy
      rw [← e]; exact Nat.zero_le _
    rw [List.length_map] at hw
    refine Boq (B := 3 * e + 3) x hi' hk (fun a' n' h2 ha' hlo' hn' xx' => ?_) (T.length - a) a n rfl ha hlo (by omega) (xx.trans x') hw
    obtain ⟨n', rfl⟩ : ∃ m, n' = m + 1 := ⟨n' - 1, by omega⟩
    refine Bm3 ?_
    unfold Az1
    exact Bw (by omega) (Bjj aw x hk e (i + 1) a' n' (by omega) hi' ha' (fun j hj hja => by have := hlo' j hj hja; omega) (by omega) xx')
theorem Bjk (aw : ∀ (h : H) (k : KV), k (.bool true) h → W1 (.func 4) [] h k) (hk : ∀ h, k (.bool true) h) (hs : s.length ≤ 800) {h : H} {n0 : Nat} (hend : Pl5 s → (r3 W1 k (0 + n0)).a1 s.length (enc s) (Int.ofNat s.length) h) :
    ∀ (m i : Nat), s.length - i = m → i ≤ s.length → Pl5 (s.take i) → (r3 W1 k (m + n0)).a1 s.length (enc s) (Int.ofNat i) h
  | 0, i, hm, hi, hp => by
    have e : i = s.length := by omega
    subst e
    rw [List.take_length] at hp
    exact hend hp
  | m + 1, i, hm, hi, hp => by
    have hi' : i < s.length := by omega
    rw [show m + 1 + n0 = (m + n0) + 1 by omega]
    refine Be5 ?_
    unfold Ath
    rw [ilt, decide_eq_true hi']
    refine Dp rfl ?_
    refine Dg (Fz hi' ?_)
    rw [Ww _ 35 (by decide)]
    refine Aae (b := decide (s[i] = UInt8.ofNat 37)) (fun k' hk' => Dg (Fz hi' (by rw [Ww _ 37 (by decide)]; exact hk'))) ?_
    refine Aae (b := decide (s[i] = UInt8.ofNat 63)) (fun k' hk' => Dg (Fz hi' (by rw [Ww _ 63 (by decide)]; exact hk'))) ?_
    refine Aae (b := decide (s[i] = UInt8.ofNat 92)) (fun k' hk' => Dg (Fz hi' (by rw [Ww _ 92 (by decide)]; exact hk'))) ?_
    refine Aae (b := decide (s[i] = UInt8.ofNat 95)) (fun k' hk' => Dg (Fz hi' (by rw [Ww _ 95 (by decide)]; exact hk'))) ?_
    refine Br (fun e => ?_) (fun e => ?_)
    · refine aw _ _ ?_
      rw [Bn]
      exact hk _
    · refine Bw (by omega) (Bjk aw hk hs hend m (i + 1) (by omega) hi' ?_)
      have et : s.take (i + 1) = s.take i ++ [s[i]] := by rw [List.take_add_one, List.getElem?_eq_getElem hi']; rfl
      rw [et]
      intro y hy
      rcases List.mem_append.1 hy with q | q
      · exact hp y q
      · have q : y = s[i] := by simpa using q
        rw [q]
        simp only [Bool.or_eq_false_iff, decide_eq_false_iff_not] at e
        exact ⟨e.1.1.1.1, e.1.1.1.2, e.1.1.2, e.1.2, e.2⟩
theorem c3(aw:∀(h:H)(k:KV),k (.bool true) h→W1 (.func 4) [] h k){h:H}(hk:∀h,k (.bool true) h):W1 (.func 3) [S s] h k:=by
 refine w3 (n:=s.length+(3*s.length+1010)+1) Bg (g3 ?_)
 unfold Az2
 rw[ilt]
 refine Br (fun _=>?_) (fun e=>?_)
 · refine aw _ _ ?_
   rw[Bn]
   exact hk _
 have hs:s.length≤800:=by have:=of_decide_eq_false e;omega
 refine Bjk aw hk hs (n0:=3*s.length+1010) (fun pl=>?_) s.length 0 (by omega) (Nat.zero_le _) (fun y hy=>by rw[List.take_zero] at hy;cases hy)
 rw[show 0+(3*s.length+1010)=(3*s.length+1009)+1 by omega]
 refine Be5 ?_
 unfold Ath
 rw[ilt,decide_eq_false (Nat.lt_irrefl _)]
 refine Cp rfl ?_
 rw[Bfy,Ad,Bjs,Ad]
 have r1:Rd 2 (h.new (.row (Aj [.str 3 6499937,.str s.length (enc s)] 0 ZFi) 2 0 28 true)) (.slice h.next 0 1 2 true) [[.str 3 6499937,.str s.length (enc s)]]:=Ao9 rfl
 generalize h.new (.row (Aj [.str 3 6499937,.str s.length (enc s)] 0 ZFi) 2 0 28 true)=h1 at r1 ⊢
 rw[sA] at r1
 refine c5 (l:=[(nmA,s)]) (.inr r1) (by show 1≤12;decide) (fun f hf=>by
  have:f=(nmA,s):=by simpa using hf
  rw[this]
  exact⟨by show nmA.length≤1000;decide,by show s.length≤2048;omega⟩) fun h2 pT pF pV pm fs ls ns efs bo=>?_
 rw[Hu,Ht,Av6,Bn]
 refine Cp rfl ?_
 rw[Bfz,Ad]
 have hln:=Aih s
 rw[sA]
 refine c6 bo.p (by rw[efs];exact A1x s) (by omega) (by decide) (A51 pl (by omega)) (fun j _=>A8q nmA s (by omega) j) (by omega) fun h3 vt vd vf va x3 b3 o1 o2 o3=>?_
 refine newRow (e:=34) (cs:=[.Ai,.Ai,.Ai,.Ai,.bool false]) rfl fun h4 x4 n4 r4=>?_
 refine r4.stn (o:=0) (ds:=[vt,vd,vf,va,.bool false]) (cs':=[vt,vd,vf,va,.bool false]) rfl (by decide) (by simp) rfl fun h5 n5 f5 r5=>?_
 have x5:Exh h3 h5:=x4.Sm (Nat.le_refl _) n5 f5
 obtain⟨T,eT,eP⟩:=Bc9 nmA s
 have lT:=congrArg List.length eP
 have aT:=Ah0 s
 have lA:=aT.len (Nat.zero_le _)
 have lC:=Js s
 rw[List.length_map] at lT
 refine Bjj (hB:=h5) (p4:=h3.next) (vt:=vt) (vd:=vd) (vf:=vf) (va:=va) (T:=T) aw ⟨r5,by rw[n5];omega,⟨?_,?_⟩,by omega,by rw[eP];exact aT,pl,hs⟩ hk s.length 0 0 _ (by omega) (Nat.zero_le _) (Nat.zero_le _) (fun j hj hja=>absurd hja (Nat.not_lt_zero _)) (by omega) .refl
 · rw[Asx,←eT]
   refine SlE.ext ?_ x5
   rcases b3.n.r.slr with⟨a,b⟩|g
   · exact .inl ⟨b,.inl a⟩
   · exact .inr g
 · intro y hy
   obtain⟨z,_,e⟩:=List.mem_map.1 hy
   rw[←e]
   exact .inl ⟨rfl,.inl rfl⟩
end
end Go.Den
