/-
 Proof.
-/
import Derived.Test.YtheajahjkmfeaaaGreatDoorVal
noncomputable section
namespace Go.Den
open Go.RowKit
set_option maxRecDepth 100000
theorem P.zero{l:P}(h:l.nat=0):l=.z:=by
 cases l with
 |z=>rfl
 |l p=>have:2*p.nat+1=0:=h;omega
 |r p=>have:2*p.nat+2=0:=h;omega
theorem Ym:∀(n:Nat)(l:P),l.nat+1<2^(n+1)→pFs n l.nat=l
 |0,l,h=>by rw[P.zero (l:=l) (by omega)];rfl
 |n+1,l,h=>by
  have e:∀m,pFs (n+1) m=Bool.rec (Bool.rec (P.r (pFs n (Nat.div (Nat.sub m 2) 2))) (P.l (pFs n (Nat.div (Nat.sub m 1) 2))) (Nat.beq (Nat.mod m 2) 1)) P.z (Nat.beq m 0):=fun _=>rfl
  rw[e]
  have hp:2^(n+1+1)=2*2^(n+1):=by rw[Nat.pow_succ];omega
  cases l with
  |z=>rfl
  |l p=>
   have h1:(P.l p).nat=2*p.nat+1:=rfl
   rw[h1] at h ⊢
   rw[show Nat.beq (2*p.nat+1) 0=false from rfl,show Nat.beq (Nat.mod (2*p.nat+1) 2) 1=true by
    rw[show Nat.mod (2*p.nat+1) 2=1 by show(2*p.nat+1)%2=1;omega];rfl]
   have:Nat.div (Nat.sub (2*p.nat+1) 1) 2=p.nat:=by show(2*p.nat+1-1) / 2=_;omega
   rw[this,Ym n p (by omega)]
  |r p=>
   have h1:(P.r p).nat=2*p.nat+2:=rfl
   rw[h1] at h ⊢
   rw[show Nat.beq (2*p.nat+2) 0=false from rfl,show Nat.beq (Nat.mod (2*p.nat+2) 2) 1=false by
    rw[show Nat.mod (2*p.nat+2) 2=0 by show(2*p.nat+2)%2=0;omega];rfl]
   have:Nat.div (Nat.sub (2*p.nat+2) 2) 2=p.nat:=by show(2*p.nat+2-2) / 2=_;omega
   rw[this,Ym n p (by omega)]
abbrev fAv(F:FT)(x y:Nat):FT:=Du (Ao F 9 (.str x y)) (some 3) (.str x y)
theorem Azb{c:CF}{F:FT}{x y:Nat}{h:H}{K:KX'}:Lq env c Ct.pls [] noJ Ct.assign .root (Uh Ct.params [.str x y] F) h K=K .normal (fAv F x y) h:=by kernel_rfl
theorem Bcr{c:CF}{F:FT}{x y:Nat}{h:H}{l:P}{k:KV}{p:AV}:Lq env c Ct.pls [] noJ Ct.body .root (fAv (Ao F 2 p) x y) h (Ach l k)=
 c (.func 48) [.str x y] h fun v h1=>asB v fun b=>cnd (Ci b) (st1 p (.bool false) h1 fun h2=>Ach l k .ret F h2) (Ach l k .normal F h1):=by kernel_rfl
theorem Bmd:Aah PP env G Ct=true:=by kernel_rfl
theorem vyl(x y:Nat):Nat.beq (len [AV.str x y]) (len Ct.params)=true:=by kernel_rfl
theorem Al8{h:H}{l p1:P}{F:FT}{t:Tm}{s:List UInt8}{k:KV}(ha:h.at l=.loop F Ct .ready .normal)(hF:F 2=.ptr p1 0)(hp:h.at p1=.row t 1 0 4 true)(ne:l≠p1)(hs:s.length≤1000000)
 (hk1:Ip s=true→∀h',h'.next=h.next→(∀c,c≠l→h'.at c=h.at c)→h'.at l=.loop F Ct .ready .normal→k (.bool true) h')
 (hk2:Ip s=false→∀h',h'.next=h.next→(∀c,c≠l→c≠p1→h'.at c=h.at c)→h'.at l=.loop F Ct .done .ret→(∃t',h'.at p1=.row t' 1 0 4 true∧Aw t' 0=.bool false)→k (.bool false) h'):W1 (.yield l.nat) [S s] h k:=by
 refine Ty mixed Dn Bg ?_
 unfold Tc
 rw[Ym l.nat l Nat.lt_two_pow_self,Nat.beq_refl]
 show Zi env W1 (Aah PP env G) l [.str s.length (enc s)] h k
 unfold Zi
 rw[ha]
 show Bool.rec As (Lq env W1 Ct.pls [] noJ Ct.assign .root (Uh Ct.params [.str s.length (enc s)] F) h (Auw env W1 l Ct k)) (An (Aah PP env G Ct) (Nat.beq (len [AV.str s.length (enc s)]) (len Ct.params)))
 rw[Bmd,vyl]
 show Lq env W1 Ct.pls [] noJ Ct.assign .root (Uh Ct.params [.str s.length (enc s)] F) h (Auw env W1 l Ct k)
 rw[Azb]
 show Xi (h.at l) (fun f' s' st pd=>Bool.rec As (h.Kl l (.loop f' s' .busy pd) (fun h=>Lq env W1 Ct.pls [] noJ Ct.body .root (fAv F s.length (enc s)) h (Ach l k))) (isReady st))
 rw[ha]
 show h.Kl l (.loop F Ct .busy .normal) (fun h=>Lq env W1 Ct.pls [] noJ Ct.body .root (fAv F s.length (enc s)) h (Ach l k))
 rw[Gw,←Li hF,Bcr]
 rw[Li hF]
 have hp1:(h.put l (.loop F Ct .busy .normal)).at p1=.row t 1 0 4 true:=by rw[Az ne.symm];exact hp
 refine c48 hs ?_
 rw[Bn,Gv]
 refine Br (fun e=>?_) (fun e=>?_)
 · have e:Ip s=false:=by cases w:Ip s with
    |true=>rw[w] at e;cases e
    |false=>rfl
   refine Iw hp1 (Nat.le_refl _) (by decide) rfl ?_
   generalize e2:(h.put l (.loop F Ct .busy .normal)).put p1 (.row (Aj [.bool false] 0 t) 1 0 4 true)=h2
   have hl2:h2.at l=.loop F Ct .busy .normal:=by rw[←e2,Az ne];exact Ba _ _ _
   show Xi (h2.at l) _
   rw[hl2]
   show Hp.Kl h2 l (.loop F Ct .done .ret) (fun h=>k (.bool false) h)
   rw[Gw]
   refine hk2 e _ (by rw[Dq,←e2,Dq,Dq]) (fun c hc hc'=>by rw[Az hc,←e2,Az hc',Az hc]) (Ba _ _ _) ⟨_,by rw[Az ne.symm,←e2];exact Ba _ _ _,by rw[Ah];simp⟩
 · have e:Ip s=true:=by cases w:Ip s with
    |true=>rfl
    |false=>rw[w] at e;cases e
   generalize e2:h.put l (.loop F Ct .busy .normal)=h2
   have hl2:h2.at l=.loop F Ct .busy .normal:=by rw[←e2];exact Ba _ _ _
   show Xi (h2.at l) _
   rw[hl2]
   show Hp.Kl h2 l (.loop F Ct .ready .normal) (fun h=>k (.bool true) h)
   rw[Gw]
   exact hk1 e _ (by rw[Dq,←e2,Dq]) (fun c hc=>by rw[Az hc,←e2,Az hc]) (Ba _ _ _)
theorem Ac6:∀{r acc:List UInt8},47∉r→Hg acc r=[acc++r]
 |[],acc,_=>by rw[Hg,List.append_nil]
 |c::r,acc,h=>by
  rw[Hg,if_neg fun e=>h (by simp[e]),Ac6 fun e=>h (List.mem_cons_of_mem _ e),List.append_assoc];rfl
theorem Ac7:∀{r acc:List UInt8}{i:Nat}(hi:i<r.length),r[i]=47→(∀j (hj:j<i),r[j]≠47)→Hg acc r=(acc++r.take i)::parts (r.drop (i+1))
 |c::r,acc,0,_,e,_=>by
  have e:c=47:=e
  rw[Hg,if_pos e,List.take_zero,List.append_nil];rfl
 |c::r,acc,i+1,hi,e,hn=>by
  have h0:c≠47:=hn 0 (Nat.succ_pos _)
  rw[Hg,if_neg h0,Ac7 (r:=r) (i:=i) (Nat.lt_of_succ_lt_succ hi) e (fun j hj=>hn (j+1) (Nat.succ_lt_succ hj)),List.append_assoc];rfl
theorem A0c{L:List UInt8}{x:UInt8}(h:x∈L):∃i,∃hi:i<L.length,Uo L x=Int.ofNat i∧L[i]=x∧∀j (hj:j<i),L[j]≠x:=by
 unfold Uo
 rw[Oy (by have:=x.toNat_lt;omega)]
 have ex:x.toNat.toUInt8=x:=by rw[Nat.toUInt8,UInt8.ofNat_toNat]
 rw[ex]
 cases e:L.findIdx? (·==x) with
 |none=>
  rw[List.findIdx?_eq_none_iff] at e
  have:=e x h;simp at this
 |some j=>
  obtain⟨hlt,he,hn⟩:=List.findIdx?_eq_some_iff_getElem.1 e
  refine⟨j,hlt,?_,beq_iff_eq.1 he,fun i hi q=>?_⟩
  · show((0+j:Nat):Int)=_
    rw[Nat.zero_add];rfl
  · have:=hn i hi
    rw[q] at this;simp at this
theorem c99{s:List UInt8}{h:H}{k:KV}(hk:k (.int .i64 (Uo s 47)) h):W1 (.func 99) [S s,.str 1 47] h k:=by
 refine w99 (n:=1) Bg (g99 ?_)
 unfold Amg
 refine Bcg (n:=1) Bg (Bnr ?_)
 unfold Aey
 refine Aae (b:=decide ([47]=s)) (fun k' hk'=>by rw[show Dv 1 47 s.length (enc s)=decide ([47]=s) from Fj (s:=[47])];exact hk') ?_
 rw[show Bx (Int.ofNat 1) (Int.ofNat 0)=false from rfl,Bool.false_or]
 refine Br (fun e=>?_) (fun _=>?_)
 · have e:[47]=s:=of_decide_eq_true e
   subst e
   show asI .i64 (.int .i64 (Int.ofNat 0)) _
   rw[Bj]
   exact hk
 · refine Dp rfl ?_
   refine Fz (s:=[47]) (i:=0) (by decide) ?_
   refine Lj (Bjn s 47) ?_
   rw[Bj]
   show asI .i64 (.int .i64 (Uo s 47)) _
   rw[Bj]
   exact hk
end Go.Den
namespace Go.Den
open Go.RowKit
set_option maxRecDepth 100000
structure SpA(h:H)(l p1 sP eP vP:P)(F:FT)(cur:List UInt8):Prop where
 lp:h.at l=.loop F Ct .ready .normal
 fF:F 2=.ptr p1 0
 pr:∃t,h.at p1=.row t 1 0 4 true
 eR:AtP h eP 0 [S [47]]
 vR:AtP h vP 0 [.int .i64 (.ofNat 0)]
 sR:∃t,h.at sP=.row t 1 0 9 true∧Aw t 0=S cur
 n1:l≠p1
 n2:sP≠l∧sP≠p1
 n3:eP≠l∧eP≠p1∧eP≠sP
 n4:vP≠l∧vP≠p1∧vP≠sP
theorem A3x {l p1 sP eP vP : P} {F : FT} {k : KV} : ∀ (n : Nat) {h : H} {cur : List UInt8}, cur.length < n → cur.length ≤ 1000000 → SpA h l p1 sP eP vP F cur →
    ((parts cur).all Ip = true → ∀ w h', h'.next = h.next → (∀ c, c ≠ l → c ≠ p1 → c ≠ sP → h'.at c = h.at c) → h'.at l = .loop F Ct .ready .normal → (∃ t, h'.at p1 = .row t 1 0 4 true) → k w h') →
    ((parts cur).all Ip = false → ∀ w h', h'.next = h.next → (∀ c, c ≠ l → c ≠ p1 → c ≠ sP → h'.at c = h.at c) → h'.at l = .loop F Ct .done .ret → (∃ t, h'.at p1 = .row t 1 0 4 true ∧ Aw t 0 = .bool false) → k w h') →
    (r97 W1 k n).a2 (.func (.yield l.nat) [] []) (.ptr eP 0) (.ptr sP 0) (.ptr vP 0) h
  | 0, _, _, hn, _, _, _, _ => absurd hn (Nat.not_lt_zero _)
  | n + 1, h, cur, hn, hl, a, hT, hF => by
    obtain ⟨t, hp⟩ := a.pr
    obtain ⟨ts, hs, ht⟩ := a.sR
    refine Bem ?_
    unfold Amh
    refine Eh hs (by decide) ?_
    rw [ht, Eg]
    refine a.eR.ld1 (j := 0) (by show 0 < 1; decide) ?_
    show asS (S [47]) _
    rw [Eg]
    show W1 (.func 99) [S cur, .str 1 47] h _
    refine c99 ?_
    rw [Bj, Jv]
    by_cases hm : 47 ∈ cur
    · obtain ⟨i, hi, ei, e47, hne⟩ := A0c hm
      rw [ei]
      refine Cp (decide_eq_false (by show ¬ ((i : Nat) : Int) < ((0 : Nat) : Int); omega)) ?_
      have hpt : parts cur = cur.take i :: parts (cur.drop (i + 1)) := by
        have := Ac7 (acc := []) hi e47 hne
        rw [List.nil_append] at this; exact this
      rw [hpt, List.all_cons] at hT hF
      refine Eh hs (by decide) ?_
      rw [ht, Eg]
      refine a.vR.ld1 (j := 0) (by show 0 < 1; decide) ?_
      show asI .i64 (.int .i64 (.ofNat 0)) _
      rw [Bj]
      refine Bw (by omega) (Gu (Alb (by omega) ?_))
      show W1 (.yield l.nat) [S (cur.take (i + 0))] h _
      rw [Nat.add_zero]
      refine Al8 a.lp a.fF hp a.n1 (by rw [List.length_take]; omega) (fun w h1 x1 f1 l1 => ?_) (fun w h1 x1 f1 l1 p1' => ?_)
      · rw [Bn]
        refine Cp rfl ?_
        rw [w, Bool.true_and] at hT hF
        have hs1 : h1.at sP = .row ts 1 0 9 true := by rw [f1 sP a.n2.1]; exact hs
        refine Eh hs1 (by decide) ?_
        rw [ht, Eg]
        refine (a.eR.frame (f1 eP a.n3.1)).ld1 (j := 0) (by show 0 < 1; decide) ?_
        show asS (S [47]) _
        rw [Eg]
        refine Bw (by show i + 1 ≤ _; omega) (Gu (Alc (by show i + 1 ≤ _; omega) ?_))
        show st1 (.ptr sP 0) (S (cur.drop (i + 1))) h1 _
        refine Iw hs1 (Nat.le_refl _) (by decide) rfl ?_
        have q1 : ∀ c, c ≠ sP → (h1.put sP (.row (Aj [S (cur.drop (i + 1))] 0 ts) 1 0 9 true)).at c = h1.at c := fun c hc => Az hc
        refine A3x n (by rw [List.length_drop]; omega) (by rw [List.length_drop]; omega)
          { lp := (by rw [q1 l a.n2.1.symm]; exact l1), fF := a.fF, pr := (⟨t, by rw [q1 p1 a.n2.2.symm, f1 p1 a.n1.symm]; exact hp⟩), eR := (a.eR.frame (f1 eP a.n3.1)).frame (q1 eP a.n3.2.2), vR := (a.vR.frame (f1 vP a.n4.1)).frame (q1 vP a.n4.2.2), sR := (⟨_, Ba _ _ _, by rw [Ah]; simp⟩), n1 := a.n1, n2 := a.n2, n3 := a.n3, n4 := a.n4 } (fun w2 v h2 x2 g2 l2 p2 => hT w2 v h2 (by rw [x2, Dq, x1]) (fun c c1 c2 c3 => by rw [g2 c c1 c2 c3, q1 c c3, f1 c c1]) l2 p2) (fun w2 v h2 x2 g2 l2 p2 => hF w2 v h2 (by rw [x2, Dq, x1]) (fun c c1 c2 c3 => by rw [g2 c c1 c2 c3, q1 c c3, f1 c c1]) l2 p2)
      · rw [Bn]
        refine Dp rfl ?_
        rw [w, Bool.false_and] at hF
        exact hF rfl _ h1 x1 (fun c c1 c2 _ => f1 c c1 c2) l1 p1'
    · have hneg := (Aab cur 47).2 hm
      refine Dp (decide_eq_true hneg) ?_
      have hpt : parts cur = [cur] := by
        have := Ac6 (acc := []) hm
        rw [List.nil_append] at this; exact this
      rw [hpt] at hT hF
      simp only [List.all_cons, List.all_nil, Bool.and_true] at hT hF
      refine Eh hs (by decide) ?_
      rw [ht, Eg]
      show W1 (.yield l.nat) [S cur] h _
      refine Al8 a.lp a.fF hp a.n1 hl (fun w h1 x1 f1 l1 => ?_) (fun w h1 x1 f1 l1 p1' => ?_)
      · rw [Bn]
        exact hT w _ h1 x1 (fun c c1 _ _ => f1 c c1) l1 ⟨t, by rw [f1 p1 a.n1.symm]; exact hp⟩
      · rw [Bn]
        exact hF w _ h1 x1 (fun c c1 c2 _ => f1 c c1 c2) l1 p1'
end Go.Den
namespace Go.Den
open Go.RowKit
set_option maxRecDepth 100000
theorem Ayc{fn:Fn}{a c:List AV}{K:Fn→List AV→List AV→Prop}:Bbh (.func fn a c) K=K fn a c:=rfl
theorem Bm7:Yv env (.func 97)=true:=by kernel_rfl
theorem c24{s:List UInt8}(hl:s.length≤1000000){h:H}{k:KV}(hk:∀h',Exh h h'→k (.bool (Me s)) h'):W1 (.func 24) [S s] h k:=by
 refine w24 (n:=1) Bg (g24 ?_)
 unfold Aor
 refine Cy ?_
 have a1:(h.new ob4).at h.next=.row (Aj [.bool false] 0 .e) 1 0 4 true:=Bc _ _
 have x1:Exh h (h.new ob4):=.new
 have m1:(h.new ob4).next.nat=h.next.nat+1:=Bf
 generalize h.new ob4=h1 at a1 x1 m1 ⊢
 rw[show Ca (Int.ofNat 80) (Int.ofNat s.length)=decide (80<s.length) from ilt _ _]
 refine Br (fun e=>?_) (fun e=>?_)
 · have e:80<s.length:=of_decide_eq_true e
   have:Me s=false:=by unfold Me;rw[decide_eq_false (by omega)];rfl
   rw[this] at hk
   refine Iw a1 (Nat.le_refl _) (by decide) rfl ?_
   refine Eh (Ba _ _ _) (by decide) ?_
   rw[Ah,if_pos (by simp)]
   exact hk _ ⟨by rw[Dq];exact x1.1,fun c hc=>by rw[Az (fun e'=>by subst e';omega),x1.2 c hc]⟩
 have e:¬80<s.length:=of_decide_eq_false e
 have hv:Me s=(parts s).all Ip:=by unfold Me;rw[decide_eq_true (by omega)];rfl
 rw[hv] at hk
 refine w47 (n:=1) Bg (g47 ?_)
 unfold Anx
 refine w73 (n:=1) Bg (g73 ?_)
 unfold Am2
 refine Cy ?_
 have a2:(h1.new (rowOf 9 [.str s.length (enc s)])).at h1.next=.row (Aj [S s] 0 .e) 1 0 9 true:=Bc _ _
 have x2:Exh h1 (h1.new (rowOf 9 [.str s.length (enc s)])):=.new
 have m2:(h1.new (rowOf 9 [.str s.length (enc s)])).next.nat=h1.next.nat+1:=Bf
 generalize h1.new (rowOf 9 [.str s.length (enc s)])=h2 at a2 x2 m2 ⊢
 refine Cy ?_
 have a3:AtP (h2.new (rowOf 9 [S [47]])) h2.next 0 [S [47]]:=AtP.newRow
 have x3:Exh h2 (h2.new (rowOf 9 [S [47]])):=.new
 have m3:(h2.new (rowOf 9 [S [47]])).next.nat=h2.next.nat+1:=Bf
 show Hp.Cs (h2.new (rowOf 9 [S [47]])) _ _
 generalize h2.new (rowOf 9 [S [47]])=h3 at a3 x3 m3 ⊢
 refine Cy ?_
 have a4:AtP (h3.new (rowOf 3 [.int .i64 (Int.ofNat 0)])) h3.next 0 [.int .i64 (Int.ofNat 0)]:=AtP.newRow
 have x4:Exh h3 (h3.new (rowOf 3 [.int .i64 (Int.ofNat 0)])):=.new
 have m4:(h3.new (rowOf 3 [.int .i64 (Int.ofNat 0)])).next.nat=h3.next.nat+1:=Bf
 generalize h3.new (rowOf 3 [.int .i64 (Int.ofNat 0)])=h4 at a4 x4 m4 ⊢
 show Qq env W1 Ct (.func (.func 97) [] [.ptr h2.next 0,.ptr h1.next 0,.ptr h3.next 0]) (Ao (fun _=>.top) 2 (.ptr h.next 0)) h4 _
 unfold Qq
 rw[Ayc,Bm7]
 show Hp.Cs h4 (.loop (Ao (fun _=>.top) 2 (.ptr h.next 0)) Ct .ready .normal) (fun l h=>W1 (.func 97) [.func (.yield l.nat) [] [],.ptr h2.next 0,.ptr h1.next 0,.ptr h3.next 0] h fun _ h=>Awn l _ h)
 refine Cy ?_
 have a5:(h4.new (.loop (Ao (fun _=>.top) 2 (.ptr h.next 0)) Ct .ready .normal)).at h4.next=.loop (Ao (fun _=>.top) 2 (.ptr h.next 0)) Ct .ready .normal:=Bc _ _
 have x5:Exh h4 (h4.new (.loop (Ao (fun _=>.top) 2 (.ptr h.next 0)) Ct .ready .normal)):=.new
 generalize h4.new (.loop (Ao (fun _=>.top) 2 (.ptr h.next 0)) Ct .ready .normal)=h5 at a5 x5 ⊢
 have x45:Exh h3 h5:=x4.trans x5
 have x35:Exh h2 h5:=x3.trans x45
 have x25:Exh h1 h5:=x2.trans x35
 have x15:Exh h h5:=x1.trans x25
 have pne:∀{a b:P},a.nat≠b.nat→a≠b:=fun q e=>q (by rw[e])
 have eR:AtP h5 h2.next 0 [S [47]]:=a3.ext x45 (by omega)
 refine w97 (n:=s.length+2) Bg (g97 ?_)
 unfold Ami
 refine eR.ld1 (j:=0) (by show 0<1;decide) ?_
 show asS (S [47]) _
 rw[Eg]
 refine Cp rfl ?_
 refine A3x (F:=Ao (fun _=>.top) 2 (.ptr h.next 0)) (p1:=h.next) (s.length+1) (by omega) hl
  { lp:=a5,fF:=rfl,pr:=(⟨_,by rw[x25.2 _ (by omega)];exact a1⟩),eR:=eR,vR:=a4.ext x5 (by omega),sR:=(⟨_,by rw[x35.2 _ (by omega)];exact a2,by rw[Ah];simp⟩),n1:=pne (by omega),n2:=⟨pne (by omega),pne (by omega)⟩,n3:=⟨pne (by omega),pne (by omega),pne (by omega)⟩,n4:=⟨pne (by omega),pne (by omega),pne (by omega)⟩ } (fun w v h6 n6 f6 l6 p6=>?_) (fun w v h6 n6 f6 l6 p6=>?_)
 · rw[w] at hk
   show Xi (h6.at h4.next) _
   rw[l6]
   show Hp.Kl h6 h4.next (.loop (Ao (fun _=>.top) 2 (.ptr h.next 0)) Ct .exhausted .normal) (fun h8=>cnd (Xh .normal .normal) (st1 (.ptr h.next 0) (.bool true) h8 fun h10=>ld1 (.ptr h.next 0) h10 fun v11=>k v11 h10) (cnd (Xh .normal .ret) (ld1 (.ptr h.next 0) h8 fun v9=>k v9 h8) False))
   rw[Gw]
   obtain⟨t6,p6⟩:=p6
   refine Dp rfl ?_
   refine Iw (by rw[Az (pne (by omega))];exact p6) (Nat.le_refl _) (by decide) rfl ?_
   refine Eh (Ba _ _ _) (by decide) ?_
   rw[Ah,if_pos (by simp)]
   refine hk _ ⟨by rw[Dq,Dq,n6];exact x15.1,fun c hc=>?_⟩
   rw[Az (pne (by omega)),Az (pne (by omega)),f6 c (pne (by omega)) (pne (by omega)) (pne (by omega)),x15.2 c hc]
 · rw[w] at hk
   show Xi (h6.at h4.next) _
   rw[l6]
   show Hp.Kl h6 h4.next (.loop (Ao (fun _=>.top) 2 (.ptr h.next 0)) Ct .exhausted .ret) (fun h8=>cnd (Xh .ret .normal) (st1 (.ptr h.next 0) (.bool true) h8 fun h10=>ld1 (.ptr h.next 0) h10 fun v11=>k v11 h10) (cnd (Xh .ret .ret) (ld1 (.ptr h.next 0) h8 fun v9=>k v9 h8) False))
   rw[Gw]
   obtain⟨t6,p6,p7⟩:=p6
   refine Cp rfl (Dp rfl ?_)
   refine Eh (by rw[Az (pne (by omega))];exact p6) (by decide) ?_
   rw[p7]
   refine hk _ ⟨by rw[Dq,n6];exact x15.1,fun c hc=>?_⟩
   rw[Az (pne (by omega)),f6 c (pne (by omega)) (pne (by omega)) (pne (by omega)),x15.2 c hc]
end Go.Den
