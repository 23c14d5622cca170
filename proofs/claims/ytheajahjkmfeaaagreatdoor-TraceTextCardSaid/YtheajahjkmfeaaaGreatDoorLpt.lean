/-
 Proof.
-/
import Derived.Test.YtheajahjkmfeaaaGreatDoorLpq
namespace Go.Den
open Go.RowKit
set_option maxRecDepth 100000
theorem Alx{e:TypeId}{sz lo:Nat}{ei:TI}{h:H}{v x:AV}{L M:List (List AV)}(hb:He e sz lo h v L)(hx:Ck h sz x=some (M.length,M.flatten))(hM:∀c∈M,c.length=sz)(hsz:ei.size=sz)(hf:Bv ei (L.length+M.length)=true)(hlo:lo≤h.next.nat):
 ∃v' h',Co (some false) v x h e ei=some (v',h')∧He e sz lo h' v' (L++M)∧h.next.nat≤h'.next.nat∧∀c,c.nat<h.next.nat→(∀o n z b,v≠.slice c o n z b)→h'.at c=h.at c:=by
 have hl:Fh v=L.length:=by rcases hb with⟨rfl,rfl⟩|⟨_,_,_,_,rfl,_⟩<;>rfl
 have hok:Fe v=true:=by rcases hb with⟨rfl,rfl⟩|⟨_,_,_,_,rfl,_⟩<;>rfl
 have e0:Co (some false) v x h e ei=(Bool.rec (Gy e sz v M.length M.flatten h) (some (v,h)) (Nat.beq M.length 0):Option (AV×H)):=by
  show(Option.rec none (fun p=>Bool.rec none (Bool.rec (Gy e ei.size v p.1 p.2 h) (some (v,h)) (Nat.beq p.1 0)) (An (Fe v) (Bv ei (Nat.add (Fh v) p.1)))) (Ck h ei.size x):Option (AV×H))=_
  rw[hsz,hx]
  show(Bool.rec none (Bool.rec (Gy e sz v M.length M.flatten h) (some (v,h)) (Nat.beq M.length 0)) (An (Fe v) (Bv ei (Nat.add (Fh v) M.length))):Option (AV×H))=_
  rw[hl,hok,show Bv ei (Nat.add L.length M.length)=true from hf];rfl
 rw[e0]
 by_cases hm:M=[]
 · subst hm
   exact⟨v,h,rfl,by rw[List.append_nil];exact hb,Nat.le_refl _,fun _ _ _=>rfl⟩
 have hbq:Nat.beq M.length 0=false:=by
  cases M with
  |nil=>exact absurd rfl hm
  |cons _ _=>rfl
 rw[hbq]
 rcases hb with⟨rfl,rfl⟩|⟨q,t,m,w,rfl,h1,h2,h3,h4,h6⟩
 · refine⟨.slice h.next 0 M.length sz false,h.new (.row (Aj M.flatten 0 .e) (Nat.mul M.length sz) 0 e false),rfl,.inr ⟨h.next,Aj M.flatten 0 .e,Nat.mul M.length sz,false,rfl,hlo,by rw[Bf];omega,Bc _ _,Nat.le_refl _,?_⟩,by rw[Bf];omega,fun c hc _=>Gq hc⟩
   have:=Ld.Ayg (t:=.e) (Ld.nil (sz:=sz) (o:=0)) hM
   rwa [show([]:List (List AV)).length*sz=0 by simp] at this
 · have e1:Gy e sz (.slice q 0 L.length sz false) M.length M.flatten h=(Bool.rec none (Tu e q 0 L.length M.length sz M.flatten h (Em (h.at q))) (Nat.beq sz sz):Option (AV×H)):=rfl
   show∃v' h',Gy e sz (.slice q 0 L.length sz false) M.length M.flatten h=some (v',h')∧_
   rw[e1,Nat.beq_refl,h3]
   show∃v' h',(Bool.rec none (some (.slice h.next 0 (Nat.add L.length M.length) sz false,(h.put q .dead).new (.row (Aj M.flatten (Nat.add 0 (Nat.mul L.length sz)) t) (Nat.add 0 (Nat.mul (Nat.add L.length M.length) sz)) 0 e false)))
    (An (An (Nat.beq e e) (Nat.beq 0 0)) (An (Nat.ble (Nat.add 0 (Nat.mul L.length sz)) m) (Nat.ble 0 (Nat.add 0 (Nat.mul L.length sz))))):Option (AV×H))=some (v',h')∧_
   have a1:Nat.add 0 (Nat.mul L.length sz)=L.length*sz:=Nat.zero_add _
   rw[a1,Nat.beq_refl,Nat.ble_eq_true_of_le h4,Nat.ble_eq_true_of_le (Nat.zero_le _)]
   refine⟨_,_,rfl,.inr ⟨h.next,_,_,false,?_,hlo,?_,Bc (h.put q .dead) _,?_,h6.Ayg hM⟩,?_,fun c hc hne=>?_⟩
   · rw[List.length_append];rfl
   · show h.next.nat<(P.succ h.next).nat
     rw[P.Dx];omega
   · rw[List.length_append]
     show(L.length+M.length)*sz≤0+(L.length+M.length)*sz
     omega
   · show h.next.nat≤(P.succ h.next).nat
     rw[P.Dx];omega
   · have hcq:c≠q:=fun e'=>hne _ _ _ _ (by rw[e'])
     rw[Gq (show c.nat<(h.put q .dead).next.nat from hc),Az hcq]
theorem Bo7{h:H}{c:List AV}{kd:Nat}{tx:List UInt8}(h8:c.length=8)(h0:c[0]'(by omega)=.int .i64 (Int.ofNat kd))(h1:c[1]'(by omega)=S tx)(n1:tx≠[35])(n2:tx≠[37,58]){k:KV}(hk:∀h',Exh h h'→k (.bool false) h'):W1 (.func 102) [.agg c] h k:=by
 refine Bco (n:=1) Bg (Bnz ?_)
 unfold Ae9
 rw[Fu]
 refine Ft (fun e=>by rw[e] at h8;cases h8) ?_
 refine newRow (e:=TTk) (cs:=c) rfl fun h2 x2 m2 r2=>?_
 rw[Ae]
 refine r2.ld1 (j:=0) (by omega) ?_
 rw[h0,Bj]
 refine Fa (fun _=>?_) (fun _=>?_)
 · rw[Ae]
   refine r2.ld1 (j:=1) (by omega) ?_
   have h1':c[0+1]'(by omega)=S tx:=h1
   rw[h1',Eg]
   have e1:Dv tx.length (enc tx) 1 35=false:=by
    have:=Qj (s:=tx) (t:=[35]) n1
    rw[show enc [35]=35 by kernel_rfl] at this
    exact this
   have e2:Dv tx.length (enc tx) 2 14885=false:=by
    have:=Qj (s:=tx) (t:=[37,58]) n2
    rw[show enc [37,58]=14885 by kernel_rfl] at this
    exact this
   rw[e1]
   refine Qe (fun _=>?_) (fun e=>by cases e)
   rw[Ae]
   refine r2.ld1 (j:=1) (by omega) ?_
   rw[h1',Eg,e2]
   exact hk _ x2
 · exact hk _ x2
theorem c79{h:H}{v q:AV}{R:List (List AV)}(hv:SlR 8 h v R)(hR:∀c∈R,Tkp c∧c[1]?≠some (S [35])∧c[1]?≠some (S [37,58])){k:KV}(hk:∀h',Exh h h'→k (.int .i64 (.ofNat 0)) h'):W1 (.func 79) [q,v] h k:=by
 refine w79 (n:=1) Bg (g79 ?_)
 unfold Amx
 rw[hv.len,Wx]
 cases R with
 |nil=>
  refine Qe (fun e=>by cases e) (fun _=>?_)
  exact Dp rfl (hk _ .refl)
 |cons c R=>
  refine Qe (fun _=>?_) (fun e=>by cases e)
  obtain⟨hc,a1,a2⟩:=hR c List.mem_cons_self
  have hi:0<(c::R).length:=by simp
  have l8:=hc.l8
  refine(hv.rd hi).elem hi fun q o _ _ ha=>?_
  refine ha.ldn l8 ?_
  obtain⟨kd,tx,fl,sp,md,a,b',e,_⟩:=hc.ex
  subst e
  refine Bo7 (kd:=kd) (tx:=tx) rfl rfl rfl (fun e=>a1 (by rw[e];rfl)) (fun e=>a2 (by rw[e];rfl)) fun h2 x2=>?_
  rw[Bn]
  exact Dp rfl (hk _ x2)
end Go.Den
noncomputable section
namespace Go.Den
open Go.RowKit
set_option maxRecDepth 100000
abbrev TWr:TypeId:=97
abbrev TFl:TypeId:=152
def wkr(pT:P)(w1 w2 w3 w4 w5:AV)(pt pF:P)(vt vd vs va:AV)(st:Bool)(pS pA:P)(dp:Nat):List AV:=
 [.ptr pT 0,w1,w2,w3,w4,w5,.ptr pt 0,.ptr pF 0,vt,vd,vs,va,.bool st,.map pS,.map pA,.int .i64 (Int.ofNat dp)]
theorem Ayl(x y:AV)(h:H):Ar env .append [31,31] [x,y] h=Co (some false) x y h TDg (Hz TDg):=by kernel_rfl
section
variable{pK pT pt pF pS pA:P}{w1 w2 w3 w4 w5 vt vd vs va:AV}{dp:Nat}
theorem A3y {h0 : H} {vu vo : AV} {p2 : P} {ks : List (List UInt8)} (hu : SlR 1 h0 vu (scs ks)) (hks : ∀ s ∈ ks, s.length ≤ 1000000) (hkl : ks.length ≤ 1000) (au : ∀ q o n z b, vu = .slice q o n z b → ¬ q = pA) (r2 : Cd h0 p2 TOu [vo, .Ai, .bool false, vu]) (n2 : p2.nat < h0.next.nat) (rK : Cd h0 pK TWr (wkr pT w1 w2 w3 w4 w5 pt pF vt vd vs va false pS pA dp)) (nK : pK.nat < h0.next.nat) {L0 : Cn} (m0 : IsC h0 pA L0) {k : KV} {b0 : Nat} (hb0 : b0 ≤ 1000)
    (hk : ∀ h' L', FrX (fun c => c = pA) h0 h' → IsC h' pA L' → Le L' (b0 + ks.length) → k vo h') :
    ∀ (n i : Nat) {h : H} {L : Cn}, ks.length - i < n → i ≤ ks.length → FrX (fun c => c = pA) h0 h → IsC h pA L → Le L (b0 + i) → (r82 W1 k n).a1 (.ptr pK 0) (.ptr p2 0) vu (Int.ofNat ks.length) (Int.ofNat i) h
  | 0, _, _, _, hh, _, _, _, _ => absurd hh (Nat.not_lt_zero _)
  | n + 1, i, h, L, hh, hi, x, m, ok => by
    refine Bes ?_
    unfold Amu
    have eK : pK ≠ pA := fun e => by subst e; exact rK.Hy m0
    have e2 : p2 ≠ pA := fun e => by subst e; exact r2.Hy m0
    rw [ilt]
    refine Br (fun e => ?_) (fun e => ?_)
    · have e : i < ks.length := of_decide_eq_true e
      have e' : i < (scs ks).length := by rw [Fc]; exact e
      refine Dg ?_
      refine ((hu.frx x au).rd e').elem e' fun q o _ _ ha => ?_
      rw [Of e] at ha
      refine ha.ld1 (j := 0) (by show 0 < 1; decide) ?_
      show asS (S ks[i]) _
      rw [Eg, Am, Ad, Ae]
      refine (rK.of (x.2 _ nK eK)).ld1 (j := 14) (by show 14 < 16; decide) ?_
      show oK (Db env 95 (.map pA) (.str ks[i].length (enc ks[i])) false h) _
      have n2' := n2
      refine m.add ok (by omega) fun h2 n2 f2 m2 => ?_
      refine Bw (by omega) (A3y hu hks hkl au r2 n2' rK nK m0 hb0 hk n (i + 1) (by omega) e (x.trans ⟨by rw [n2]; exact Nat.le_refl _, fun c _ hne => f2 c hne⟩) m2 ?_)
      rw [← Nat.add_assoc]
      exact ok.inc (hks _ (List.getElem_mem e))
    · have e : i = ks.length := by have := of_decide_eq_false e; omega
      subst e
      rw [Ae]
      refine (r2.of (x.2 _ n2 e2)).ld1 (j := 0) (by show 0 < 4; decide) ?_
      exact hk h L x m ok
theorem c82{h:H}{vu vo:AV}{ks:List (List UInt8)}{D:List (List AV)}{lo:Nat}(hu:SlR 1 h vu (scs ks))(hks:∀s∈ks,s.length≤1000000)(hkl:ks.length≤1000)(au:∀q o n z b,vu=.slice q o n z b→¬q=pA∧¬q=pK)(hd:Cb TDg 4 lo h vd D)(hD:D.length≤1000000)(rK:Cd h pK TWr (wkr pT w1 w2 w3 w4 w5 pt pF vt vd vs va false pS pA dp))(nK:pK.nat<h.next.nat){L0:Cn}(m0:IsC h pA L0)(nA:pA.nat<h.next.nat){b0:Nat}(hb0:b0≤1000)(ok:Le L0 b0){k:KV}
 (hk:∀h' L',FrX (fun c=>c=pA∨c=pK) h h'→Cd h' pK TWr (wkr pT w1 w2 w3 w4 w5 pt pF vt vd vs va false pS pA dp)→IsC h' pA L'→Le L' (b0+ks.length)→k vo h'):W1 (.func 82) [.ptr pK 0,.agg [vo,.Ai,.bool false,vu]] h k:=by
 have eK:pK≠pA:=fun e=>by subst e;exact rK.Hy m0
 refine w82 (n:=ks.length+2) Bg (g82 ?_)
 unfold Amv
 rw[Fu]
 refine Ft (by simp) ?_
 refine newRow (e:=TOu) (cs:=[vo,.Ai,.bool false,vu]) rfl fun h2 x2 n2 r2=>?_
 have rK2:=rK.ext x2 nK
 have hd2:=hd.ext x2
 rw[Am,Ad,Ae,Ae]
 refine rK2.ld1 (j:=9) (by show 9<16;decide) ?_
 rw[Ae]
 refine r2.ld1 (j:=1) (by show 1<4;decide) ?_
 show oK (Ar env .append [31,31] [vd,.Ai] h2) _
 rw[Ayl,Ajv hd2 rfl (by kernel_rfl) (Lv (by kernel_rfl) (by kernel_rfl) (by omega)),Ad,Am,Ad,Ae,Ae]
 refine rK2.st1 (j:=9) (cs':=wkr pT w1 w2 w3 w4 w5 pt pF vt vd vs va false pS pA dp) (by show 9<16;decide) hd2.one rfl fun h3 n3 f3 rK3=>?_
 have r3:Cd h3 h.next TOu [vo,.Ai,.bool false,vu]:=r2.of (f3 _ fun e=>by rw[←e] at nK;exact Nat.lt_irrefl _ nK)
 rw[Am,Ad,Ae,Ae]
 refine rK3.ld1 (j:=12) (by show 12<16;decide) ?_
 show asB (.bool false) _
 rw[Bn]
 refine Qe (fun _=>?_) (fun e=>by cases e)
 rw[Ae]
 refine r3.ld1 (j:=2) (by show 2<4;decide) ?_
 show asB (.bool false) _
 rw[Bn]
 show oK (Ag (.ptr pK 0) h3) _
 rw[Am,Ad,Ae,Ae]
 refine rK3.st1 (j:=12) (cs':=wkr pT w1 w2 w3 w4 w5 pt pF vt vd vs va false pS pA dp) (by show 12<16;decide) rfl rfl fun h4 n4 f4 rK4=>?_
 have r4:Cd h4 h.next TOu [vo,.Ai,.bool false,vu]:=r3.of (f4 _ fun e=>by rw[←e] at nK;exact Nat.lt_irrefl _ nK)
 have m4:h4.next.nat=h.next.nat+1:=by rw[n4,n3,n2]
 have X4:FrX (fun c=>c=pK) h h4:=⟨by omega,fun c hc hne=>by rw[f4 c hne,f3 c hne,x2.2 c hc]⟩
 rw[Ae]
 refine r4.ld1 (j:=3) (by show 3<4;decide) ?_
 show Cz vu _
 rw[hu.len,Fc]
 have mA:IsC h4 pA L0:=by unfold IsC;rw[X4.2 _ nA eK.symm];exact m0
 refine A3y (hu.frx X4 fun q o n z b e=>(au q o n z b e).2) hks hkl (fun q o n z b e=>(au q o n z b e).1) r4 (by omega) rK4 (by omega) mA hb0 (fun h5 L' f5 m5 ok5=>hk h5 L' ⟨Nat.le_trans X4.1 f5.1,fun c hc hne=>?_⟩ (rK4.of (f5.2 _ (by omega) eK)) m5 ok5) _ 0 (by omega) (Nat.zero_le _) .refl mA ok
 rw[f5.2 c (by omega) fun e=>hne (.inl e),X4.2 c hc fun e=>hne (.inr e)]
end
end Go.Den
noncomputable section
namespace Go.Den
open Go.RowKit
set_option maxRecDepth 100000
def flr(pK:P)(nm:List UInt8)(vs:AV):List AV:=
 [.ptr pK 0,S nm,S nm,vs,.int .i64 (.ofNat 0),.Ai,.Ai,.int .i64 (.ofNat 0),.int .i64 (.ofNat 0),.bool false,.str 0 0,.int .i64 (.ofNat 0),.int .i64 (.ofNat 0),.Ai]
theorem c81{h:H}{pX pK:P}{nm:List UInt8}{vs:AV}(r:Cd h pX TFl (flr pK nm vs)){k:KV}(hk:k (.bool false) h):W1 (.func 81) [.ptr pX 0] h k:=by
 refine w81 (n:=1) Bg (g81 ?_)
 unfold Amw
 rw[Am,Ad,Ae]
 refine r.ld1 (j:=5) (by show 5<14;decide) ?_
 show Cz .Ai _
 rw[Lh]
 refine Fa (fun e=>by cases e) (fun _=>?_)
 exact hk
end Go.Den
