/-
 Proof.
-/
import Derived.Test.YtheajahjkmfeaaaGreatDoorLpt
noncomputable section
namespace Go.Den
open Go.RowKit
set_option maxRecDepth 100000
def spc:List (List AV)→List (List AV)
 |[]=>[]
 |y::r=>y.set 2 (.bool true)::r
def En(acc:List (List AV)):Bool→List (List (List AV))→List (List AV)
 |_,[]=>acc
 |f,X::r=>En (acc++(if f=true then X else spc X)) false r
theorem Tkp.s2{c:List AV}(hc:Tkp c):Tkp (c.set 2 (.bool true)):=by
 obtain⟨kd,tx,fl,sp,md,a,b,e,h1,h2,h3⟩:=hc.ex
 subst e
 exact⟨kd,tx,fl,true,md,a,b,rfl,h1,h2,h3⟩
theorem Azo(X:List (List AV)):(spc X).length=X.length:=by cases X<;>rfl
theorem Azn{X:List (List AV)}(h:∀c∈X,Tkp c):∀c∈spc X,Tkp c:=by
 cases X with
 |nil=>exact h
 |cons y r=>
  intro c hc
  rcases List.mem_cons.1 hc with e|e
  · rw[e];exact(h y List.mem_cons_self).s2
  · exact h c (List.mem_cons_of_mem _ e)
theorem Azs{acc X:List (List AV)}(hX:0<X.length)(hi:acc.length<(acc++X).length):(acc++X).set acc.length ((acc++X)[acc.length].set 2 (.bool true))=acc++spc X:=by
 cases X with
 |nil=>exact absurd hX (by decide)
 |cons y r=>
  rw[List.getElem_append_right (Nat.le_refl _),List.set_append_right _ _ (Nat.le_refl _)]
  simp[spc]
theorem Apw(X:List (List AV)):∀(l:List (List (List AV)))(acc:List (List AV)),En acc false (l++[X])=En acc false l++spc X
 |[],acc=>by simp[En]
 |Y::l,acc=>by
  show En (acc++(if false=true then Y else spc Y)) false (l++[X])=En (acc++(if false=true then Y else spc Y)) false l++spc X
  exact Apw X l _
theorem Akr(X:List (List AV)):∀(l:List (List (List AV))),En [] true (l++[X])=En [] true l++(if l=[] then X else spc X)
 |[]=>by simp[En]
 |Y::l=>by
  rw[if_neg (by simp)]
  show En ([]++(if true=true then Y else spc Y)) false (l++[X])=En ([]++(if true=true then Y else spc Y)) false l++spc X
  exact Apw X l _
def LnS(hS:H)(Lc:List (List AV))(XS:List (List (List AV))):Prop:=Lc.length=XS.length∧∀i (h1:i<Lc.length) (h2:i<XS.length),∃vt a b c,Lc[i]=[vt,a,b,c]∧SlR 8 hS vt XS[i]
def TxX(XS:List (List (List AV))):Prop:=∀X∈XS,∀c∈X,Tkp c∧c[1]?≠some (S [35])∧c[1]?≠some (S [37,58])
theorem A31 {hS : H} {pX p4 : P} {vl : AV} {Lc : List (List AV)} {XS : List (List (List AV))} (hl : SlR 4 hS vl Lc) (ls : LnS hS Lc XS) (ok : TxX XS) (hx : XS.length ≤ 1000000) {k : KV} {n0 : Nat} (hsz : ∀ j, j ≤ XS.length → (En [] true (XS.take j)).length ≤ 1000000)
    (hk : ∀ h' v', Exh hS h' → He TTk 8 hS.next.nat h' v' (En [] true XS) → (r57 W1 k (0 + n0)).a2 (.ptr pX 0) vl (.ptr p4 0) (Int.ofNat XS.length) v' (Int.ofNat 0) h') :
    ∀ (m i : Nat) {h : H} {v : AV}, XS.length - i = m → i ≤ XS.length → Exh hS h → He TTk 8 hS.next.nat h v (En [] true (XS.take i)) → (r57 W1 k (2 * m + n0)).a2 (.ptr pX 0) vl (.ptr p4 0) (Int.ofNat i) v (Int.ofNat 0) h
  | 0, i, h, v, hm, hi, x, b => by
    have e : i = XS.length := by omega
    subst e
    rw [List.take_length] at b
    exact hk h v x b
  | m + 1, i, h, v, hm, hi, x, b => by
    have hi' : i < XS.length := by omega
    have hil : i < Lc.length := by rw [ls.1]; exact hi'
    obtain ⟨vt, a1, a2, a3, el, hvt⟩ := ls.2 i hil hi'
    have okX := ok _ (List.getElem_mem hi')
    rw [show 2 * (m + 1) + n0 = (2 * m + n0 + 1) + 1 by omega]
    refine A3e ?_
    unfold Ahm
    have tk : ∀ {h' : H} {K : AV → Prop}, Exh hS h' → K vt → Ce (Int.ofNat i) fun m37 => Cc 4 m37 vl fun v38 => Ac 0 v38 fun v39 => ld1 v39 h' K := fun {h' K} x' hK => Dg (by
      refine ((hl.ext x').rd hil).elem hil fun q o _ _ ha => ?_
      rw [el] at ha
      refine ha.ld1 (j := 0) (by show 0 < 4; decide) hK)
    rw [(hl.ext x).len, ls.1, ilt, decide_eq_true hi']
    refine Fa (fun _ => ?_) (fun e => by cases e)
    refine tk x ?_
    refine c79 (hvt.ext x) okX fun h2 x2 => ?_
    have X2 := x.trans x2
    have b2 := b.ext x2
    rw [Bj]
    refine Dp rfl ?_
    rw [b2.n.len]
    refine tk X2 ?_
    rw [Aq3]
    have hs1 := hsz i hi
    have hs2 := hsz (i + 1) hi'
    have et : XS.take (i + 1) = XS.take i ++ [XS[i]] := by rw [List.take_add_one, List.getElem?_eq_getElem hi']; rfl
    have ej := Akr XS[i] (XS.take i)
    rw [← et] at ej
    have ln : (En [] true (XS.take i)).length + XS[i].length ≤ 1000000 := by
      rw [ej, List.length_append] at hs2
      have : (if XS.take i = [] then XS[i] else spc XS[i]).length = XS[i].length := by
        split
        · rfl
        · exact Azo _
      omega
    have h8 : ∀ c ∈ XS[i], c.length = 8 := fun c hc => (okX c hc).1.l8
    obtain ⟨v3, h3, e3, b3, m3, f3⟩ := Alx b2 (Jt (hvt.ext X2)) h8 Azh (Af3 (by omega)) X2.1
    rw [e3, Ad]
    have X3 : Exh hS h3 := ⟨Nat.le_trans X2.1 m3, fun c hc => by
      rw [f3 c (Nat.lt_of_lt_of_le hc X2.1) fun o n z b' ev => ?_, X2.2 c hc]
      rcases b2 with ⟨e', _⟩ | ⟨q', t', m', w', e', hq, _⟩
      · rw [e'] at ev; cases ev
      · rw [e'] at ev; cases ev; omega⟩
    rw [ilt]
    refine Mc (b := decide ((En [] true (XS.take i)).length < (En [] true (XS.take i) ++ XS[i]).length)) (fun k' hk' => by rw [b3.n.len, ilt]; exact hk') ?_
    have next : ∀ {v' : AV} {h' : H}, Exh hS h' → He TTk 8 hS.next.nat h' v' (En [] true (XS.take (i + 1))) → (r57 W1 k (2 * m + n0 + 1)).a3 (.ptr pX 0) vl (.ptr p4 0) (Int.ofNat i) v' (Int.ofNat 0) h' := fun x' b' => by
      refine Bev ?_
      unfold Anh
      exact Bw (by omega) (A31 hl ls ok hx hsz hk m (i + 1) (by omega) hi' x' b')
    refine Br (fun e => ?_) (fun e => ?_)
    · simp only [Bool.and_eq_true, decide_eq_true_eq] at e
      refine b3.set (i := (En [] true (XS.take i)).length) (j := 2) e.2 (by decide) rfl fun h4 b4 k4 n4 => ?_
      refine next (k4.exh X3 (Nat.le_refl _)) ?_
      have hX : 0 < XS[i].length := by have := e.2; rw [List.length_append] at this; omega
      rw [ej, if_neg (fun q => by have := congrArg List.length q; rw [List.length_take, List.length_nil] at this; omega)]
      rw [Azs hX e.2] at b4
      exact b4
    · refine next X3 ?_
      rw [ej]
      by_cases h0 : i = 0
      · subst h0
        rw [List.take_zero, if_pos rfl]
        rw [List.take_zero] at b3
        exact b3
      · have hX : XS[i] = [] := by
          rw [Bool.and_eq_false_iff] at e
          rcases e with e | e
          · have := of_decide_eq_false e; omega
          · have := of_decide_eq_false e
            rw [List.length_append] at this
            exact List.eq_nil_of_length_eq_zero (by omega)
        rw [hX] at b3 ⊢
        split
        · exact b3
        · exact b3
end Go.Den
noncomputable section
namespace Go.Den
open Go.RowKit
set_option maxRecDepth 100000
abbrev Kq:AV:=.func (.func 17) [] []
abbrev Kx:AV:=.func (.func 18) [] []
theorem LnS.ext{hS h':H}{Lc:List (List AV)}{XS:List (List (List AV))}(l:LnS hS Lc XS)(x:Exh hS h'):LnS h' Lc XS:=⟨l.1,fun i h1 h2=>by
 obtain⟨vt,a,b,c,e,s⟩:=l.2 i h1 h2
 exact⟨vt,a,b,c,e,s.ext x⟩⟩
theorem A85(h:H):Ax env (env.ty 201) [] h=some (.agg [.int .u32 (.ofNat 0),.int .i32 (.ofNat 0),.int .u32 (.ofNat 0),.Qx],h):=by kernel_rfl
theorem Ws:∀(l:List (List (List AV)))(acc:List (List AV))(f:Bool),(∀c∈acc,Tkp c)→(∀X∈l,∀c∈X,Tkp c)→∀c∈En acc f l,Tkp c
 |[],_,_,h1,_=>h1
 |X::l,acc,f,h1,h2=>by
  unfold En
  refine Ws l _ false (fun c hc=>?_) (fun Y hY=>h2 Y (List.mem_cons_of_mem _ hY))
  have hX:=h2 X List.mem_cons_self
  rcases List.mem_append.1 hc with e|e
  · exact h1 c e
  · split at e
    · exact hX c e
    · exact Azn hX c e
theorem c57{h:H}{pX pK pT pt pe pF pS pA:P}{nm:List UInt8}{vs vl w1 w2 w3 w4 vd vn va:AV}{dp fu:Nat}{Lc:List (List AV)}{XS:List (List (List AV))}{D:List (List AV)}{L0:Cn}{b0 lo:Nat}
 (rX:Cd h pX TFl (flr pK nm vs)) (rK:Cd h pK TWr (wkr pT w1 w2 w3 w4 Kx pt pF .Ai vd vn va false pS pA dp)) (hvs:vs=.Ai∨∃b o n z t,vs=.slice b o n z t)
 (hl:SlR 4 h vl Lc) (ls:LnS h Lc XS) (ok:TxX XS) (hx:XS.length≤1000000) (hsz:∀j,j≤XS.length→(En [] true (XS.take j)).length≤1000) (hfu:1000≤fu) (hf6:fu≤1000000)
 (tb:Cd h pt 138 [.map pe]) (em:h.at pe=.map [] 0) (rF:Cd h pF TFu [.int .i64 (Int.ofNat fu)]) (m0:IsC h pA L0) (hb0:b0≤1000) (cok:Le L0 b0) (hd:Cb TDg 4 lo h vd D) (hD:D.length≤1000000)
 (nX:pX.nat<h.next.nat) (nK:pK.nat<h.next.nat) (nt:pt.nat<h.next.nat) (ne:pe.nat<h.next.nat) (nF:pF.nat<h.next.nat) (nA:pA.nat<h.next.nat) {k:KV}
 (hk:∀h' v' L',FrX (fun c=>c=pF∨c=pA∨c=pK) h h'→Cd h' pK TWr (wkr pT w1 w2 w3 w4 Kx pt pF v' vd vn va false pS pA dp)→He TTk 8 h.next.nat h' v' (En [] true XS)→IsC h' pA L'→(∃n,n≤b0+1000∧Le L' n)→k (.tuple []) h'):W1 (.func 57) [.ptr pX 0,vl] h k:=by
 refine w57 (n:=2*XS.length+4+1) Bg (g57 ?_)
 unfold Ani
 rw[A85,Ad,Fu]
 refine Ft (by simp) ?_
 refine newRow (e:=201) rfl fun h1 x1 n1 r1=>?_
 have XK:=rK.ext x1 nK
 have XX:=rX.ext x1 nX
 have fin:∀{h':H}{n:Nat},k (.tuple []) h'→(r57 W1 k (n+1)).a1 (.ptr pX 0) vl (.ptr h.next 0) (Int.ofNat XS.length) h':=fun{h' n} hh=>by
  refine A3f ?_
  unfold Ahn
  rw[hl.len,ls.1,ilt,decide_eq_false (Nat.lt_irrefl _)]
  refine Fa (fun e=>by cases e) (fun _=>?_)
  exact Cp rfl hh
 have fr0:FrX (fun c=>c=pF∨c=pA∨c=pK) h h1:=x1.frx
 rw[show 2*XS.length+4=(2*XS.length+3)+1 by omega]
 by_cases h0:XS.length=0
 · have e:XS=[]:=List.eq_nil_of_length_eq_zero h0
   have:=fin (n:=2*XS.length+3) (hk h1 .Ai L0 fr0 XK (.inl ⟨rfl,by rw[e];rfl⟩) (by unfold IsC;rw[x1.2 _ nA];exact m0) ⟨b0,by omega,cok⟩)
   rw[h0] at this ⊢
   exact this
 have hp:0<XS.length:=by omega
 have hpl:0<Lc.length:=by rw[ls.1];exact hp
 refine A3f ?_
 unfold Ahn
 have hl1:=hl.ext x1
 rw[hl1.len,ls.1,ilt,decide_eq_true hp]
 refine Fa (fun _=>?_) (fun e=>by cases e)
 rw[Am,Ad,Ae]
 refine XX.ld1 (j:=0) (by show 0<14;decide) ?_
 show oK (Ag (.ptr pK 0) h1) _
 rw[Am,Ad,Ae,Ae]
 refine XK.ld1 (j:=12) (by show 12<16;decide) ?_
 show asB (.bool false) _
 rw[Bn]
 refine Dp rfl ?_
 obtain⟨vt0,a1,a2,a3,el,hvt⟩:=ls.2 0 hpl hp
 refine Dg ?_
 refine(hl1.rd hpl).elem hpl fun q o _ _ ha=>?_
 rw[el] at ha
 refine ha.ld1 (j:=0) (by show 0<4;decide) ?_
 refine c79 (hvt.ext x1) (ok _ (List.getElem_mem hp)) fun h2 x2=>?_
 rw[Bj]
 refine Cp rfl ?_
 have x12:=x1.trans x2
 refine A31 (hS:=h2) (n0:=3) (hl.ext x12) (ls.ext x12) ok hx (fun j hj=>Nat.le_trans (hsz j hj) (by omega)) (fun h3 v3 x3 b3=>?_) XS.length 0 (by omega) (Nat.zero_le _) .refl (.inl ⟨rfl,by rw[List.take_zero];rfl⟩)
 refine A3e ?_
 unfold Ahm
 have x03:=x12.trans x3
 have m03:=x03.1
 have lT:=hsz XS.length (Nat.le_refl _)
 rw[List.take_length] at lT
 rw[(hl.ext x03).len,ls.1,ilt,decide_eq_false (Nat.lt_irrefl _)]
 refine Fa (fun e=>by cases e) (fun _=>?_)
 refine Cp rfl ?_
 have X3:=rX.ext x03 nX
 have K3:=rK.ext x03 nK
 refine c81 X3 ?_
 rw[Bn]
 refine Fa (fun _=>?_) (fun e=>by cases e)
 rw[b3.n.len,ilt]
 refine Br (fun e=>?_) (fun e=>?_)
 · rw[Am,Ad,Ae]
   refine X3.ld1 (j:=0) (by show 0<14;decide) ?_
   rw[Am,Ad,Ae]
   refine X3.ld1 (j:=0) (by show 0<14;decide) ?_
   show oK (Ag (.ptr pK 0) h3) _
   rw[Am,Ad,Ae,Ae]
   refine K3.ld1 (j:=8) (by show 8<16;decide) ?_
   rw[Am,Ad,Ae]
   refine X3.ld1 (j:=0) (by show 0<14;decide) ?_
   rw[Am,Ad,Ae]
   refine X3.ld1 (j:=0) (by show 0<14;decide) ?_
   show oK (Ag (.ptr pK 0) h3) _
   rw[Am,Ad,Ae,Ae]
   refine K3.ld1 (j:=5) (by show 5<16;decide) ?_
   rw[Am,Ad,Ae]
   refine X3.ld1 (j:=0) (by show 0<14;decide) ?_
   show oK (Ag (.ptr pK 0) h3) _
   rw[Am,Ad,Ae]
   refine K3.ld1 (j:=6) (by show 6<16;decide) ?_
   rw[Am,Ad,Ae]
   refine X3.ldn (o:=2) (ds:=[S nm,vs,.int .i64 (.ofNat 0)]) rfl rfl (by simp) ?_
   rw[Am,Ad,Ae]
   refine X3.ld1 (j:=0) (by show 0<14;decide) ?_
   show oK (Ag (.ptr pK 0) h3) _
   rw[Am,Ad,Ae]
   refine K3.ld1 (j:=7) (by show 7<16;decide) ?_
   show W1 (.func 18) [.ptr pt 0,v3,.agg [.str nm.length (enc nm),vs,.int .i64 (.ofNat 0)],.ptr pF 0] h3 _
   refine c18 (Ws XS [] true (fun _ h=>absurd h List.not_mem_nil) fun X hX c hc=>(ok X hX c hc).1) (by omega) (by omega) hf6 b3.n.r.slr hvs (tb.ext x03 nt) (by rw[x03.2 _ ne];exact em) (rF.ext x03 nF) (by omega) (by omega) (by omega) fun h4 vt vu ks f4 rF4 bT hu fu4 hkl hks=>?_
   have m4:=f4.1
   have kF:pK≠pF:=rK.ne rF (by decide)
   have xF:pX≠pF:=rX.ne rF (by decide)
   have aF:pA≠pF:=fun e=>by subst e;exact rF.Hy m0
   have aK:pA≠pK:=fun e=>by subst e;exact rK.Hy m0
   have aX:pX≠pA:=fun e=>by subst e;exact rX.Hy m0
   have xK:pX≠pK:=rX.ne rK (by decide)
   have X4:=X3.of (f4.2 _ (by omega) xF)
   have K4:=K3.of (f4.2 _ (by omega) kF)
   have A4:IsC h4 pA L0:=by unfold IsC;rw[f4.2 _ (by omega) aF,x03.2 _ nA];exact m0
   have d4:Cb TDg 4 lo h4 vd D:=(hd.ext x03).frame m4 fun c hc _ t m z w e'=>f4.2 c hc fun q=>by
    subst q
    obtain⟨t',a',_⟩:=rF.ext x03 nF
    rw[a'] at e';cases e'
   have g4:∀{K:Prop},K→(ld1 (.ptr pX (0+0)) h4 fun v113=>eqC v113 (.ptr pK 0)<|ld1 (.ptr pX (0+0)) h4 fun v114=>eqC v114 (.ptr pK 0)<|ld1 (.ptr pK (0+8+0)) h4 fun v115=>eqC v115 .Ai<|ld1 (.ptr pX (0+0)) h4 fun v116=>eqC v116 (.ptr pK 0) K):=fun hK=>by
    refine X4.ld1 (j:=0) (by show 0<14;decide) (Gn (X4.ld1 (j:=0) (by show 0<14;decide) (Gn (K4.ld1 (j:=8) (by show 8<16;decide) ?_))))
    show eqC .Ai .Ai _
    rw[Aba]
    exact X4.ld1 (j:=0) (by show 0<14;decide) (Gn hK)
   refine g4 ?_
   refine c82 hu hks (by omega) (fun q o n z b e'=>?_) d4 hD K4 (by omega) A4 (by omega) hb0 cok fun h5 L' f5 K5 A5 ok5=>?_
   · have:=fu4 q o n z b e'
     exact⟨fun e=>by subst e;omega,fun e=>by subst e;omega⟩
   have m5:=f5.1
   have X5:=X4.of (f5.2 _ (by omega) fun q=>q.elim aX xK)
   refine X5.ld1 (j:=0) (by show 0<14;decide) (Gn (X5.ld1 (j:=0) (by show 0<14;decide) (Gn (K5.ld1 (j:=8) (by show 8<16;decide) ?_))))
   show eqC .Ai .Ai _
   rw[Aba,Aq3]
   have hT:=Ws XS [] true (fun _ h=>absurd h List.not_mem_nil) fun X hX c hc=>(ok X hX c hc).1
   have bT5:Cb TTk 8 h3.next.nat h5 vt (En [] true XS):=bT.frame m5 fun c hc _ t m z w e'=>f5.2 c hc fun q=>by
    rcases q with q|q
    · subst q
      unfold IsC at A4;rw[A4] at e';cases e'
    · subst q
      obtain⟨t',a',_⟩:=K4
      rw[a'] at e';cases e'
   obtain⟨v6,h6,e6,b6,m6,f6⟩:=Alx (e:=TTk) (lo:=h.next.nat) (v:=.Ai) (L:=[]) (.inl ⟨rfl,rfl⟩) (Jt bT5.r.slr) (fun c hc=>(hT c hc).l8) Azh (Af3 (by simp only[List.length_nil];omega)) (by omega)
   show oK (Co (some false) .Ai vt h5 TTk (Hz TTk)) _
   rw[e6,Ad]
   rw[List.nil_append] at b6
   have X6:Exh h5 h6:=⟨m6,fun c hc=>f6 c hc fun _ _ _ _ e'=>by cases e'⟩
   refine(X5.ext X6 (by omega)).ld1 (j:=0) (by show 0<14;decide) (Gn ?_)
   show oK (Ag (.ptr pK 0) h6) _
   rw[Am,Ad,Ae,Ae]
   refine(K5.ext X6 (by omega)).st1 (j:=8) (cs':=wkr pT w1 w2 w3 w4 Kx pt pF v6 vd vn va false pS pA dp) (by show 8<16;decide) b6.one rfl fun h7 n7 f7 K7=>?_
   have A7:IsC h7 pA L':=by unfold IsC;rw[f7 _ aK,X6.2 _ (by omega)];exact A5
   refine fin (n:=1) (hk h7 v6 L' ⟨by rw[n7];omega,fun c hc hne=>?_⟩ K7 ?_ A7 ⟨_,by omega,ok5⟩)
   · rw[f7 c fun q=>hne (.inr (.inr q)),X6.2 c (by omega),f5.2 c (by omega) fun q=>hne (.inr q),f4.2 c (by omega) fun q=>hne (.inl q),x03.2 c hc]
   · exact b6.frame (by rw[n7];exact Nat.le_refl _) fun c _ _ t m z w e'=>f7 c fun q=>by
      subst q
      obtain⟨t',a',_⟩:=K5.ext X6 (by omega)
      rw[a'] at e';cases e'
 · have e:(En [] true XS)=[]:=List.eq_nil_of_length_eq_zero (by have:=of_decide_eq_false e;omega)
   exact fin (n:=1) (hk h3 .Ai L0 x03.frx K3 (.inl ⟨rfl,e⟩) (by unfold IsC;rw[x03.2 _ nA];exact m0) ⟨b0,by omega,cok⟩)
end Go.Den
