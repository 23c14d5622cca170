/-
 Proof.
-/
import Derived.Test.YtheajahjkmfeaaaGreatDoorLpm
import Derived.Test.YtheajahjkmfeaaaGreatDoorVar
namespace Go.Den
open Go.RowKit
set_option maxRecDepth 100000
theorem Tw.Awx{h:H}{v:AV}{T:List (List AV)}(hb:Tw TIt 9 h v T)(h1:1≤T.length){K:KV}(hk:∀v',Tw TIt 9 h v' (T.take (T.length-1))→(∀q o n z b,v'=.slice q o n z b→∃o n z b,v=.slice q o n z b)→v'.one=true→K v' h):oK (slice3 env h 116 v none (some (Bp (.int .i64 (Int.ofNat (T.length-1))))) none) K:=by
 rcases hb with⟨_,rfl⟩|⟨q,t,m,z,w,rfl,a2,a3,a4,a5⟩
 · exact absurd h1 (by decide)
 · rw[Go.Den.Awx]
   unfold Ma
   rw[Nat.ble_eq_true_of_le (Nat.zero_le _),Nat.ble_eq_true_of_le (Nat.sub_le _ _)]
   show oK (some (.slice q (0+0*9) (T.length-1-0) 9 (An false (Nat.beq (T.length-1) T.length)),h)) _
   rw[Ad,Nat.sub_zero]
   have hl:(T.take (T.length-1)).length=T.length-1:=by rw[List.length_take];omega
   refine hk _ (.inr ⟨q,t,m,z,w,by rw[hl];rfl,a2,a3,by omega,fun i hi=>?_⟩) (fun q' o n z b e=>?_) rfl
   · rw[hl] at hi
     rw[List.getElem_take]
     exact a5 i (by omega)
   · cases e;exact⟨_,_,_,_,rfl⟩
section
variable{pR pN pM pF pt pe:P}{w0 w1 w2:AV}{lo:Nat}
theorem A36 {hS : H} (hlo : lo = hS.next.nat) (lR : pR.nat < lo) {k : KV} : ∀ (R : List (List AV)) (n : Nat) {h : H} {L : Cn} {fu : Nat} {vo : AV} {O : List (List AV)}, R.length < n → (∀ c ∈ R, Tkp c) → FrX (fun c => c = pF ∨ c = pM ∨ c = pR) hS h → Rnn h pN pM pF pt pe w0 w1 w2 L fu → Rrw lo h pR pN (its R).reverse vo O → R.length ≤ fu → fu ≤ 1000000 → O.length + R.length ≤ 1000000 → Le L O.length →
    (∀ h' vo' L' fu', FrX (fun c => c = pF ∨ c = pM ∨ c = pR) hS h' → Rnn h' pN pM pF pt pe w0 w1 w2 L' fu' → Rrw lo h' pR pN [] vo' (O ++ its R) → Le L' (O ++ its R).length → fu' = fu - R.length → k vo' h') →
    (r42 W1 k n).a1 (.ptr pR 0) h
  | _, 0, _, _, _, _, _, hn, _, _, _, _, _, _, _, _, _ => absurd hn (Nat.not_lt_zero _)
  | R, n + 1, h, L, fu, vo, O, hn, hR, X, r, g, hfu, hf6, hO, ok, hk => by
    refine Be2 ?_
    unfold An3
    obtain ⟨vt, q1, q2, q3⟩ := g.row
    rw [Am, Ad, Ae]
    refine q1.ld1 (j := 2) (by show 2 < 4; decide) ?_
    show Cz vt _
    rw [q2.len, List.length_reverse, Mk, ilt]
    cases R with
    | nil =>
      refine Fa (fun e => by cases e) (fun _ => ?_)
      refine Cp rfl ?_
      rw [Am, Ad, Ae]
      refine q1.ld1 (j := 3) (by show 3 < 4; decide) ?_
      refine hk h vo L fu X r ?_ ?_ rfl
      · rw [show its [] = [] from rfl, List.append_nil]; exact g
      · rw [show its [] = [] from rfl, List.append_nil]; exact ok
    | cons c R =>
      have hc := hR c List.mem_cons_self
      refine Fa (fun _ => ?_) (fun e => by cases e)
      rw [Am, Ad, Ae]
      refine q1.ld1 (j := 0) (by show 0 < 4; decide) ?_
      show oK (Ag (.ptr pN 0) h) _
      rw [Am, Ad, Ae]
      refine r.run.ld1 (j := 7) (by show 7 < 8; decide) ?_
      show asB (.bool false) _
      rw [Bn]
      refine Dp rfl ?_
      have eT : (its (c :: R)).reverse = (its R).reverse ++ [c ++ [.Ai]] := by unfold its; rw [List.map_cons, List.reverse_cons]
      have lT : (its (c :: R)).reverse.length = R.length + 1 := by rw [List.length_reverse, Mk]; rfl
      have l9 : (c ++ [AV.Ai]).length = 9 := by rw [List.length_append, hc.l8]; rfl
      have hlc : (c :: R).length = R.length + 1 := rfl
      refine c65 g (by rw [lT]; omega) (by rw [lT]; omega) (it := c ++ [.Ai]) ?_ l9 fun h2 x2 => ?_
      · simp only [eT, List.length_append, List.length_reverse, List.length_singleton, Nat.add_sub_cancel]
        rw [List.getElem_append_right (by rw [List.length_reverse]; exact Nat.le_refl _)]
        simp
      have X2 := X.trans x2.frx
      have r2 := r.ext x2
      have g2 := g.ext x2
      refine newRow (e := TIt) (cs := Na ++ [.Ai]) rfl fun h3 x3 n3 r3 => ?_
      refine r3.stn (o := 0) (ds := c ++ [.Ai]) (cs' := c ++ [.Ai]) l9 (by decide) (by show 0 + 9 ≤ 9; decide) (by rw [show (Na ++ [AV.Ai]).drop (0 + 9) = [] from rfl]; simp) fun h4 n4 f4 r4 => ?_
      have x4 : Exh h2 h4 := x3.Sm (Nat.le_refl _) n4 f4
      have X4 := X2.trans x4.frx
      have g4 := g2.ext x4
      have R4 := r2.ext x4
      obtain ⟨vt, q1, q2, q3⟩ := g4.row
      rw [Am, Ad, Ae]
      refine q1.ld1 (j := 2) (by show 2 < 4; decide) ?_
      rw [Am, Ad, Ae]
      refine q1.ld1 (j := 2) (by show 2 < 4; decide) ?_
      show Cz vt _
      rw [q2.len]
      refine Xa (by rw [lT]; omega) (by rw [lT]; omega) ?_
      show oK (slice3 env h4 116 vt none (some (Bp (.int .i64 (Int.ofNat ((its (c :: R)).reverse.length - 1))))) none) _
      refine q2.Awx (by rw [lT]; omega) fun v5 b5 i5 o5 => ?_
      rw [Am, Ad, Ae]
      refine q1.st1 (j := 2) (cs' := [.ptr pN 0, .bool true, v5, vo]) (by show 2 < 4; decide) o5 rfl fun h6 n6 f6 r6 => ?_
      have eC : (its (c :: R)).reverse.take ((its (c :: R)).reverse.length - 1) = (its R).reverse := by
        rw [lT, Nat.add_sub_cancel, eT, List.take_left']
        rw [List.length_reverse, Mk]
      rw [eC] at b5
      have nR := g4.nR
      have fI : ∀ c, (∃ t m z w, h4.at c = .row t m z TIt w) → h6.at c = h4.at c := fun c ⟨t, m, z, w, a⟩ => f6 c fun e => by
        subst e
        obtain ⟨t', a', _⟩ := q1
        rw [a] at a'; cases a'
      have g6 : Rrw lo h6 pR pN (its R).reverse vo O := ⟨⟨v5, r6, b5.frame (by rw [n6]; exact Nat.le_refl _) fun c _ t m z w a => fI c ⟨t, m, z, w, a⟩, fun q o n z b e => by
        obtain ⟨o', n', z', b', e'⟩ := i5 q o n z b e
        exact q3 _ _ _ _ _ e'⟩, g4.out.frame (by rw [n6]; exact Nat.le_refl _) fun c _ _ t m z w a => fI c ⟨t, m, z, w, a⟩, by rw [n6]; exact g4.nR, by rw [n6]; exact g4.nl⟩
      have R6 : Rnn h6 pN pM pF pt pe w0 w1 w2 L fu := R4.keep (by rw [n6]; exact Nat.le_refl _) fun c _ _ no => f6 c fun e => by
        subst e
        obtain ⟨t', a', _⟩ := q1
        exact no _ _ _ _ a'
      have X6 : FrX (fun c => c = pF ∨ c = pM ∨ c = pR) hS h6 := X4.trans ⟨by rw [n6]; exact Nat.le_refl _, fun c _ hne => f6 c fun e => hne (.inr (.inr e))⟩
      have r4' : Cd h6 h2.next TIt (c ++ [.Ai]) := r4.of (f6 _ fun e => by
        have := r4.ne q1 (by decide)
        exact this e)
      refine r4'.ldn (o := 0) (ds := c ++ [.Ai]) l9 (by rw [List.drop_zero, List.take_length]) (by omega) ?_
      have hlen : (O ++ [c ++ [AV.Ai]]).length = O.length + 1 := by rw [List.length_append]; rfl
      refine c66 R6 g6 (by omega) hf6 (by omega) lR ok hc fun h7 vo7 L7 x7 R7 ok7 g7 => ?_
      have X7 : FrX (fun c => c = pF ∨ c = pM ∨ c = pR) hS h7 := ⟨Nat.le_trans X6.1 x7.1, fun c hc hne => by
        rw [x7.2 c (Nat.lt_of_lt_of_le hc X6.1) fun q => ?_, X6.2 c hc hne]
        rcases q with q | q | q | q
        · exact hne (.inl q)
        · exact hne (.inr (.inl q))
        · exact hne (.inr (.inr q))
        · omega⟩
      refine A36 hlo lR R n (by omega) (fun c hc => hR c (List.mem_cons_of_mem _ hc)) X7 R7 g7 (by omega) (by omega) (by rw [hlen]; omega) (by rw [hlen]; exact ok7) fun h8 vo8 L8 fu8 x8 R8 g8 ok8 e8 => ?_
      have eO : O ++ [c ++ [AV.Ai]] ++ its R = O ++ its (c :: R) := by rw [List.append_assoc]; rfl
      rw [eO] at g8 ok8
      exact hk h8 vo8 L8 fu8 x8 R8 g8 ok8 (by omega)
theorem c42{h:H}(lR:pR.nat<h.next.nat){R:List (List AV)}(hR:∀c∈R,Tkp c){fu:Nat}(r:Rnn h pN pM pF pt pe w0 w1 w2 [] fu)(g:Rrw h.next.nat h pR pN (its R).reverse .Ai [])(hfu:R.length≤fu)(hf6:fu≤1000000){k:KV}
 (hk:∀h' vo' L' fu',FrX (fun c=>c=pF∨c=pM∨c=pR) h h'→Rnn h' pN pM pF pt pe w0 w1 w2 L' fu'→Rrw h.next.nat h' pR pN [] vo' (its R)→Le L' (its R).length→fu'=fu-R.length→k vo' h'):W1 (.func 42) [.ptr pR 0] h k:=by
 refine w42 (n:=R.length+2) Bg (g42 ?_)
 unfold An4
 exact A36 rfl lR R _ (by omega) hR .refl r g hfu hf6 (by rw[List.length_nil];omega) .nil hk
end
end Go.Den
noncomputable section
namespace Go.Den
open Go.RowKit
set_option maxRecDepth 100000
abbrev fBk(F:FT)(i:Int)(v p:AV):FT:=Du (Ao (Ao F 24 (.int .i64 i)) 25 v) (some 11) p
theorem A2g{c:CF}{F:FT}{i:Int}{v:AV}{h:H}{K:KX'}:Lq env c Cu.pls [] noJ Cu.assign .root (Uh Cu.params [.int .i64 i,v] F) h K=Hp.Cs h Aaj fun p h2=>stn 8 (.ptr p 0) v h2 fun h3=>K .normal (fBk F i v (.ptr p 0)) h3:=by kernel_rfl
theorem Bjz{c:CF}{F:FT}{i:Int}{v:AV}{p19 p:P}{h:H}{l:P}{k:KV}:Lq env c Cu.pls [] noJ Cu.body .root (fBk (Ao F 9 (.ptr p19 0)) i v (.ptr p 0)) h (Ach l k)=
 Ac 7 (.ptr p 0) fun v26=>ld1 v26 h fun v27=>c (.func 41) [v27] h fun v28 h29=>Ac 7 (.ptr p 0) fun v29=>st1 v29 v28 h29 fun h30=>
  ld1 (.ptr p19 0) h30 fun v30=>ld1 (.ptr p19 0) h30 fun v31=>oK (Ag v31 h30) fun v32 h32=>Ac 2 v32 fun v33=>ld1 v33 h32 fun v34=>ldn 8 (.ptr p 0) h32 fun v35=>
   oK (Ax env (env.ty TIt) [(0,v35)] h32) fun v36 h36=>oK (Ap env 116 (fun e ei=>Ak 1 [(0,v36)] h36 e ei)) fun v37 h37=>
    ld1 (.ptr p19 0) h37 fun a1=>eqC a1 v30<|ld1 (.ptr p19 0) h37 fun a2=>eqC a2 v31<|ld1 v33 h37 fun a3=>eqC a3 v34<|
    oK (Ar env .append [116,116] [v34,v37] h37) fun v38 h38=>ld1 (.ptr p19 0) h38 fun a4=>eqC a4 v30<|oK (Ag v30 h38) fun v39 h39=>Ac 2 v39 fun v40=>st1 v40 v38 h39 fun h40=>Ach l k .normal F h40:=by kernel_rfl
theorem Bo9:Aah PP env G Cu=true:=by kernel_rfl
theorem byl(x y:AV):Nat.beq (len [x,y]) (len Cu.params)=true:=by kernel_rfl
theorem Gn{q:P}{o:Nat}{A:Prop}(hA:A):eqC (.ptr q o) (.ptr q o) A:=Gm (.inr (.inr (.inr (.inr (.inr (.inr ⟨q,o,rfl⟩)))))) hA
theorem Axf:Pure PP G h0 41 [.Ai] .Ai:=pure_run (by kernel_rfl)
theorem Bfu(a b c d e f g i:AV)(h:H):Ax env (env.ty TIt) [(0,.agg [a,b,c,d,e,f,g,i])] h=some (.agg [a,b,c,d,e,f,g,i,.Ai],h):=by kernel_rfl
theorem Bn2{c:List AV}(hc:Tkp c)(h:H):Ax env (env.ty TIt) [(0,.agg c)] h=some (.agg (c++[.Ai]),h):=by
 obtain⟨kd,tx,fl,sp,md,a,b',e,_⟩:=hc.ex
 subst e
 exact Bfu _ _ _ _ _ _ _ _ _
theorem Bpa{c:List AV}(hc:Tkp c)(h:H):Ap env 116 (fun t ei=>Ak 1 [(0,.agg (c++[.Ai]))] h t ei)=some (.slice h.next 0 1 9 true,h.new (.row (Aj (c++[.Ai]) 0 A2l) 9 0 TIt true)):=by
 obtain⟨kd,tx,fl,sp,md,a,b',e,_⟩:=hc.ex
 subst e
 exact Axy _ _ _ _ _ _ _ _ _ _
theorem Tkp.c7{c:List AV}(hc:Tkp c):c[7]'(by rw[hc.l8];decide)=.Ai:=by
 obtain⟨kd,tx,fl,sp,md,a,b',e,_⟩:=hc.ex
 subst e;rfl
theorem Tkp.s7{c:List AV}(hc:Tkp c):c.set 7 .Ai=c:=by
 obtain⟨kd,tx,fl,sp,md,a,b',e,_⟩:=hc.ex
 subst e;rfl
structure Bk(hS h:H)(l pR pN:P)(F:FT)(T:List (List AV)):Prop where
 lp:h.at l=.loop F Cu .ready .normal
 l1:hS.next.nat≤l.nat
 l2:l.nat<h.next.nat
 fr:FrX (fun c=>c=pR) hS h
 row:∃vt,Cd h pR TRo [.ptr pN 0,.bool true,vt,.Ai]∧Cb TIt 9 hS.next.nat h vt T
theorem A2h{hS h:H}{l pR pN p19:P}{F:FT}{T:List (List AV)}(b:Bk hS h l pR pN F T)(hF:F 9=.ptr p19 0)(r19:Cd hS p19 112 [.ptr pR 0])(n19:p19.nat<hS.next.nat)(nR:pR.nat<hS.next.nat)(e19:p19≠pR)(hT:T.length≤1000000){c:List AV}(hc:Tkp c){i:Int}{k:KV}(hk:∀h',h.next.nat≤h'.next.nat→Bk hS h' l pR pN F (T++[c++[.Ai]])→k (.bool true) h'):W1 (.yield l.nat) [.int .i64 i,.agg c] h k:=by
 have l2:=b.l2
 have l1:=b.l1
 have l8:=hc.l8
 have fr1:=b.fr.1
 obtain⟨vt,rR,bT⟩:=b.row
 refine Ty mixed Dn Bg ?_
 unfold Tc
 rw[Ym l.nat l Nat.lt_two_pow_self,Nat.beq_refl]
 show Zi env W1 (Aah PP env G) l [.int .i64 i,.agg c] h k
 unfold Zi
 rw[b.lp]
 show Bool.rec As (Lq env W1 Cu.pls [] noJ Cu.assign .root (Uh Cu.params [.int .i64 i,.agg c] F) h (Auw env W1 l Cu k)) (An (Aah PP env G Cu) (Nat.beq (len [AV.int .i64 i,.agg c]) (len Cu.params)))
 rw[Bo9,byl]
 show Lq env W1 Cu.pls [] noJ Cu.assign .root (Uh Cu.params [.int .i64 i,.agg c] F) h (Auw env W1 l Cu k)
 rw[A2g]
 refine newRow (e:=TTk) (cs:=Na) rfl fun h2 x2 n2 r2=>?_
 refine r2.stn (o:=0) (ds:=c) (cs':=c) l8 (by decide) (by show 0+8≤8;decide) (by rw[show Na.drop (0+8)=[] from rfl];simp) fun h3 n3 f3 r3=>?_
 have x3:Exh h h3:=x2.Sm (Nat.le_refl _) n3 f3
 have lp3:h3.at l=.loop F Cu .ready .normal:=by rw[x3.2 _ l2];exact b.lp
 show Xi (h3.at l) (fun f' s' st pd=>Bool.rec As (h3.Kl l (.loop f' s' .busy pd) (fun h'=>Lq env W1 Cu.pls [] noJ Cu.body .root (fBk F i (.agg c) (.ptr h.next 0)) h' (Ach l k))) (isReady st))
 rw[lp3]
 show h3.Kl l (.loop F Cu .busy .normal) (fun h'=>Lq env W1 Cu.pls [] noJ Cu.body .root (fBk F i (.agg c) (.ptr h.next 0)) h' (Ach l k))
 have eF:fBk F i (.agg c) (.ptr h.next 0)=fBk (Ao F 9 (.ptr p19 0)) i (.agg c) (.ptr h.next 0):=by rw[Li hF]
 rw[Gw,eF,Bjz]
 have lne:∀{p:P},p.nat≠l.nat→p≠l:=fun q e=>q (by rw[e])
 have f4:∀p,p≠l→(h3.put l (.loop F Cu .busy .normal)).at p=h3.at p:=fun p hp=>Az hp
 have lp4:(h3.put l (.loop F Cu .busy .normal)).at l=.loop F Cu .busy .normal:=Ba _ _ _
 have n4:(h3.put l (.loop F Cu .busy .normal)).next=h3.next:=rfl
 generalize h3.put l (.loop F Cu .busy .normal)=h4 at f4 lp4 n4 ⊢
 have hn3:h3.next.nat=h.next.nat+1:=by rw[n3];exact n2
 have r4:Cd h4 h.next TTk c:=r3.of (f4 _ (lne (by omega)))
 have pR4:h4.at pR=h.at pR:=by rw[f4 _ (lne (by omega)),x3.2 _ (by omega)]
 have p194:h4.at p19=h.at p19:=by rw[f4 _ (lne (by omega)),x3.2 _ (by omega)]
 have r19h:Cd h p19 112 [.ptr pR 0]:=r19.of (b.fr.2 _ n19 e19)
 rw[Ae]
 refine r4.ld1 (j:=7) (by omega) ?_
 rw[hc.c7]
 refine Lj Axf ?_
 rw[Ae]
 refine r4.st1 (j:=7) (cs':=c) (by omega) rfl hc.s7 fun h5 n5 f5 r5=>?_
 have lp5:h5.at l=.loop F Cu .busy .normal:=by rw[f5 _ (fun e=>by rw[e] at l2;exact Nat.lt_irrefl _ l2)];exact lp4
 have pR5:h5.at pR=h.at pR:=by rw[f5 _ (fun e=>by rw[e] at nR;omega)];exact pR4
 have p195:h5.at p19=h.at p19:=by rw[f5 _ (fun e=>by rw[e] at n19;omega)];exact p194
 have g5:∀p,p.nat<h.next.nat→p≠l→h5.at p=h.at p:=fun p hp hl=>by rw[f5 _ (fun e=>by rw[e] at hp;exact Nat.lt_irrefl _ hp),f4 _ hl,x3.2 _ hp]
 have m5:h5.next.nat=h.next.nat+1:=by rw[n5,n4,hn3]
 have Atv:Cd h5 p19 112 [.ptr pR 0]:=r19h.of p195
 have rR5:Cd h5 pR TRo [.ptr pN 0,.bool true,vt,.Ai]:=rR.of pR5
 have b5:Cb TIt 9 hS.next.nat h5 vt T:=bT.frame (by omega) fun p hp _ t m z w e=>g5 p hp fun q=>by subst q;rw[b.lp] at e;cases e
 refine Atv.ld1 (j:=0) (by show 0<1;decide) ?_
 refine Atv.ld1 (j:=0) (by show 0<1;decide) ?_
 show oK (Ag (.ptr pR 0) h5) _
 rw[Am,Ad,Ae]
 refine rR5.ld1 (j:=2) (by show 2<4;decide) ?_
 refine r5.ldn (o:=0) (ds:=c) l8 (by rw[List.drop_zero,List.take_length]) (by omega) ?_
 rw[Bn2 hc,Ad,Bpa hc,Ad]
 have x6:Exh h5 (h5.new (.row (Aj (c++[.Ai]) 0 A2l) 9 0 TIt true)):=.new
 refine(Atv.ext x6 (by omega)).ld1 (j:=0) (by show 0<1;decide) ?_
 refine Gn ?_
 refine(Atv.ext x6 (by omega)).ld1 (j:=0) (by show 0<1;decide) ?_
 refine Gn ?_
 refine(rR5.ext x6 (by omega)).ld1 (j:=2) (by show 2<4;decide) ?_
 show eqC vt vt _
 rw[Agc b5.sl,Ayn]
 refine Po (ds:=c++[.Ai]) (.inr b5) (by rw[List.length_append,l8];rfl) A2s (Ap9 (by omega)) (by omega) fun v7 h7 b7 k7=>?_
 have m7:=k7.1
 have Bml:Cd h7 p19 112 [.ptr pR 0]:=Atv.kpl k7 (by omega) n19
 refine Bml.ld1 (j:=0) (by show 0<1;decide) ?_
 refine Gn ?_
 show oK (Ag (.ptr pR 0) h7) _
 rw[Am,Ad,Ae]
 have rR7:Cd h7 pR TRo [.ptr pN 0,.bool true,vt,.Ai]:=rR5.kpl k7 (by omega) nR
 refine rR7.st1 (j:=2) (cs':=[.ptr pN 0,.bool true,v7,.Ai]) (by show 2<4;decide) b7.one rfl fun h8 n8 f8 r8=>?_
 have lp7:h7.at l=.loop F Cu .busy .normal:=by rw[k7.2 l (by omega) (.inr fun t m z w e=>by rw[lp5] at e;cases e)];exact lp5
 have lp8:h8.at l=.loop F Cu .busy .normal:=by rw[f8 l fun e=>by subst e;omega];exact lp7
 show Xi (h8.at l) _
 rw[lp8]
 show Hp.Kl h8 l (.loop F Cu .ready .normal) (fun h=>k (.bool true) h)
 rw[Gw]
 have f9:∀p,p≠l→(h8.put l (.loop F Cu .ready .normal)).at p=h8.at p:=fun p hp=>Az hp
 have n9:(h8.put l (.loop F Cu .ready .normal)).next=h8.next:=rfl
 have m8:h8.next=h7.next:=n8
 refine hk _ (by rw[n9,m8];omega) ⟨Ba _ _ _,l1,by rw[n9,m8];omega,⟨by rw[n9,m8];omega,fun p hp hne=>?_⟩,v7,r8.of (f9 _ (lne (by omega))),b7.frame (by rw[n9,m8];exact Nat.le_refl _) fun p hp hl t m z w e=>?_⟩
 · rw[f9 _ (lne (by omega)),f8 _ hne,k7.2 p (by omega) (.inl hp),g5 p (by omega) (lne (by omega)),b.fr.2 p hp hne]
 · have q1:p≠l:=fun q=>by subst q;rw[lp7] at e;cases e
   have q2:p≠pR:=fun q=>by
    subst q
    obtain⟨t',a',_⟩:=rR7
    rw[e] at a';cases a'
   rw[f9 p q1,f8 p q2]
def nI(m:Nat):Int:=if m=0 then .negSucc 0 else .ofNat (m-1)
theorem A3n{m:Nat}(hm:m≤1000000000){K:Int→Prop}(hk:K (nI m)):fI (wrap .i64 (Mg (Int.ofNat m) (Int.ofNat 1))) K:=by
 cases m with
 |zero=>
  rw[show wrap .i64 (Mg (Int.ofNat 0) (Int.ofNat 1))=Int.negSucc 0 by kernel_rfl,Gp]
  exact hk
 |succ m=>
  refine Av5 (by omega) hm ?_
  unfold nI at hk
  rwa [if_neg (by omega)] at hk
theorem A3z {hS : H} {l pR pN p19 p1 : P} {F : FT} {v : AV} {R : List (List AV)} (hF : F 9 = .ptr p19 0) (r19 : Cd hS p19 112 [.ptr pR 0]) (n19 : p19.nat < hS.next.nat) (nR : pR.nat < hS.next.nat) (e19 : p19 ≠ pR) (r1 : Cd hS p1 30 [v]) (n1 : p1.nat < hS.next.nat) (e1 : p1 ≠ pR) (hv : SlR 8 hS v R) (ap : ∀ q o n z b, v = .slice q o n z b → ¬ q = pR) (hR : ∀ c ∈ R, Tkp c) (hl : R.length ≤ 1000000) {k : KV} (hk : ∀ h', Bk hS h' l pR pN F (its R.reverse) → k (.tuple []) h') :
    ∀ (m n : Nat) {h : H}, m < n → m ≤ R.length → Bk hS h l pR pN F (its (R.drop m).reverse) → (r64 W1 k n).a1 (.func (.yield l.nat) [] []) (.ptr p1 0) (nI m) h
  | _, 0, _, hn, _, _ => absurd hn (Nat.not_lt_zero _)
  | 0, n + 1, h, _, _, b => by
    refine A3d ?_
    unfold Ahl
    refine Cp (by rfl) ?_
    exact hk h b
  | m + 1, n + 1, h, hn, hm, b => by
    refine A3d ?_
    unfold Ahl
    have en : nI (m + 1) = Int.ofNat m := by unfold nI; rw [if_neg (by omega)]; rfl
    rw [en, ile, decide_eq_true (Nat.zero_le _)]
    refine Dp rfl ?_
    have hm' : m < R.length := hm
    have hc := hR _ (List.getElem_mem hm')
    refine (r1.of (b.fr.2 _ n1 e1)).ld1 (j := 0) (by show 0 < 1; decide) ?_
    refine Dg ?_
    have vh : SlR 8 h v R := hv.frx b.fr ap
    refine (vh.rd hm').elem hm' fun q o _ _ ha => ?_
    refine ha.ldn hc.l8 ?_
    show W1 (.yield l.nat) [.int .i64 (Int.ofNat m), .agg R[m]] h _
    have ed : (R.drop m).reverse = (R.drop (m + 1)).reverse ++ [R[m]] := by
      rw [List.drop_eq_getElem_cons hm', List.reverse_cons]
    refine A2h b hF r19 n19 nR e19 (by rw [Mk, List.length_reverse, List.length_drop]; omega) hc fun h2 m2 b2 => ?_
    rw [Bn]
    refine Cp rfl ?_
    refine A3n (by omega) ?_
    refine A3z hF r19 n19 nR e19 r1 n1 e1 hv ap hR hl hk m n (by omega) (by omega) ?_
    have : its (R.drop m).reverse = its (R.drop (m + 1)).reverse ++ [R[m] ++ [.Ai]] := by rw [ed]; unfold its; rw [List.map_append]; rfl
    rw [this]; exact b2
theorem Bm8:Yv env (.func 64)=true:=by kernel_rfl
theorem c40{h:H}{v:AV}(hv:v=.Ai∨∃b o n z t,v=.slice b o n z t){k:KV}(hk:∀h' p,Exh h h'→Cd h' p 30 [v]→h.next.nat≤p.nat→p.nat<h'.next.nat→k (.func (.func 64) [] [.ptr p 0]) h'):W1 (.func 40) [v] h k:=by
 refine w40 (n:=1) Bg (g40 ?_)
 unfold An5
 have go:Hp.Cs h (rowOf 30 [v]) fun p1 h2=>k (.func (.func 64) [] [(.ptr p1 0)]) h2:=newRow (e:=30) (cs:=[v]) rfl fun h1 x1 n1 r1=>hk h1 h.next x1 r1 (Nat.le_refl _) (by omega)
 rcases hv with rfl|⟨b,o,n,z,t,rfl⟩
 · exact go
 · exact go
theorem Ax5{hS:H}{pR pN p19 p1:P}{v:AV}{R:List (List AV)}(r19:Cd hS p19 112 [.ptr pR 0])(n19:p19.nat<hS.next.nat)(nR:pR.nat<hS.next.nat)(rR:Cd hS pR TRo [.ptr pN 0,.bool true,.Ai,.Ai])(r1:Cd hS p1 30 [v])(n1:p1.nat<hS.next.nat)(hv:SlR 8 hS v R)(ap:∀q o n z b,v=.slice q o n z b→¬q=pR)(hR:∀c∈R,Tkp c)(hl:R.length≤1000000){K:AX→H→Prop}
 (hk:∀h',FrX (fun c=>c=pR) hS h'→(∃vt,Cd h' pR TRo [.ptr pN 0,.bool true,vt,.Ai]∧Cb TIt 9 hS.next.nat h' vt (its R).reverse)→K .normal h'):Qq env W1 Cu (.func (.func 64) [] [.ptr p1 0]) (Ao (fun _=>.top) 9 (.ptr p19 0)) hS K:=by
 unfold Qq
 rw[Ayc,Bm8]
 show Hp.Cs hS (.loop (Ao (fun _=>.top) 9 (.ptr p19 0)) Cu .ready .normal) (fun l h=>W1 (.func 64) [.func (.yield l.nat) [] [],.ptr p1 0] h fun _ h=>Awn l K h)
 refine Cy ?_
 have a5:(hS.new (.loop (Ao (fun _=>.top) 9 (.ptr p19 0)) Cu .ready .normal)).at hS.next=.loop (Ao (fun _=>.top) 9 (.ptr p19 0)) Cu .ready .normal:=Bc _ _
 have x5:Exh hS (hS.new (.loop (Ao (fun _=>.top) 9 (.ptr p19 0)) Cu .ready .normal)):=.new
 have m5:(hS.new (.loop (Ao (fun _=>.top) 9 (.ptr p19 0)) Cu .ready .normal)).next.nat=hS.next.nat+1:=Bf
 generalize hS.new (.loop (Ao (fun _=>.top) 9 (.ptr p19 0)) Cu .ready .normal)=h5 at a5 x5 m5 ⊢
 refine w64 (n:=R.length+2) Bg (g64 ?_)
 unfold Anb
 refine(r1.ext x5 n1).ld1 (j:=0) (by show 0<1;decide) ?_
 show Cz v _
 rw[hv.len]
 refine A3n (by omega) ?_
 refine A3z (pN:=pN) (F:=Ao (fun _=>.top) 9 (.ptr p19 0)) rfl r19 n19 nR (r19.ne rR (by decide)) r1 n1 (r1.ne rR (by decide)) hv ap hR hl (fun h6 b6=>?_) R.length _ (by omega) (Nat.le_refl _) ?_
 · show Xi (h6.at hS.next) _
   rw[b6.lp]
   show Hp.Kl h6 hS.next (.loop (Ao (fun _=>.top) 9 (.ptr p19 0)) Cu .exhausted .normal) (fun h8=>K .normal h8)
   rw[Gw]
   obtain⟨vt,rR6,bT⟩:=b6.row
   have ne:∀{p:P},p.nat<hS.next.nat→p≠hS.next:=fun q e=>by subst e;exact Nat.lt_irrefl _ q
   refine hk _ ⟨by rw[Dq];exact b6.fr.1,fun c hc hne=>by rw[Az (ne hc),b6.fr.2 c hc hne]⟩ ⟨vt,rR6.of (Az (ne nR)),?_⟩
   have:(its R).reverse=its R.reverse:=by unfold its;rw[List.map_reverse]
   rw[this]
   refine bT.frame (by rw[Dq];exact Nat.le_refl _) fun c _ _ t m z w e=>Az fun q=>?_
   subst q
   rw[b6.lp] at e;cases e
 · rw[List.drop_length]
   refine⟨a5,Nat.le_refl _,by omega,x5.frx,.Ai,rR.ext x5 nR,.inl ⟨rfl,rfl⟩⟩
end Go.Den
