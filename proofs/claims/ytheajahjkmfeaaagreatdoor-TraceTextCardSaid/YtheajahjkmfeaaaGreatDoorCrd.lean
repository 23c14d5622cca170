/-
 Proof.
-/
import Derived.Test.YtheajahjkmfeaaaGreatDoorCre
noncomputable section
namespace Go.Den
open Go.RowKit
set_option maxRecDepth 100000
theorem Aby.ext{e:TypeId}{sz lo:Nat}{h h':H}{v:AV}{L:List (List AV)}(hb:Aby e sz lo h v L)(x:Exh h h'):Aby e sz lo h' v L:=by
 rcases hb with⟨rfl,q,rfl,hq,ha⟩|hb
 · exact .inl ⟨rfl,q,rfl,Nat.lt_of_lt_of_le hq x.1,by rw[x.2 q hq];exact ha⟩
 · exact .inr (hb.ext x)
theorem Aby.lit{e:TypeId}{sz lo:Nat}{h:H}:Aby e sz lo (h.new (.row .e 0 0 e true)) (.slice h.next 0 0 sz true) []:=.inl ⟨rfl,h.next,rfl,by rw[Bf];omega,Bc _ _⟩
theorem Po{e:TypeId}{sz lo:Nat}{ei:TI}{h:H}{v:AV}{L:List (List AV)}{ds:List AV}{t:Tm}(hb:Aby e sz lo h v L)(hd:ds.length=sz)(hsz:ei.size=sz)(hf:Bv ei (L.length+1)=true)(hlo:lo≤h.next.nat){k:KV}(hk:∀v' h',Cb e sz lo h' v' (L++[ds])→KpS e lo h h'→k v' h'):
 oK (Co (some false) v (.slice h.next 0 1 sz true) (h.new (.row (Aj ds 0 t) sz 0 e true)) e ei) k:=
 Aq1 (M:=[ds]) (hb.ext .new) (by rw[Yn hd];simp) (fun c hc=>by simp at hc;rw[hc];exact hd) hsz hf (Nat.le_trans hlo (by rw[Bf];omega)) fun v' h' _ b x=>hk v' h' (b (by simp)) ((Exh.kps .new).trans x)
theorem Bmw(h:H):Ap env 32 (fun e ei=>Ak 0 [] h e ei)=some (.slice h.next 0 0 1 true,h.new (.row .e 0 0 9 true)):=by kernel_rfl
theorem Bmy(h:H):Ap env 38 (fun e ei=>Ak 0 [] h e ei)=some (.slice h.next 0 0 1 true,h.new (.row .e 0 0 3 true)):=by kernel_rfl
theorem A70(h:H):Ap env 55 (fun e ei=>Ak 0 [] h e ei)=some (.slice h.next 0 0 2 true,h.new (.row .e 0 0 134 true)):=by kernel_rfl
def Z3:Tm:=Aj [.int .i64 (.ofNat 0)] 0 .e
theorem Ba6(n:Int)(h:H):Ap env 38 (fun e ei=>Ak 1 [(0,.int .i64 n)] h e ei)=some (.slice h.next 0 1 1 true,h.new (.row (Aj [.int .i64 n] 0 Z3) 1 0 3 true)):=by kernel_rfl
theorem Ayj(x y:AV)(h:H):Ar env .append [38,38] [x,y] h=Co (some false) x y h 3 (Hz 3):=by kernel_rfl
theorem sz3:(Hz 3).size=1:=by kernel_rfl
theorem Av0{n:Nat}(hn:n≤1099511627776):Bv (Hz 3) n=true:=Lv (by kernel_rfl) (by kernel_rfl) hn
def Bpf:Tm:=Aj [.str 0 0,.str 0 0] 0 .e
theorem Bba(a b:AV)(h:H):Ap env 55 (fun e ei=>Ak 1 [(0,.agg [a,b])] h e ei)=some (.slice h.next 0 1 2 true,h.new (.row (Aj [a,b] 0 Bpf) 2 0 134 true)):=by kernel_rfl
theorem Ayi(x y:AV)(h:H):Ar env .append [55,55] [x,y] h=Co (some false) x y h 134 (Hz 134):=by kernel_rfl
theorem Asy:(Hz 134).size=2:=by kernel_rfl
theorem Af4{n:Nat}(hn:n≤1099511627776):Bv (Hz 134) n=true:=Lv (by kernel_rfl) (by kernel_rfl) hn
theorem A86(l c m d:Nat)(h:H):Ax env (env.ty 134) [(0,.str l c),(1,.str m d)] h=some (.agg [.str l c,.str m d],h):=by kernel_rfl
theorem Bja(q:P)(o n:Nat)(b:Bool)(k:Nat)(h:H):slice3 env h 55 (.slice q o n 2 b) (some (Bp (.int .i64 (Int.ofNat k)))) none none=Fm h (Ma q o n 2 b k n none):=by kernel_rfl
theorem Bi9(q:P)(o n:Nat)(b:Bool)(k:Nat)(h:H):slice3 env h 55 (.slice q o n 2 b) none (some (Bp (.int .i64 (Int.ofNat k)))) none=Fm h (Ma q o n 2 b 0 k none):=by kernel_rfl
theorem Bao(h:H):slice3 env h 55 .Ai (some (Bp (.int .i64 (Int.ofNat 0)))) none none=some (.Ai,h):=by kernel_rfl
theorem Ban(h:H):slice3 env h 55 .Ai none (some (Bp (.int .i64 (Int.ofNat 0)))) none=some (.Ai,h):=by kernel_rfl
theorem Ag2.sub{sz o lo n:Nat}{t:Nat→AV}{L:List (List AV)}(hr:Ag2 sz o t L):Ag2 sz (o+lo*sz) t ((L.drop lo).take n):=by
 intro i hi'
 have h1:lo+i<L.length:=by rw[List.length_take,List.length_drop] at hi';omega
 rw[List.getElem_take,List.getElem_drop]
 refine⟨(hr (lo+i) h1).1,fun j hj=>?_⟩
 have:=(hr (lo+i) h1).2 j hj
 rw[←this]
 congr 1
 rw[Nat.add_mul];omega
theorem SlR.Bom{h:H}{v:AV}{L:List (List AV)}(hr:SlR 2 h v L){k:Nat}(hk:k≤L.length){K:KV}(hK:∀v',SlR 2 h v' (L.drop k)→K v' h):oK (slice3 env h 55 v (some (Bp (.int .i64 (Int.ofNat k)))) none none) K:=by
 rcases hr with⟨rfl,rfl⟩|⟨q,o,c,m,b,rfl,a1,a2,a3,a4⟩
 · have:k=0:=by simpa using hk
   subst this
   rw[Bao,Ad]
   exact hK _ (.inl ⟨rfl,rfl⟩)
 · rw[Bja]
   unfold Ma
   rw[Nat.ble_eq_true_of_le hk,Nat.ble_eq_true_of_le (Nat.le_refl L.length)]
   show oK (some (.slice q (o+k*2) (L.length-k) 2 (An b (Nat.beq L.length L.length)),h)) _
   rw[Ad]
   have e:=Ag2.sub (lo:=k) (n:=L.length-k) a4
   have hl:(L.drop k).length=L.length-k:=List.length_drop ..
   rw[List.take_of_length_le (by rw[hl];exact Nat.le_refl _)] at e
   exact hK _ (.inr ⟨q,_,c,m,_,by rw[hl],a1,a2,by rw[hl];omega,e⟩)
theorem SlR.Bon{h:H}{v:AV}{L:List (List AV)}(hr:SlR 2 h v L){k:Nat}(hk:k≤L.length){K:KV}(hK:∀v',SlR 2 h v' (L.take k)→K v' h):oK (slice3 env h 55 v none (some (Bp (.int .i64 (Int.ofNat k)))) none) K:=by
 rcases hr with⟨rfl,rfl⟩|⟨q,o,c,m,b,rfl,a1,a2,a3,a4⟩
 · have:k=0:=by simpa using hk
   subst this
   rw[Ban,Ad]
   exact hK _ (.inl ⟨rfl,rfl⟩)
 · rw[Bi9]
   unfold Ma
   rw[Nat.ble_eq_true_of_le (Nat.zero_le k),Nat.ble_eq_true_of_le hk]
   show oK (some (.slice q (o+0*2) (k-0) 2 (An b (Nat.beq k L.length)),h)) _
   rw[Ad,Nat.sub_zero]
   have e:=Ag2.sub (lo:=0) (n:=k) a4
   have hl:(L.take k).length=k:=by rw[List.length_take];omega
   rw[List.drop_zero] at e
   exact hK _ (.inr ⟨q,_,c,m,_,by rw[hl],a1,a2,by rw[hl];omega,e⟩)
def Mv(ns:List (List UInt8)):List (List AV):=ns.map fun _=>[.int .i64 (.ofNat 1)]
theorem Ah2(ns:List (List UInt8)):(Mv ns).length=ns.length:=List.length_map ..
def Ny(pm:P)(v:AV):Prop:=∀q o n z b,v=.slice q o n z b→q≠pm
theorem Cb.apart{e:TypeId}{sz lo:Nat}{h:H}{v:AV}{L:List (List AV)}(hb:Cb e sz lo h v L){pm:P}(hp:pm.nat<lo):Ny pm v:=fun q o n z b ev e'=>by
 rcases hb with⟨rfl,_⟩|⟨q',t,m,z',w,rfl,h1,_⟩
 · cases ev
 · cases ev;subst e';omega
theorem SlR.put{sz:Nat}{h:H}{v:AV}{L:List (List AV)}(hr:SlR sz h v L){pm:P}(ha:Ny pm v){o:Ob FT}:SlR sz (h.put pm o) v L:=hr.frx (X:=fun c=>c=pm) (.put rfl) fun q o n z b e=>ha q o n z b e
abbrev TRf:TypeId:=57
theorem A32 {h : H} {pm : P} {t : Tm} {ns : List (List UInt8)} {p : List UInt8} (ha : h.at pm = .row t 4 0 TRf true) (nm : pm.nat < h.next.nat) (h2 : SlR 1 h (Aw t 2) (scs ns)) (h3 : SlR 1 h (Aw t 3) (Mv ns)) (a2 : Ny pm (Aw t 2)) (a3 : Ny pm (Aw t 3)) (hp : p ∉ ns) (hn : ns.length ≤ 1000) {k : KV}
    (hk : ∀ h' t', FrX (fun c => c = pm) h h' → h'.at pm = .row t' 4 0 TRf true → Aw t' 1 = Aw t 1 → SlR 1 h' (Aw t' 2) (scs (ns ++ [p])) → SlR 1 h' (Aw t' 3) (Mv (ns ++ [p])) → Ny pm (Aw t' 2) → Ny pm (Aw t' 3) → k (.tuple []) h') : ∀ (n i : Nat), ns.length - i < n → i ≤ ns.length → (r55 W1 k n).a1 (.ptr pm 0) p.length (enc p) (Int.ofNat i) h
  | 0, _, hh, _ => absurd hh (Nat.not_lt_zero _)
  | n + 1, i, hh, hi => by
    refine Bew ?_
    unfold Ank
    rw [Am, Ad, Ae]
    refine Eh ha (by decide) ?_
    rw [h2.len, Fc, ilt]
    refine Br (fun e => ?_) (fun e => ?_)
    · have e : i < ns.length := of_decide_eq_true e
      have e' : i < (scs ns).length := by rw [Fc]; exact e
      rw [Am, Ad, Ae]
      refine Eh ha (by decide) ?_
      refine Dg ((h2.rd e').elem e' fun q o _ _ hq => ?_)
      rw [Of e] at hq
      refine hq.ld1 (j := 0) (by show 0 < 1; decide) ?_
      show asS (S ns[i]) _
      rw [Eg, Qj (fun w => hp (by rw [← w]; exact List.getElem_mem e))]
      refine Cp rfl (Bw (by omega) ?_)
      exact A32 ha nm h2 h3 a2 a3 hp hn hk n (i + 1) (by omega) e
    · rw [Bmw, Ad]
      have x1 : Exh h (h.new (.row .e 0 0 9 true)) := .new
      have b1 : Aby 9 1 h.next.nat (h.new (.row .e 0 0 9 true)) (.slice h.next 0 0 1 true) [] := .lit
      generalize h.new (.row .e 0 0 9 true) = h1 at x1 b1 ⊢
      have x11 := x1.1
      rw [Am, Ad, Ae]
      refine Eh (by rw [x1.2 pm nm]; exact ha) (by decide) ?_
      rw [Ayk]
      refine Aq1 (M := scs ns) b1 (Jt (h2.ext x1)) h2.Tv sz9 (Avz (by rw [Fc]; show 0 + ns.length ≤ _; omega)) x11 fun v2 g2 b2 _ k2 => ?_
      have x2 : Exh h g2 := k2.exh x1 (Nat.le_refl _)
      rw [Bjt, Ad, Ayk]
      refine Po (ds := [S p]) b2 rfl sz9 (Avz (by rw [List.nil_append, Fc]; omega)) x2.1 fun v3 g3 b3 k3 => ?_
      have x3 : Exh h g3 := k3.exh x2 (Nat.le_refl _)
      rw [List.nil_append, ← Ahi] at b3
      rw [Am, Ad, Ae]
      have p3 : g3.at pm = .row t 4 0 TRf true := by rw [x3.2 pm nm]; exact ha
      have ap3 : Ny pm v3 := b3.apart nm
      refine Iw p3 (Nat.zero_le _) (by decide) b3.one ?_
      have b4 : SlR 1 (g3.put pm (.row (Aj [v3] (0 + 2) t) 4 0 TRf true)) v3 (scs (ns ++ [p])) := b3.slr.put ap3
      have p4 : (g3.put pm (.row (Aj [v3] (0 + 2) t) 4 0 TRf true)).at pm = .row (Aj [v3] 2 t) 4 0 TRf true := Ba _ _ _
      have s4 : SlR 1 (g3.put pm (.row (Aj [v3] (0 + 2) t) 4 0 TRf true)) (Aw t 3) (Mv ns) := (h3.ext x3).put a3
      have x4 : FrX (fun c => c = pm) h (g3.put pm (.row (Aj [v3] (0 + 2) t) 4 0 TRf true)) := x3.frx.trans (.put rfl)
      generalize g3.put pm (.row (Aj [v3] (0 + 2) t) 4 0 TRf true) = h4 at b4 p4 s4 x4 ⊢
      have x41 := x4.1
      have nm4 : pm.nat < h4.next.nat := by omega
      rw [Bmy, Ad]
      have x5 : Exh h4 (h4.new (.row .e 0 0 3 true)) := .new
      have b5 : Aby 3 1 h4.next.nat (h4.new (.row .e 0 0 3 true)) (.slice h4.next 0 0 1 true) [] := .lit
      generalize h4.new (.row .e 0 0 3 true) = h5 at x5 b5 ⊢
      have t3 : Aw (Aj [v3] 2 t) 3 = Aw t 3 := by rw [Ah]; simp
      rw [Am, Ad, Ae]
      refine Eh (by rw [x5.2 pm nm4]; exact p4) (by decide) ?_
      rw [t3, Ayj]
      refine Aq1 (M := Mv ns) b5 (Jt (s4.ext x5)) h3.Tv sz3 (Av0 (by rw [Ah2]; show 0 + ns.length ≤ _; omega)) x5.1 fun v6 g6 b6 _ k6 => ?_
      have x6 : Exh h4 g6 := k6.exh x5 (Nat.le_refl _)
      rw [Ba6, Ad, Ayj]
      refine Po (ds := [.int .i64 (.ofNat 1)]) b6 rfl sz3 (Av0 (by rw [List.nil_append, Ah2]; omega)) x6.1 fun v7 g7 b7 k7 => ?_
      have x7 : Exh h4 g7 := k7.exh x6 (Nat.le_refl _)
      rw [Am, Ad, Ae]
      have p7 : g7.at pm = .row (Aj [v3] 2 t) 4 0 TRf true := by rw [x7.2 pm nm4]; exact p4
      have ap7 : Ny pm v7 := b7.apart nm4
      refine Iw p7 (Nat.zero_le _) (by decide) b7.one ?_
      have eo : [] ++ Mv ns ++ [[.int .i64 (.ofNat 1)]] = Mv (ns ++ [p]) := by unfold Mv; rw [List.map_append]; rfl
      rw [eo] at b7
      have e1 : Aw (Aj [v7] (0 + 3) (Aj [v3] 2 t)) 1 = Aw t 1 := by rw [Ah, Ah]; simp
      have e2 : Aw (Aj [v7] (0 + 3) (Aj [v3] 2 t)) 2 = v3 := by rw [Ah, Ah]; simp
      have e3 : Aw (Aj [v7] (0 + 3) (Aj [v3] 2 t)) 3 = v7 := by rw [Ah]; simp
      refine hk _ _ ((x4.trans x7.frx).trans (.put rfl)) (Ba _ _ _) e1 ?_ ?_ ?_ ?_
      · rw [e2]; exact (b4.ext x7).put ap3
      · rw [e3]; exact b7.slr.put ap7
      · rw [e2]; exact ap3
      · rw [e3]; exact ap7
structure Wb(h:H)(pm:P)(ls:List Fl)(ns:List (List UInt8)):Prop where
 nm:pm.nat<h.next.nat
 row:∃t,h.at pm=.row t 4 0 TRf true∧(SlR 2 h (Aw t 1) (fcs ls)∧SlR 1 h (Aw t 2) (scs ns)∧SlR 1 h (Aw t 3) (Mv ns))∧Ny pm (Aw t 1)∧Ny pm (Aw t 2)∧Ny pm (Aw t 3)
 ris:Ris ls
 len:ls.length≤1000
 Bmq:ns.length≤1000
 nms:∀s∈ns,Bl ls s≠none
theorem Wb.d{h:H}{pm:P}{ls:List Fl}{ns:List (List UInt8)}(t:Wb h pm ls ns):Bbl h pm ls ns:=by
 obtain⟨tt,h1,h2,_⟩:=t.row
 exact⟨t.nm,⟨tt,h1,h2⟩,t.ris,t.len⟩
theorem Wb.frx{X:P→Prop}{h h':H}{pm:P}{ls:List Fl}{ns:List (List UInt8)}(t:Wb h pm ls ns)(x:FrX X h h')(hX:∀q,(∃c m,We h q c m)→¬X q):Wb h' pm ls ns:=by
 obtain⟨tt,h1,⟨h2,h3,h4⟩,h5⟩:=t.row
 have g:∀{sz:Nat}{v:AV}{L:List (List AV)},SlR sz h v L→SlR sz h' v L:=fun r=>by
  rcases r with r|⟨q,o,c,m,b,rfl,a1,a2,a3,a4⟩
  · exact .inl r
  · exact .inr ⟨q,o,c,m,b,rfl,Nat.lt_of_lt_of_le a1 x.1,a2.frame (x.2 q a1 (hX q ⟨c,m,a2⟩)),a3,a4⟩
 exact⟨Nat.lt_of_lt_of_le t.nm x.1,⟨tt,by rw[x.2 pm t.nm (hX pm ⟨_,_,.inl ⟨_,_,_,_,h1,rfl⟩⟩)];exact h1,⟨g h2,g h3,g h4⟩,h5⟩,t.ris,t.len,t.Bmq,t.nms⟩
theorem A1h(ls:List Fl)(p x:List UInt8):[]++(fcs ls).take (kAt ls p)++[[S p,S x]]++(fcs ls).drop (kAt ls p)=fcs (Sn p x ls):=by
 unfold fcs
 rw[Afs,List.map_append,List.map_cons,List.map_take,List.map_drop,List.nil_append,List.append_assoc];rfl
theorem Air(ls:List Fl)(p x:List UInt8):(Sn p x ls).length=ls.length+1:=by
 have:=Afp ls p
 rw[Afs,List.length_append,List.length_cons,List.length_take,List.length_drop];omega
theorem c31{h:H}{pm:P}{ls:List Fl}{ns:List (List UInt8)}{p x:List UInt8}(tb:Wb h pm ls ns)(hl:ls.length<50)(hl2:ns.length<50)(hn:Bl ls p=none){k:KV}
 (hk:∀h',FrX (fun c=>c=pm) h h'→Wb h' pm (Sn p x ls) (ns++[p])→k (.tuple []) h'):W1 (.func 31) [.ptr pm 0,S p,S x] h k:=by
 obtain⟨t,h1,⟨h2,h3,h4⟩,a1,a2,a3⟩:=tb.row
 have nm:=tb.nm
 have hp:p∉ns:=fun w=>tb.nms p w hn
 have hkl:=Afp ls p
 refine w31 (n:=2) Bg (g31 ?_)
 unfold Aoi
 refine c29 tb.d ?_
 rw[Hu,Bj,Ht,hn]
 show asB (.bool false) _
 rw[Bn,Am,Ad,Ae]
 refine Eh h1 (by decide) ?_
 refine h2.Bom (k:=kAt ls p) (by rw[Je];exact hkl) fun v5 r5=>?_
 refine Cp rfl ?_
 refine Bfb ?_
 unfold Aoh
 rw[A70,Ad]
 have x1:Exh h (h.new (.row .e 0 0 134 true)):=.new
 have b1:Aby 134 2 h.next.nat (h.new (.row .e 0 0 134 true)) (.slice h.next 0 0 2 true) []:=.lit
 generalize h.new (.row .e 0 0 134 true)=g1 at x1 b1 ⊢
 rw[Am,Ad,Ae]
 refine Eh (by rw[x1.2 pm nm];exact h1) (by decide) ?_
 refine(h2.ext x1).Bon (k:=kAt ls p) (by rw[Je];exact hkl) fun v6 r6=>?_
 have lt:((fcs ls).take (kAt ls p)).length=kAt ls p:=by rw[List.length_take,Je];omega
 rw[Ayi]
 refine Aq1 b1 (Jt r6) r6.Tv Asy (Af4 (by rw[lt];show 0+kAt ls p≤_;omega)) x1.1 fun v7 g7 b7 _ k7=>?_
 have x7:Exh h g7:=k7.exh x1 (Nat.le_refl _)
 rw[A86,Ad,Bba,Ad,Ayi]
 refine Po (ds:=[S p,S x]) b7 rfl Asy (Af4 (by rw[List.nil_append,lt];omega)) x7.1 fun v8 g8 b8 k8=>?_
 have x8:Exh h g8:=k8.exh x7 (Nat.le_refl _)
 rw[Ayi]
 refine Agx b8 (Jt (r5.ext x8)) r5.Tv Asy (Af4 (by rw[List.length_append,List.nil_append,lt,List.length_drop,Je];simp;omega)) x8.1 fun v9 g9 b9 k9=>?_
 have x9:Exh h g9:=k9.exh x8 (Nat.le_refl _)
 rw[A1h] at b9
 rw[Am,Ad,Ae]
 have p9:g9.at pm=.row t 4 0 TRf true:=by rw[x9.2 pm nm];exact h1
 have ap9:Ny pm v9:=b9.apart nm
 refine Iw p9 (Nat.zero_le _) (by decide) b9.one ?_
 have s1:SlR 2 (g9.put pm (.row (Aj [v9] (0+1) t) 4 0 TRf true)) v9 (fcs (Sn p x ls)):=b9.slr.put ap9
 have s2:SlR 1 (g9.put pm (.row (Aj [v9] (0+1) t) 4 0 TRf true)) (Aw t 2) (scs ns):=(h3.ext x9).put a2
 have s3:SlR 1 (g9.put pm (.row (Aj [v9] (0+1) t) 4 0 TRf true)) (Aw t 3) (Mv ns):=(h4.ext x9).put a3
 have p10:(g9.put pm (.row (Aj [v9] (0+1) t) 4 0 TRf true)).at pm=.row (Aj [v9] (0+1) t) 4 0 TRf true:=Ba _ _ _
 have x10:FrX (fun c=>c=pm) h (g9.put pm (.row (Aj [v9] (0+1) t) 4 0 TRf true)):=x9.frx.trans (.put rfl)
 have e1:Aw (Aj [v9] (0+1) t) 1=v9:=by rw[Ah];simp
 have e2:Aw (Aj [v9] (0+1) t) 2=Aw t 2:=by rw[Ah];simp
 have e3:Aw (Aj [v9] (0+1) t) 3=Aw t 3:=by rw[Ah];simp
 generalize g9.put pm (.row (Aj [v9] (0+1) t) 4 0 TRf true)=h10 at s1 s2 s3 p10 x10 ⊢
 generalize Aj [v9] (0+1) t=t10 at p10 e1 e2 e3
 rw[←e2] at s2 a2
 rw[←e3] at s3 a3
 rw[←e1] at s1 ap9
 have nm10:pm.nat<h10.next.nat:=Nat.lt_of_lt_of_le nm x10.1
 refine w55 (n:=ns.length+2) Bg (g55 ?_)
 unfold Anl
 refine A32 p10 nm10 s2 s3 a2 a3 hp (by omega) (fun h11 t11 x11 p11 q1 q2 q3 q4 q5=>?_) _ 0 (by omega) (Nat.zero_le _)
 refine hk h11 (x10.trans x11) ⟨Nat.lt_of_lt_of_le nm10 x11.1,⟨t11,p11,⟨?_,q2,q3⟩,?_,q4,q5⟩,Aiq tb.ris hn,by rw[Air];omega,by rw[List.length_append];simp;omega,fun s hs=>?_⟩
 · rw[q1];exact s1.frx x11 fun q o n z b e=>ap9 q o n z b e
 · rw[q1];exact ap9
 · rw[Wu hn]
   rcases List.mem_append.1 hs with hs|hs
   · by_cases e:p=s
     · rw[if_pos e];exact fun q=>by cases q
     · rw[if_neg e];exact tb.nms s hs
   · rw[List.mem_singleton.1 hs,if_pos rfl];exact fun q=>by cases q
def crL(ls:List Fl)(p x:List UInt8):List Fl:=if crE ls p=0 then Sn p x ls else ls
def crN(ls:List Fl)(p:List UInt8)(ns:List (List UInt8)):List (List UInt8):=if crE ls p=0 then ns++[p] else ns
theorem c15{h:H}{pm:P}{ls:List Fl}{ns:List (List UInt8)}{p x:List UInt8}(tb:Wb h pm ls ns)(hl:ls.length<50)(hl2:ns.length<50)(hp:p.length≤1000000)(hx:x.length≤2048){k:KV}
 (hk:∀h',FrX (fun c=>c=pm) h h'→Wb h' pm (crL ls p x) (crN ls p ns)→k (.int .i64 (Int.ofNat (crE ls p))) h'):W1 (.func 15) [.ptr pm 0,S p,S x] h k:=by
 have keep:∀{h':H},Exh h h'→Wb h' pm ls ns:=fun x=>tb.frx (X:=fun _=>False) x.frx fun _ _ q=>q
 refine w15 (n:=1) Bg (g15 ?_)
 unfold Ao1
 refine c29 tb.d ?_
 rw[Hu,Bj,Ht,Bn]
 refine c30 hp fun h1 x1=>?_
 have tb1:=keep x1
 rw[Bn,Gv]
 refine Br (fun e=>?_) (fun e=>?_)
 · have e:Me p=false:=by cases w:Me p with
    |true=>rw[w] at e;cases e
    |false=>rfl
   have e1:crE ls p=1:=by unfold crE;rw[if_neg (by rw[e];decide)]
   have e2:crL ls p x=ls:=by unfold crL;rw[e1];rfl
   have e3:crN ls p ns=ns:=by unfold crN;rw[e1];rfl
   rw[e1,e2,e3] at hk
   exact hk _ x1.frx tb1
 have e:Me p=true:=by cases w:Me p with
  |true=>rfl
  |false=>rw[w] at e;cases e
 refine Br (fun q=>?_) (fun q=>?_)
 · have e1:crE ls p=3:=by unfold crE;rw[if_pos e,if_pos q]
   have e2:crL ls p x=ls:=by unfold crL;rw[e1];rfl
   have e3:crN ls p ns=ns:=by unfold crN;rw[e1];rfl
   rw[e1,e2,e3] at hk
   exact hk _ x1.frx tb1
 have hn:Bl ls p=none:=by
  cases w:Bl ls p with
  |none=>rfl
  |some y=>rw[w] at q;cases q
 have e1:crE ls p=0:=Awy.2 ⟨e,hn⟩
 have e2:crL ls p x=Sn p x ls:=by unfold crL;rw[if_pos e1]
 have e3:crN ls p ns=ns++[p]:=by unfold crN;rw[if_pos e1]
 rw[e1,e2,e3] at hk
 obtain⟨t,r1,⟨r2,_⟩,_⟩:=tb1.row
 rw[Am,Ad,Ae]
 refine Eh r1 (by decide) ?_
 rw[r2.len,Je,ile,decide_eq_false (by omega)]
 refine Qe (fun _=>?_) (fun q=>by cases q)
 rw[show Ca (Int.ofNat 65536) (Int.ofNat x.length)=decide (65536<x.length) from ilt _ _]
 refine Cp (decide_eq_false (by omega)) ?_
 refine c31 tb1 hl hl2 hn fun h2 x2 t2=>?_
 exact hk h2 (x1.frx.trans x2) t2
end Go.Den
