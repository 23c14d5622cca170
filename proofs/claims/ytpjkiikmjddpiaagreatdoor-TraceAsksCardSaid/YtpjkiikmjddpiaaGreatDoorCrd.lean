/-
  A part of the proof: the document's table of files: a file is made.
-/
import Derived.Test.YtpjkiikmjddpiaaGreatDoorCre
namespace Go.Den
open Go.RowKit
set_option maxRecDepth 100000
theorem BufQ.ext{e:TypeId}{sz lo:Nat}{h h':H}{v:AV}{L:List (List AV)}(hb:BufQ e sz lo h v L)(x:Exh h h'):BufQ e sz lo h' v L:=by
  rcases hb with⟨rfl,q,rfl,hq,ha⟩|hb
  · exact .inl ⟨rfl,q,rfl,Nat.lt_of_lt_of_le hq x.1,by rw[x.2 q hq];exact ha⟩
  · exact .inr (hb.ext x)
theorem BufQ.lit{e:TypeId}{sz lo:Nat}{h:H}:BufQ e sz lo (h.new (.row .e 0 0 e true)) (.slice h.next 0 0 sz true) []:=.inl ⟨rfl,h.next,rfl,by rw[next_new];omega,at_new_same _ _⟩
theorem app_q1{e:TypeId}{sz lo:Nat}{ei:TI}{h:H}{v:AV}{L:List (List AV)}{ds:List AV}{t:Tm}(hb:BufQ e sz lo h v L)(hd:ds.length=sz)(hsz:ei.size=sz)(hf:fitsMem ei (L.length+1)=true)(hlo:lo≤h.next.nat){k:KV}(hk:∀v' h',BufN e sz lo h' v' (L++[ds])→KpS e lo h h'→k v' h'):
    oK (exAppend (some false) v (.slice h.next 0 1 sz true) (h.new (.row (tlist ds 0 t) sz 0 e true)) e ei) k:=
  app_q (M:=[ds]) (hb.ext .new) (by rw[one_new hd];simp) (fun c hc=>by simp at hc;rw[hc];exact hd) hsz hf (Nat.le_trans hlo (by rw[next_new];omega)) fun v' h' _ b x=>hk v' h' (b (by simp)) ((Exh.kps .new).trans x)
/-! ### Literals -/
theorem lit9(h:H):withElem env 48 (fun e ei=>exBuildSlice 0 [] h e ei)=some (.slice h.next 0 0 1 true,h.new (.row .e 0 0 9 true)):=by kernel_rfl
theorem lit3(h:H):withElem env 33 (fun e ei=>exBuildSlice 0 [] h e ei)=some (.slice h.next 0 0 1 true,h.new (.row .e 0 0 3 true)):=by kernel_rfl
theorem lit99(h:H):withElem env 64 (fun e ei=>exBuildSlice 0 [] h e ei)=some (.slice h.next 0 0 2 true,h.new (.row .e 0 0 99 true)):=by kernel_rfl
noncomputable def Z3:Tm:=tlist [.int .i64 (.ofNat 0)] 0 .e
theorem bld3(n:Int)(h:H):withElem env 33 (fun e ei=>exBuildSlice 1 [(0,.int .i64 n)] h e ei)=some (.slice h.next 0 1 1 true,h.new (.row (tlist [.int .i64 n] 0 Z3) 1 0 3 true)):=by kernel_rfl
theorem app33(x y:AV)(h:H):builtinA env .append [33,33] [x,y] h=exAppend (some false) x y h 3 (eiOf 3):=by kernel_rfl
theorem sz3:(eiOf 3).size=1:=by kernel_rfl
theorem fits3{n:Nat}(hn:n≤1099511627776):fitsMem (eiOf 3) n=true:=fits_n (by kernel_rfl) (by kernel_rfl) hn
noncomputable def Z99:Tm:=tlist [.str 0 0,.str 0 0] 0 .e
theorem bld99(a b:AV)(h:H):withElem env 64 (fun e ei=>exBuildSlice 1 [(0,.agg [a,b])] h e ei)=some (.slice h.next 0 1 2 true,h.new (.row (tlist [a,b] 0 Z99) 2 0 99 true)):=by kernel_rfl
theorem app64(x y:AV)(h:H):builtinA env .append [64,64] [x,y] h=exAppend (some false) x y h 99 (eiOf 99):=by kernel_rfl
theorem sz99:(eiOf 99).size=2:=by kernel_rfl
theorem fits99{n:Nat}(hn:n≤1099511627776):fitsMem (eiOf 99) n=true:=fits_n (by kernel_rfl) (by kernel_rfl) hn
theorem exB99(l c m d:Nat)(h:H):exBuild env (env.ty 99) [(0,.str l c),(1,.str m d)] h=some (.agg [.str l c,.str m d],h):=by kernel_rfl
theorem cutL0(q:P)(o n:Nat)(b:Bool)(k:Nat)(h:H):slice3 env h 64 (.slice q o n 2 b) (some (natOf (.int .i64 (Int.ofNat k)))) none none=withH h (cutRow q o n 2 b k n none):=by kernel_rfl
theorem cutL1(q:P)(o n:Nat)(b:Bool)(k:Nat)(h:H):slice3 env h 64 (.slice q o n 2 b) none (some (natOf (.int .i64 (Int.ofNat k)))) none=withH h (cutRow q o n 2 b 0 k none):=by kernel_rfl
theorem cutLn0(h:H):slice3 env h 64 .nils (some (natOf (.int .i64 (Int.ofNat 0)))) none none=some (.nils,h):=by kernel_rfl
theorem cutLn1(h:H):slice3 env h 64 .nils none (some (natOf (.int .i64 (Int.ofNat 0)))) none=some (.nils,h):=by kernel_rfl
theorem RowF.sub{sz o lo n:Nat}{t:Nat→AV}{L:List (List AV)}(hr:RowF sz o t L):RowF sz (o+lo*sz) t ((L.drop lo).take n):=by
  intro i hi'
  have h1:lo+i<L.length:=by rw[List.length_take,List.length_drop] at hi';omega
  rw[List.getElem_take,List.getElem_drop]
  refine⟨(hr (lo+i) h1).1,fun j hj=>?_⟩
  have:=(hr (lo+i) h1).2 j hj
  rw[←this]
  congr 1
  rw[Nat.add_mul];omega
theorem SlR.cut2{h:H}{v:AV}{L:List (List AV)}(hr:SlR 2 h v L){k:Nat}(hk:k≤L.length){K:KV}(hK:∀v',SlR 2 h v' (L.drop k)→K v' h):oK (slice3 env h 64 v (some (natOf (.int .i64 (Int.ofNat k)))) none none) K:=by
  rcases hr with⟨rfl,rfl⟩|⟨q,o,c,m,b,rfl,a1,a2,a3,a4⟩
  · have:k=0:=by simpa using hk
    subst this
    rw[cutLn0,oK_some]
    exact hK _ (.inl ⟨rfl,rfl⟩)
  · rw[cutL0]
    unfold cutRow
    rw[Nat.ble_eq_true_of_le hk,Nat.ble_eq_true_of_le (Nat.le_refl L.length)]
    show oK (some (.slice q (o+k*2) (L.length-k) 2 (band b (Nat.beq L.length L.length)),h)) _
    rw[oK_some]
    have e:=RowF.sub (lo:=k) (n:=L.length-k) a4
    have hl:(L.drop k).length=L.length-k:=List.length_drop ..
    rw[List.take_of_length_le (by rw[hl];exact Nat.le_refl _)] at e
    exact hK _ (.inr ⟨q,_,c,m,_,by rw[hl],a1,a2,by rw[hl];omega,e⟩)
theorem SlR.cut1{h:H}{v:AV}{L:List (List AV)}(hr:SlR 2 h v L){k:Nat}(hk:k≤L.length){K:KV}(hK:∀v',SlR 2 h v' (L.take k)→K v' h):oK (slice3 env h 64 v none (some (natOf (.int .i64 (Int.ofNat k)))) none) K:=by
  rcases hr with⟨rfl,rfl⟩|⟨q,o,c,m,b,rfl,a1,a2,a3,a4⟩
  · have:k=0:=by simpa using hk
    subst this
    rw[cutLn1,oK_some]
    exact hK _ (.inl ⟨rfl,rfl⟩)
  · rw[cutL1]
    unfold cutRow
    rw[Nat.ble_eq_true_of_le (Nat.zero_le k),Nat.ble_eq_true_of_le hk]
    show oK (some (.slice q (o+0*2) (k-0) 2 (band b (Nat.beq k L.length)),h)) _
    rw[oK_some,Nat.sub_zero]
    have e:=RowF.sub (lo:=0) (n:=k) a4
    have hl:(L.take k).length=k:=by rw[List.length_take];omega
    rw[List.drop_zero] at e
    exact hK _ (.inr ⟨q,_,c,m,_,by rw[hl],a1,a2,by rw[hl];omega,e⟩)
/-! ### How often a path was changed -/
def ones(ns:List (List UInt8)):List (List AV):=ns.map fun _=>[.int .i64 (.ofNat 1)]
theorem ones_len(ns:List (List UInt8)):(ones ns).length=ns.length:=List.length_map ..
def Apart(pm:P)(v:AV):Prop:=∀q o n z b,v=.slice q o n z b→q≠pm
theorem BufN.apart{e:TypeId}{sz lo:Nat}{h:H}{v:AV}{L:List (List AV)}(hb:BufN e sz lo h v L){pm:P}(hp:pm.nat<lo):Apart pm v:=fun q o n z b ev e'=>by
  rcases hb with⟨rfl,_⟩|⟨q',t,m,z',w,rfl,h1,_⟩
  · cases ev
  · cases ev;subst e';omega
theorem SlR.put{sz:Nat}{h:H}{v:AV}{L:List (List AV)}(hr:SlR sz h v L){pm:P}(ha:Apart pm v){o:Ob FT}:SlR sz (h.put pm o) v L:=hr.frx (X:=fun c=>c=pm) (.put rfl) fun q o n z b e=>ha q o n z b e
abbrev TRf:TypeId:=66
theorem c63_1 {h : H} {pm : P} {t : Tm} {ns : List (List UInt8)} {p : List UInt8} (ha : h.at pm = .row t 4 0 TRf true) (nm : pm.nat < h.next.nat) (h2 : SlR 1 h (tget t 2) (scs ns)) (h3 : SlR 1 h (tget t 3) (ones ns)) (a2 : Apart pm (tget t 2)) (a3 : Apart pm (tget t 3)) (hp : p ∉ ns) (hn : ns.length ≤ 1000) {k : KV}
    (hk : ∀ h' t', FrX (fun c => c = pm) h h' → h'.at pm = .row t' 4 0 TRf true → tget t' 1 = tget t 1 → SlR 1 h' (tget t' 2) (scs (ns ++ [p])) → SlR 1 h' (tget t' 3) (ones (ns ++ [p])) → Apart pm (tget t' 2) → Apart pm (tget t' 3) → k (.tuple []) h') : ∀ (n i : Nat), ns.length - i < n → i ≤ ns.length → (r63 W1 k n).a1 (.ptr pm 0) p.length (enc p) (Int.ofNat i) h
  | 0, _, hh, _ => absurd hh (Nat.not_lt_zero _)
  | n + 1, i, hh, hi => by
    refine j63_1 ?_
    unfold s63_1
    rw [exNil_p, oK_some, fAddr_i]
    refine ld1_i ha (by decide) ?_
    rw [h2.len, scs_len, ilt]
    refine cnd_i (fun e => ?_) (fun e => ?_)
    · have e : i < ns.length := of_decide_eq_true e
      have e' : i < (scs ns).length := by rw [scs_len]; exact e
      rw [exNil_p, oK_some, fAddr_i]
      refine ld1_i ha (by decide) ?_
      refine natI_go ((h2.rd e').elem e' fun q o _ _ hq => ?_)
      rw [scs_get e] at hq
      refine hq.ld1 (j := 0) (by show 0 < 1; decide) ?_
      show asS (S ns[i]) _
      rw [asS_s, strEq_ne (fun w => hp (by rw [← w]; exact List.getElem_mem e))]
      refine cnd_f rfl (fIadd (by omega) ?_)
      exact c63_1 ha nm h2 h3 a2 a3 hp hn hk n (i + 1) (by omega) e
    · rw [lit9, oK_some]
      have x1 : Exh h (h.new (.row .e 0 0 9 true)) := .new
      have b1 : BufQ 9 1 h.next.nat (h.new (.row .e 0 0 9 true)) (.slice h.next 0 0 1 true) [] := .lit
      generalize h.new (.row .e 0 0 9 true) = h1 at x1 b1 ⊢
      have x11 := x1.1
      rw [exNil_p, oK_some, fAddr_i]
      refine ld1_i (by rw [x1.2 pm nm]; exact ha) (by decide) ?_
      rw [app48]
      refine app_q (M := scs ns) b1 (cells_slr (h2.ext x1)) h2.all_sz sz9 (fits9 (by rw [scs_len]; show 0 + ns.length ≤ _; omega)) x11 fun v2 g2 b2 _ k2 => ?_
      have x2 : Exh h g2 := k2.exh x1 (Nat.le_refl _)
      rw [bld9, oK_some, app48]
      refine app_q1 (ds := [S p]) b2 rfl sz9 (fits9 (by rw [List.nil_append, scs_len]; omega)) x2.1 fun v3 g3 b3 k3 => ?_
      have x3 : Exh h g3 := k3.exh x2 (Nat.le_refl _)
      rw [List.nil_append, ← scs_snoc] at b3
      rw [exNil_p, oK_some, fAddr_i]
      have p3 : g3.at pm = .row t 4 0 TRf true := by rw [x3.2 pm nm]; exact ha
      have ap3 : Apart pm v3 := b3.apart nm
      refine st1_i p3 (Nat.zero_le _) (by decide) b3.one ?_
      have b4 : SlR 1 (g3.put pm (.row (tlist [v3] (0 + 2) t) 4 0 TRf true)) v3 (scs (ns ++ [p])) := b3.slr.put ap3
      have p4 : (g3.put pm (.row (tlist [v3] (0 + 2) t) 4 0 TRf true)).at pm = .row (tlist [v3] 2 t) 4 0 TRf true := at_put_same _ _ _
      have s4 : SlR 1 (g3.put pm (.row (tlist [v3] (0 + 2) t) 4 0 TRf true)) (tget t 3) (ones ns) := (h3.ext x3).put a3
      have x4 : FrX (fun c => c = pm) h (g3.put pm (.row (tlist [v3] (0 + 2) t) 4 0 TRf true)) := x3.frx.trans (.put rfl)
      generalize g3.put pm (.row (tlist [v3] (0 + 2) t) 4 0 TRf true) = h4 at b4 p4 s4 x4 ⊢
      have x41 := x4.1
      have nm4 : pm.nat < h4.next.nat := by omega
      rw [lit3, oK_some]
      have x5 : Exh h4 (h4.new (.row .e 0 0 3 true)) := .new
      have b5 : BufQ 3 1 h4.next.nat (h4.new (.row .e 0 0 3 true)) (.slice h4.next 0 0 1 true) [] := .lit
      generalize h4.new (.row .e 0 0 3 true) = h5 at x5 b5 ⊢
      have t3 : tget (tlist [v3] 2 t) 3 = tget t 3 := by rw [tget_tlist]; simp
      rw [exNil_p, oK_some, fAddr_i]
      refine ld1_i (by rw [x5.2 pm nm4]; exact p4) (by decide) ?_
      rw [t3, app33]
      refine app_q (M := ones ns) b5 (cells_slr (s4.ext x5)) h3.all_sz sz3 (fits3 (by rw [ones_len]; show 0 + ns.length ≤ _; omega)) x5.1 fun v6 g6 b6 _ k6 => ?_
      have x6 : Exh h4 g6 := k6.exh x5 (Nat.le_refl _)
      rw [bld3, oK_some, app33]
      refine app_q1 (ds := [.int .i64 (.ofNat 1)]) b6 rfl sz3 (fits3 (by rw [List.nil_append, ones_len]; omega)) x6.1 fun v7 g7 b7 k7 => ?_
      have x7 : Exh h4 g7 := k7.exh x6 (Nat.le_refl _)
      rw [exNil_p, oK_some, fAddr_i]
      have p7 : g7.at pm = .row (tlist [v3] 2 t) 4 0 TRf true := by rw [x7.2 pm nm4]; exact p4
      have ap7 : Apart pm v7 := b7.apart nm4
      refine st1_i p7 (Nat.zero_le _) (by decide) b7.one ?_
      have eo : [] ++ ones ns ++ [[.int .i64 (.ofNat 1)]] = ones (ns ++ [p]) := by unfold ones; rw [List.map_append]; rfl
      rw [eo] at b7
      have e1 : tget (tlist [v7] (0 + 3) (tlist [v3] 2 t)) 1 = tget t 1 := by rw [tget_tlist, tget_tlist]; simp
      have e2 : tget (tlist [v7] (0 + 3) (tlist [v3] 2 t)) 2 = v3 := by rw [tget_tlist, tget_tlist]; simp
      have e3 : tget (tlist [v7] (0 + 3) (tlist [v3] 2 t)) 3 = v7 := by rw [tget_tlist]; simp
      refine hk _ _ ((x4.trans x7.frx).trans (.put rfl)) (at_put_same _ _ _) e1 ?_ ?_ ?_ ?_
      · rw [e2]; exact (b4.ext x7).put ap3
      · rw [e3]; exact b7.slr.put ap7
      · rw [e2]; exact ap3
      · rw [e3]; exact ap7
/-! ### A file has a text -/
structure TabE(h:H)(pm:P)(ls:List Fl)(ns:List (List UInt8)):Prop where
  nm:pm.nat<h.next.nat
  row:∃t,h.at pm=.row t 4 0 TRf true∧(SlR 2 h (tget t 1) (fcs ls)∧SlR 1 h (tget t 2) (scs ns)∧SlR 1 h (tget t 3) (ones ns))∧Apart pm (tget t 1)∧Apart pm (tget t 2)∧Apart pm (tget t 3)
  ris:Ris ls
  len:ls.length≤1000
  nlen:ns.length≤1000
  nms:∀s∈ns,textOf ls s≠none
theorem TabE.d{h:H}{pm:P}{ls:List Fl}{ns:List (List UInt8)}(t:TabE h pm ls ns):TabD h pm ls ns:=by
  obtain⟨tt,h1,h2,_⟩:=t.row
  exact⟨t.nm,⟨tt,h1,h2⟩,t.ris,t.len⟩
theorem TabE.frx{X:P→Prop}{h h':H}{pm:P}{ls:List Fl}{ns:List (List UInt8)}(t:TabE h pm ls ns)(x:FrX X h h')(hX:∀q,(∃c m,CellF h q c m)→¬X q):TabE h' pm ls ns:=by
  obtain⟨tt,h1,⟨h2,h3,h4⟩,h5⟩:=t.row
  have g:∀{sz:Nat}{v:AV}{L:List (List AV)},SlR sz h v L→SlR sz h' v L:=fun r=>by
    rcases r with r|⟨q,o,c,m,b,rfl,a1,a2,a3,a4⟩
    · exact .inl r
    · exact .inr ⟨q,o,c,m,b,rfl,Nat.lt_of_lt_of_le a1 x.1,a2.frame (x.2 q a1 (hX q ⟨c,m,a2⟩)),a3,a4⟩
  exact⟨Nat.lt_of_lt_of_le t.nm x.1,⟨tt,by rw[x.2 pm t.nm (hX pm ⟨_,_,.inl ⟨_,_,_,_,h1,rfl⟩⟩)];exact h1,⟨g h2,g h3,g h4⟩,h5⟩,t.ris,t.len,t.nlen,t.nms⟩
theorem fcs_ins(ls:List Fl)(p x:List UInt8):[]++(fcs ls).take (kAt ls p)++[[S p,S x]]++(fcs ls).drop (kAt ls p)=fcs (insF p x ls):=by
  unfold fcs
  rw[insF_eq,List.map_append,List.map_cons,List.map_take,List.map_drop,List.nil_append,List.append_assoc];rfl
theorem insF_len(ls:List Fl)(p x:List UInt8):(insF p x ls).length=ls.length+1:=by
  have:=kAt_le ls p
  rw[insF_eq,List.length_append,List.length_cons,List.length_take,List.length_drop];omega
theorem c39{h:H}{pm:P}{ls:List Fl}{ns:List (List UInt8)}{p x:List UInt8}(tb:TabE h pm ls ns)(hl:ls.length<50)(hl2:ns.length<50)(hn:textOf ls p=none){k:KV}
    (hk:∀h',FrX (fun c=>c=pm) h h'→TabE h' pm (insF p x ls) (ns++[p])→k (.tuple []) h'):W1 (.func 39) [.ptr pm 0,S p,S x] h k:=by
  obtain⟨t,h1,⟨h2,h3,h4⟩,a1,a2,a3⟩:=tb.row
  have nm:=tb.nm
  have hp:p∉ns:=fun w=>tb.nms p w hn
  have hkl:=kAt_le ls p
  refine w39 (n:=2) sw_ok (g39 ?_)
  unfold s39_0
  refine c38 tb.d ?_
  rw[ext_0,asI_k,ext_1,hn]
  show asB (.bool false) _
  rw[asB_b,exNil_p,oK_some,fAddr_i]
  refine ld1_i h1 (by decide) ?_
  refine h2.cut2 (k:=kAt ls p) (by rw[fcs_len];exact hkl) fun v5 r5=>?_
  refine cnd_f rfl ?_
  refine j39_1 ?_
  unfold s39_1
  rw[lit99,oK_some]
  have x1:Exh h (h.new (.row .e 0 0 99 true)):=.new
  have b1:BufQ 99 2 h.next.nat (h.new (.row .e 0 0 99 true)) (.slice h.next 0 0 2 true) []:=.lit
  generalize h.new (.row .e 0 0 99 true)=g1 at x1 b1 ⊢
  rw[exNil_p,oK_some,fAddr_i]
  refine ld1_i (by rw[x1.2 pm nm];exact h1) (by decide) ?_
  refine(h2.ext x1).cut1 (k:=kAt ls p) (by rw[fcs_len];exact hkl) fun v6 r6=>?_
  have lt:((fcs ls).take (kAt ls p)).length=kAt ls p:=by rw[List.length_take,fcs_len];omega
  rw[app64]
  refine app_q b1 (cells_slr r6) r6.all_sz sz99 (fits99 (by rw[lt];show 0+kAt ls p≤_;omega)) x1.1 fun v7 g7 b7 _ k7=>?_
  have x7:Exh h g7:=k7.exh x1 (Nat.le_refl _)
  rw[exB99,oK_some,bld99,oK_some,app64]
  refine app_q1 (ds:=[S p,S x]) b7 rfl sz99 (fits99 (by rw[List.nil_append,lt];omega)) x7.1 fun v8 g8 b8 k8=>?_
  have x8:Exh h g8:=k8.exh x7 (Nat.le_refl _)
  rw[app64]
  refine app_ms b8 (cells_slr (r5.ext x8)) r5.all_sz sz99 (fits99 (by rw[List.length_append,List.nil_append,lt,List.length_drop,fcs_len];simp;omega)) x8.1 fun v9 g9 b9 k9=>?_
  have x9:Exh h g9:=k9.exh x8 (Nat.le_refl _)
  rw[fcs_ins] at b9
  rw[exNil_p,oK_some,fAddr_i]
  have p9:g9.at pm=.row t 4 0 TRf true:=by rw[x9.2 pm nm];exact h1
  have ap9:Apart pm v9:=b9.apart nm
  refine st1_i p9 (Nat.zero_le _) (by decide) b9.one ?_
  have s1:SlR 2 (g9.put pm (.row (tlist [v9] (0+1) t) 4 0 TRf true)) v9 (fcs (insF p x ls)):=b9.slr.put ap9
  have s2:SlR 1 (g9.put pm (.row (tlist [v9] (0+1) t) 4 0 TRf true)) (tget t 2) (scs ns):=(h3.ext x9).put a2
  have s3:SlR 1 (g9.put pm (.row (tlist [v9] (0+1) t) 4 0 TRf true)) (tget t 3) (ones ns):=(h4.ext x9).put a3
  have p10:(g9.put pm (.row (tlist [v9] (0+1) t) 4 0 TRf true)).at pm=.row (tlist [v9] (0+1) t) 4 0 TRf true:=at_put_same _ _ _
  have x10:FrX (fun c=>c=pm) h (g9.put pm (.row (tlist [v9] (0+1) t) 4 0 TRf true)):=x9.frx.trans (.put rfl)
  have e1:tget (tlist [v9] (0+1) t) 1=v9:=by rw[tget_tlist];simp
  have e2:tget (tlist [v9] (0+1) t) 2=tget t 2:=by rw[tget_tlist];simp
  have e3:tget (tlist [v9] (0+1) t) 3=tget t 3:=by rw[tget_tlist];simp
  generalize g9.put pm (.row (tlist [v9] (0+1) t) 4 0 TRf true)=h10 at s1 s2 s3 p10 x10 ⊢
  generalize tlist [v9] (0+1) t=t10 at p10 e1 e2 e3
  rw[←e2] at s2 a2
  rw[←e3] at s3 a3
  rw[←e1] at s1 ap9
  have nm10:pm.nat<h10.next.nat:=Nat.lt_of_lt_of_le nm x10.1
  refine w63 (n:=ns.length+2) sw_ok (g63 ?_)
  unfold s63_0
  refine c63_1 p10 nm10 s2 s3 a2 a3 hp (by omega) (fun h11 t11 x11 p11 q1 q2 q3 q4 q5=>?_) _ 0 (by omega) (Nat.zero_le _)
  refine hk h11 (x10.trans x11) ⟨Nat.lt_of_lt_of_le nm10 x11.1,⟨t11,p11,⟨?_,q2,q3⟩,?_,q4,q5⟩,insF_ris tb.ris hn,by rw[insF_len];omega,by rw[List.length_append];simp;omega,fun s hs=>?_⟩
  · rw[q1];exact s1.frx x11 fun q o n z b e=>ap9 q o n z b e
  · rw[q1];exact ap9
  · rw[insF_text hn]
    rcases List.mem_append.1 hs with hs|hs
    · by_cases e:p=s
      · rw[if_pos e];exact fun q=>by cases q
      · rw[if_neg e];exact tb.nms s hs
    · rw[List.mem_singleton.1 hs,if_pos rfl];exact fun q=>by cases q
def crL(ls:List Fl)(p x:List UInt8):List Fl:=if crE ls p=0 then insF p x ls else ls
def crN(ls:List Fl)(p:List UInt8)(ns:List (List UInt8)):List (List UInt8):=if crE ls p=0 then ns++[p] else ns
theorem c22{h:H}{pm:P}{ls:List Fl}{ns:List (List UInt8)}{p x:List UInt8}(tb:TabE h pm ls ns)(hl:ls.length<50)(hl2:ns.length<50)(hp:p.length≤1000000)(hx:x.length≤2048){k:KV}
    (hk:∀h',FrX (fun c=>c=pm) h h'→TabE h' pm (crL ls p x) (crN ls p ns)→k (.int .i64 (Int.ofNat (crE ls p))) h'):W1 (.func 22) [.ptr pm 0,S p,S x] h k:=by
  have keep:∀{h':H},Exh h h'→TabE h' pm ls ns:=fun x=>tb.frx (X:=fun _=>False) x.frx fun _ _ q=>q
  refine w22 (n:=1) sw_ok (g22 ?_)
  unfold s22_0
  refine c38 tb.d ?_
  rw[ext_0,asI_k,ext_1,asB_b]
  refine c31 hp fun h1 x1=>?_
  have tb1:=keep x1
  rw[asB_b,bn_not]
  refine cnd_i (fun e=>?_) (fun e=>?_)
  · have e:valB p=false:=by cases w:valB p with
      |true=>rw[w] at e;cases e
      |false=>rfl
    have e1:crE ls p=1:=by unfold crE;rw[if_neg (by rw[e];decide)]
    have e2:crL ls p x=ls:=by unfold crL;rw[e1];rfl
    have e3:crN ls p ns=ns:=by unfold crN;rw[e1];rfl
    rw[e1,e2,e3] at hk
    exact hk _ x1.frx tb1
  have e:valB p=true:=by cases w:valB p with
    |true=>rfl
    |false=>rw[w] at e;cases e
  refine cnd_i (fun q=>?_) (fun q=>?_)
  · have e1:crE ls p=3:=by unfold crE;rw[if_pos e,if_pos q]
    have e2:crL ls p x=ls:=by unfold crL;rw[e1];rfl
    have e3:crN ls p ns=ns:=by unfold crN;rw[e1];rfl
    rw[e1,e2,e3] at hk
    exact hk _ x1.frx tb1
  have hn:textOf ls p=none:=by
    cases w:textOf ls p with
    |none=>rfl
    |some y=>rw[w] at q;cases q
  have e1:crE ls p=0:=crE_0.2 ⟨e,hn⟩
  have e2:crL ls p x=insF p x ls:=by unfold crL;rw[if_pos e1]
  have e3:crN ls p ns=ns++[p]:=by unfold crN;rw[if_pos e1]
  rw[e1,e2,e3] at hk
  obtain⟨t,r1,⟨r2,_⟩,_⟩:=tb1.row
  rw[exNil_p,oK_some,fAddr_i]
  refine ld1_i r1 (by decide) ?_
  rw[r2.len,fcs_len,ile,decide_eq_false (by omega)]
  refine or_i (fun _=>?_) (fun q=>by cases q)
  rw[show iblt (Int.ofNat 65536) (Int.ofNat x.length)=decide (65536<x.length) from ilt _ _]
  refine cnd_f (decide_eq_false (by omega)) ?_
  refine c39 tb1 hl hl2 hn fun h2 x2 t2=>?_
  exact hk h2 (x1.frx.trans x2) t2
end Go.Den
