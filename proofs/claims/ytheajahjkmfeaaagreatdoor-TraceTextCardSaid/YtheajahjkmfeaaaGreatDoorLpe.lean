/-
 Proof.
-/
import Derived.Test.YtheajahjkmfeaaaGreatDoorLpd
noncomputable section
namespace Go.Den
open Go.RowKit
set_option maxRecDepth 100000
open Go.Lx (Rn bts Bt Er Ke toR Fy Gz Ls Rh Kz Iz Nh idL Qt at0)
abbrev TTk:TypeId:=44
abbrev TBl:TypeId:=183
theorem FrE.of{e:TypeId}{lo:Nat}{p:P}{h0 h h':H}(x:FrE e lo p h0 h)(hn:h.next.nat≤h'.next.nat)(y:∀c,c.nat<h0.next.nat→h'.at c=h.at c):FrE e lo p h0 h':=
 ⟨Nat.le_trans x.1 hn,fun c hc hp hh=>by rw[y c hc,x.2 c hc hp hh]⟩
theorem SlR.keep{sz n:Nat}{h h':H}{p:P}{v:AV}{M:List (List AV)}(hr:SlR sz h v M)(ho:Old p v)(hn:h.next.nat≤h'.next.nat)(hf:∀c,c.nat<n→h'.at c=h.at c)(hp:p.nat≤n):SlR sz h' v M:=by
 rcases hr with hr|⟨q',o,c,m,b,e,a1,a2,a3⟩
 · exact .inl hr
 · exact .inr ⟨q',o,c,m,b,e,Nat.lt_of_lt_of_le a1 hn,a2.frame (hf _ (Nat.lt_of_lt_of_le (ho _ _ _ _ _ e) hp)),a3⟩
section
variable{h:H}{pW:P}{fl:List UInt8}{L:List Rn}{a:Nat}{D:List (List AV)}{sp:Bool}{q:Int}
theorem Wd.frb{lo:Nat}{b:P}{h':H}(s:Wd h pW fl L a D sp q)(x:FrB lo b h h')(hl:pW.nat+1≤lo)(hb:lo≤b.nat){t:Tm}{m z:Nat}{w:Bool}(ht:h.at b=.row t m z TBl w):Wd h' pW fl L a D sp q:=by
 obtain⟨vd,w,bd⟩:=s.w
 refine⟨⟨vd,w.keep x.1 fun c hc=>x.2 c (by have:=w.n;omega) (fun e=>by subst e;omega) (.inl (by omega)),?_⟩,s.len⟩
 refine bd.frame x.1 fun c hc _ t' m' z' w' ha=>x.2 c hc (fun e=>?_) (.inr fun t2 m2 z2 w2 e2=>?_)
 · subst e;rw[ht] at ha;cases ha
 · rw[ha] at e2;cases e2
theorem Bap(p:P)(o n lo hi:Nat)(b:Bool)(h:H):slice3 env h 160 (.slice p o n 3 b) (some (Bp (.int .i64 (Int.ofNat lo)))) (some (Bp (.int .i64 (Int.ofNat hi)))) none=Fm h (Ma p o n 3 b lo hi none):=by kernel_rfl
theorem Aqp{p:P}{v:AV}(hr:SlR 3 h v (cel L))(ho:Old p v){lo hi:Nat}(h1:lo≤hi)(h2:hi≤L.length)(h3:lo<L.length){k:KV}(hk:∀v',Old p v'→SlR 3 h v' (cel ((L.drop lo).take (hi-lo)))→k v' h):oK (slice3 env h 160 v (some (Bp (.int .i64 (Int.ofNat lo)))) (some (Bp (.int .i64 (Int.ofNat hi)))) none) k:=by
 rcases hr with⟨rfl,e⟩|⟨q',o,c,m,b,rfl,a1,a2,a3,a4⟩
 · have:=congrArg List.length e
   rw[Dh] at this
   rw[this] at h3;cases h3
 · rw[Dh] at a3
   rw[Bap]
   unfold Ma
   rw[Nat.ble_eq_true_of_le h1,Dh,Nat.ble_eq_true_of_le h2]
   show oK (some (.slice q' (o+lo*3) (hi-lo) 3 (An b (Nat.beq hi L.length)),h)) _
   rw[Ad]
   have e:=Ag2.sub (lo:=lo) (n:=hi-lo) a4
   have ec:((cel L).drop lo).take (hi-lo)=cel ((L.drop lo).take (hi-lo)):=by unfold cel;rw[List.map_take,List.map_drop]
   rw[ec] at e
   have hl:(cel ((L.drop lo).take (hi-lo))).length=hi-lo:=by rw[Dh,List.length_take,List.length_drop];omega
   refine hk _ (fun q2 o2 n2 z2 b2 e2=>by cases e2;exact ho _ _ _ _ _ rfl) (.inr ⟨q',_,c,m,_,by rw[hl],a1,a2,by rw[hl];have:hi*3≤L.length*3:=Nat.mul_le_mul_right _ h2;omega,e⟩)
theorem A3p(a:Int)(l c:Nat)(b:Bool)(x y z:AV)(h:H):Ax env (env.ty TTk) [(0,.int .i64 a),(1,.str l c),(2,.bool b),(3,.agg [x,y,z])] h=some (.agg [.int .i64 a,.str l c,.bool b,x,y,z,.bool false,.Ai],h):=by kernel_rfl
def Ad5(fl:List UInt8)(L:List Rn)(a:Nat)(sp:Bool):List AV:=[.int .i64 (Int.ofNat (Go.Lx.Ds ((bts L).drop a)).1),S (((bts L).drop a).take (Go.Lx.Ds ((bts L).drop a)).2.1),.bool sp]++St fl L a (a+(Go.Lx.Ds ((bts L).drop a)).2.1)++[.bool false,.Ai]
def Na:List AV:=[(.int .i64 (Int.ofNat 0)),(.str 0 0),(.bool false),(.str 0 0),(.int .i64 (Int.ofNat 0)),(.int .i64 (Int.ofNat 0)),(.bool false),.Ai]
structure Hand(h0 h:H)(pW p1 b:P)(l:List UInt8):Prop where
 fr:FrE TDg (pW.nat+1) pW h0 h
 row:∃t,h.at p1=.row t 8 0 TTk true
 n1:p1.nat<h.next.nat
 l1:h0.next.nat≤p1.nat
 bl:Tx h0.next.nat h b l
 lb:h0.next.nat≤b.nat
 zero:l=[]→AtP h p1 0 Na
theorem Hand.bt{h0 h:H}{pW p1 b:P}{l:List UInt8}(g:Hand h0 h pW p1 b l):∃t,h.at b=.row t 2 0 TBl true:=by obtain⟨t,ht,_⟩:=g.bl;exact⟨t,ht⟩
theorem Hand.fre{h0 h h':H}{pW p1 b:P}{l:List UInt8}(g:Hand h0 h pW p1 b l)(hW:pW.nat<h0.next.nat)(x:FrE TDg (pW.nat+1) pW h h'){t:Tm}(hw:h.at pW=.row t 6 0 TWk true):Hand h0 h' pW p1 b l:=by
 obtain⟨t1,ht1⟩:=g.row
 have l1:=g.l1
 have lb:=g.lb
 have e1:h'.at p1=h.at p1:=x.2 p1 g.n1 (fun e=>by subst e;omega) (.inr fun t2 m2 z2 w2 e2=>by rw[ht1] at e2;cases e2)
 obtain⟨tb,b1,b2,b3,b4,b5⟩:=g.bl
 have e2:h'.at b=h.at b:=x.2 b b2 (fun e=>by subst e;omega) (.inr fun t2 m2 z2 w2 e2=>by rw[b1] at e2;cases e2)
 refine⟨g.fr.trans x,⟨t1,by rw[e1];exact ht1⟩,Nat.lt_of_lt_of_le g.n1 x.1,l1,⟨tb,by rw[e2];exact b1,Nat.lt_of_lt_of_le b2 x.1,b3,?_,b5⟩,lb,fun e=>(g.zero e).frame e1⟩
 exact b4.fre x (by decide) hw (by decide)
theorem Hand.ext{h0 h h':H}{pW p1 b:P}{l:List UInt8}(g:Hand h0 h pW p1 b l)(x:Exh h h'):Hand h0 h' pW p1 b l:=by
 obtain⟨t1,ht1⟩:=g.row
 exact⟨g.fr.trans x.fre,⟨t1,by rw[x.2 _ g.n1];exact ht1⟩,Nat.lt_of_lt_of_le g.n1 x.1,g.l1,g.bl.ext x,g.lb,fun e=>(g.zero e).ext x g.n1⟩
theorem Wq{h0 h':H}{p1:P}{t:Tm}(o':Ob FT)(s':Wd h' pW fl L a D sp q)(f':FrE TDg (pW.nat+1) pW h0 h')(hW:pW.nat<h0.next.nat)(l1:h0.next.nat≤p1.nat)(r':h'.at p1=.row t 8 0 TTk true):Wd (h'.put p1 o') pW fl L a D sp q∧FrE TDg (pW.nat+1) pW h0 (h'.put p1 o'):=by
 obtain⟨v',w',b'⟩:=s'.w
 exact⟨⟨⟨v',w'.keep (Nat.le_refl _) fun c hc=>Az fun e=>by subst e;omega,b'.frame (Nat.le_refl _) fun c _ _ t2 m2 z2 w2 e2=>Az fun e=>by subst e;rw[r'] at e2;cases e2⟩,s'.len⟩,f'.of (Nat.le_refl _) fun c hc=>Az fun e=>by subst e;omega⟩
theorem Axh (hl : L.length ≤ 1000000) {h00 : H} (hW : pW.nat < h00.next.nat) {p1 b : P} (hne : p1 ≠ b) {kd m : Nat} (hm : 0 < m) (ham : a + m ≤ L.length) (hD : D.length ≤ a + m) {o : Bool} {vc : AV} (ho : Old pW vc) {k : KV}
    (hk : ∀ h', FrE TDg (pW.nat + 1) pW h00 h' → Wd h' pW fl L (a + m) D false q → k (.tuple [.agg ([.int .i64 (Int.ofNat kd), S (((bts L).drop a).take m), .bool sp] ++ St fl L a (a + m) ++ [.bool false, .Ai]), .bool o, .bool true]) h') : ∀ (n i : Nat) {h : H}, m - i < n → i ≤ m → Hand h00 h pW p1 b ((((bts L).drop a).take m).take i) → Wd h pW fl L a D sp q → SlR 3 h vc (cel ((L.drop a).take m)) →
      (r86 W1 k n).a1 (.ptr pW 0) (.ptr p1 0) o (.ptr b 0) (Int.ofNat kd) (Int.ofNat m) vc (Int.ofNat m) (Int.ofNat i) h
  | 0, _, _, hh, _, _, _, _ => absurd hh (Nat.not_lt_zero _)
  | n + 1, i, h, hh, hi, g, s, hc => by
    refine Ber ?_
    unfold Ams
    have hlen : ((L.drop a).take m).length = m := by rw [List.length_take, List.length_drop]; omega
    have hlb : (((bts L).drop a).take m).length = m := by rw [List.length_take, List.length_drop, Cl]; omega
    have eb : bts ((L.drop a).take m) = ((bts L).drop a).take m := by unfold bts; rw [List.map_take, List.map_drop]
    rw [ilt]
    refine Br (fun e => ?_) (fun e => ?_)
    · have e : i < m := of_decide_eq_true e
      have e' : i < ((L.drop a).take m).length := by rw [hlen]; exact e
      have e2 : i < (((bts L).drop a).take m).length := by rw [hlb]; exact e
      refine Abg hc e' fun q1 o1 ha => ?_
      refine ha.ldn rfl ?_
      refine Cy ?_
      refine Ko (e := 165) (zs := [(.int .u8 (Int.ofNat 0)), (.int .i64 (Int.ofNat 0)), (.int .i64 (Int.ofNat 0))]) rfl rfl (by decide) fun h1 x1 n1 at1 => ?_
      rw [Ae]
      refine at1.ld1 (j := 0) (by show 0 < 3; decide) ?_
      show asI .u8 (.int .u8 (Int.ofNat ((L.drop a).take m)[i].1.toNat)) _
      rw [Bj]
      have g1 := g.ext x1
      have s1 := s.ext x1
      have lo1 := g1.fr.1
      obtain ⟨tb, htb⟩ := g1.bt
      refine Bjh (x := ((L.drop a).take m)[i].1) g1.bl lo1 (by rw [List.length_take]; omega) fun _ h2 b2 f2 => ?_
      refine Bw (by omega) ?_
      have ex : (((bts L).drop a).take m).take i ++ [((L.drop a).take m)[i].1] = (((bts L).drop a).take m).take (i + 1) := by
        rw [List.take_succ_eq_append_getElem e2]
        congr 2
        have := Se e' (by rw [Cl]; exact e')
        rw [← this]
        congr 1
      rw [ex] at b2
      have s2 := s1.frb f2 hW g1.lb htb
      have l1 := g1.l1
      obtain ⟨t1, ht1⟩ := g1.row
      have ep : h2.at p1 = h1.at p1 := f2.2 p1 g1.n1 hne (.inr fun t2 m2 z2 w2 e2 => by rw [ht1] at e2; cases e2)
      refine Axh hl hW hne hm ham hD ho hk n (i + 1) (by omega) e ⟨g1.fr.of f2.1 fun c hc => f2.2 c (Nat.lt_of_lt_of_le hc g1.fr.1) (fun e => by subst e; have := g1.lb; omega) (.inl hc), ⟨t1, by rw [ep]; exact ht1⟩, Nat.lt_of_lt_of_le g1.n1 f2.1, l1, b2, g1.lb, fun e0 => ?_⟩ s2 ?_
      · have := congrArg List.length e0
        rw [List.length_take, hlb] at this
        have : min (i + 1) m = 0 := this
        omega
      · exact (hc.ext x1).keep (n := h00.next.nat) ho f2.1 (fun c hc => f2.2 c (Nat.lt_of_lt_of_le hc g1.fr.1) (fun e => by subst e; have := g1.lb; omega) (.inl hc)) (by omega)
    · have e : i = m := by have := of_decide_eq_false e; omega
      subst e
      rw [List.take_of_length_le (by rw [hlb]; exact Nat.le_refl _)] at g
      obtain ⟨vd, w, hb⟩ := s.w
      obtain ⟨t0, r0, g0, g1, g2, g3, g4, g5, g6⟩ := w.row
      have ld : ∀ {h' : H} {j : Nat} {K : AV → Prop}, h'.at pW = .row t0 6 0 TWk true → j < 6 → K (Aw t0 j) → Go.Den.ld1 (.ptr pW (0 + j)) h' K := fun hp hj hK => by
        refine Eh hp (by omega) ?_
        rw [Nat.zero_add]; exact hK
      rw [Am, Ad, Ae]
      refine ld r0 (j := 4) (by decide) ?_
      rw [g5, Bn, Am, Ad, Ae]
      refine ld r0 (j := 2) (by decide) ?_
      rw [g3, Bj, Am, Ad, Ae]
      refine ld r0 (j := 2) (by decide) ?_
      rw [g3, Bj]
      refine Bw (by omega) ?_
      refine Bax g.bl (by rw [hlb]; omega) fun h1 k1 => ?_
      rw [Eg]
      have lo0 := g.fr.1
      have n0 := w.n
      have hp1 : h1.at pW = .row t0 6 0 TWk true := by rw [k1.2 pW n0 (.inl hW)]; exact r0
      refine ld hp1 (j := 4) (by decide) ?_
      rw [g5, Bn]
      refine Gm (.inr (.inr (.inl ⟨_, rfl⟩))) ?_
      refine ld hp1 (j := 2) (by decide) ?_
      rw [g3, Bj]
      refine Gm (.inr (.inl ⟨_, _, rfl⟩)) ?_
      refine ld hp1 (j := 2) (by decide) ?_
      rw [g3, Bj]
      refine Gm (.inr (.inl ⟨_, _, rfl⟩)) ?_
      have s1 := s.kps k1 hW (by decide)
      obtain ⟨vd1, w1, hb1⟩ := s1.w
      refine Ba2 w1 (by omega) (by omega) ham (by omega) fun h2 x2 => ?_
      have hp2 : h2.at pW = .row t0 6 0 TWk true := by rw [x2.2 pW w1.n]; exact hp1
      refine ld hp2 (j := 4) (by decide) ?_
      rw [g5, Bn]
      refine Gm (.inr (.inr (.inl ⟨_, rfl⟩))) ?_
      unfold St
      rw [A3p, Ad]
      have s2 := s1.ext x2
      obtain ⟨t1, ht1⟩ := g.row
      have l1 := g.l1
      have r1 : h2.at p1 = .row t1 8 0 TTk true := by
        rw [x2.2 p1 (Nat.lt_of_lt_of_le g.n1 k1.1), k1.2 p1 g.n1 (.inr fun t2 m2 z2 w2 e2 => by rw [ht1] at e2; cases e2)]; exact ht1
      have f2 : FrE TDg (pW.nat + 1) pW h00 h2 := g.fr.of (Nat.le_trans k1.1 x2.1) fun c hc => by
        rw [x2.2 c (Nat.lt_of_lt_of_le (Nat.lt_of_lt_of_le hc lo0) k1.1), k1.2 c (Nat.lt_of_lt_of_le hc lo0) (.inl hc)]
      have n2 : p1.nat < h2.next.nat := Nat.lt_of_lt_of_le g.n1 (Nat.le_trans k1.1 x2.1)
      refine Qn r1 (by rfl) (by decide) fun t3 at3 => ?_
      obtain ⟨s3, f3⟩ := Wq (.row t3 8 0 TTk true) s2 f2 hW l1 r1
      have n3 : p1.nat < (h2.put p1 (.row t3 8 0 TTk true)).next.nat := n2
      have r3 : (h2.put p1 (.row t3 8 0 TTk true)).at p1 = .row t3 8 0 TTk true := Ba _ _ _
      generalize h2.put p1 (.row t3 8 0 TTk true) = h3 at at3 s3 f3 n3 r3 ⊢
      refine s3.pos (Bw (by omega) (s3.setPos (b := a + i) (by omega) fun h4 x4 e4 y4 s4 => ?_))
      refine s4.Oe (b := false) fun h5 x5 e5 y5 s5 => ?_
      have hpp : p1 ≠ pW := fun e => by subst e; omega
      have at5 : AtP h5 p1 0 _ := (at3.frame (y4 p1 hpp)).frame (y5 p1 hpp)
      have r5 : h5.at p1 = .row t3 8 0 TTk true := by rw [y5 p1 hpp, y4 p1 hpp]; exact r3
      have n5 : p1.nat < h5.next.nat := by rw [e5, e4]; exact n3
      refine at5.ldn rfl ?_
      refine Qn r5 (by rfl) (by decide) fun t6 at6 => ?_
      obtain ⟨s6, f6⟩ := Wq (.row t6 8 0 TTk true) s5 ((f3.trans x4).trans x5) hW l1 r5
      refine at6.ldn rfl ?_
      exact hk _ f6 s6
theorem Axg (hl : L.length ≤ 1000000) {h00 : H} (hW : pW.nat < h00.next.nat) {p1 b : P} (hne : p1 ≠ b) {kd m : Nat} (hm : 0 < m) (ham : a + m ≤ L.length) (hD : D.length ≤ a + m) {o : Bool} {vc : AV} (ho : Old pW vc) {k : KV}
    (hk : ∀ h', FrE TDg (pW.nat + 1) pW h00 h' → Wd h' pW fl L (a + m) D false q → k (.tuple [.agg ([.int .i64 (Int.ofNat kd), S (((bts L).drop a).take m), .bool sp] ++ St fl L a (a + m) ++ [.bool false, .Ai]), .bool o, .bool true]) h') : ∀ (n i : Nat) {h : H}, m - i < n → i ≤ m → Hand h00 h pW p1 b ((((bts L).drop a).take m).take i) → Wd h pW fl L a D sp q → SlR 3 h vc (cel ((L.drop a).take m)) →
      (r86 W1 k n).a3 (.ptr pW 0) (.ptr p1 0) o (.ptr b 0) (Int.ofNat kd) (Int.ofNat m) vc (Int.ofNat m) (Int.ofNat i) h
  | 0, _, _, hh, _, _, _, _ => absurd hh (Nat.not_lt_zero _)
  | n + 1, i, h, hh, hi, g, s, hc => by
    refine Bep ?_
    unfold Amq
    have hlen : ((L.drop a).take m).length = m := by rw [List.length_take, List.length_drop]; omega
    have hlb : (((bts L).drop a).take m).length = m := by rw [List.length_take, List.length_drop, Cl]; omega
    have eb : bts ((L.drop a).take m) = ((bts L).drop a).take m := by unfold bts; rw [List.map_take, List.map_drop]
    rw [ilt]
    refine Br (fun e => ?_) (fun e => ?_)
    · have e : i < m := of_decide_eq_true e
      have e' : i < ((L.drop a).take m).length := by rw [hlen]; exact e
      have e2 : i < (((bts L).drop a).take m).length := by rw [hlb]; exact e
      refine Abg hc e' fun q1 o1 ha => ?_
      refine ha.ldn rfl ?_
      refine Cy ?_
      refine Ko (e := 165) (zs := [(.int .u8 (Int.ofNat 0)), (.int .i64 (Int.ofNat 0)), (.int .i64 (Int.ofNat 0))]) rfl rfl (by decide) fun h1 x1 n1 at1 => ?_
      rw [Ae]
      refine at1.ld1 (j := 0) (by show 0 < 3; decide) ?_
      show asI .u8 (.int .u8 (Int.ofNat ((L.drop a).take m)[i].1.toNat)) _
      rw [Bj]
      have g1 := g.ext x1
      have s1 := s.ext x1
      have lo1 := g1.fr.1
      obtain ⟨tb, htb⟩ := g1.bt
      refine Bjh (x := ((L.drop a).take m)[i].1) g1.bl lo1 (by rw [List.length_take]; omega) fun _ h2 b2 f2 => ?_
      refine Bw (by omega) ?_
      have ex : (((bts L).drop a).take m).take i ++ [((L.drop a).take m)[i].1] = (((bts L).drop a).take m).take (i + 1) := by
        rw [List.take_succ_eq_append_getElem e2]
        congr 2
        have := Se e' (by rw [Cl]; exact e')
        rw [← this]
        congr 1
      rw [ex] at b2
      have s2 := s1.frb f2 hW g1.lb htb
      have l1 := g1.l1
      obtain ⟨t1, ht1⟩ := g1.row
      have ep : h2.at p1 = h1.at p1 := f2.2 p1 g1.n1 hne (.inr fun t2 m2 z2 w2 e2 => by rw [ht1] at e2; cases e2)
      refine Axg hl hW hne hm ham hD ho hk n (i + 1) (by omega) e ⟨g1.fr.of f2.1 fun c hc => f2.2 c (Nat.lt_of_lt_of_le hc g1.fr.1) (fun e => by subst e; have := g1.lb; omega) (.inl hc), ⟨t1, by rw [ep]; exact ht1⟩, Nat.lt_of_lt_of_le g1.n1 f2.1, l1, b2, g1.lb, fun e0 => ?_⟩ s2 ?_
      · have := congrArg List.length e0
        rw [List.length_take, hlb] at this
        have : min (i + 1) m = 0 := this
        omega
      · exact (hc.ext x1).keep (n := h00.next.nat) ho f2.1 (fun c hc => f2.2 c (Nat.lt_of_lt_of_le hc g1.fr.1) (fun e => by subst e; have := g1.lb; omega) (.inl hc)) (by omega)
    · have e : i = m := by have := of_decide_eq_false e; omega
      subst e
      rw [List.take_of_length_le (by rw [hlb]; exact Nat.le_refl _)] at g
      obtain ⟨vd, w, hb⟩ := s.w
      obtain ⟨t0, r0, g0, g1, g2, g3, g4, g5, g6⟩ := w.row
      have ld : ∀ {h' : H} {j : Nat} {K : AV → Prop}, h'.at pW = .row t0 6 0 TWk true → j < 6 → K (Aw t0 j) → Go.Den.ld1 (.ptr pW (0 + j)) h' K := fun hp hj hK => by
        refine Eh hp (by omega) ?_
        rw [Nat.zero_add]; exact hK
      rw [Am, Ad, Ae]
      refine ld r0 (j := 4) (by decide) ?_
      rw [g5, Bn, Am, Ad, Ae]
      refine ld r0 (j := 2) (by decide) ?_
      rw [g3, Bj, Am, Ad, Ae]
      refine ld r0 (j := 2) (by decide) ?_
      rw [g3, Bj]
      refine Bw (by omega) ?_
      refine Bax g.bl (by rw [hlb]; omega) fun h1 k1 => ?_
      rw [Eg]
      have lo0 := g.fr.1
      have n0 := w.n
      have hp1 : h1.at pW = .row t0 6 0 TWk true := by rw [k1.2 pW n0 (.inl hW)]; exact r0
      refine ld hp1 (j := 4) (by decide) ?_
      rw [g5, Bn]
      refine Gm (.inr (.inr (.inl ⟨_, rfl⟩))) ?_
      refine ld hp1 (j := 2) (by decide) ?_
      rw [g3, Bj]
      refine Gm (.inr (.inl ⟨_, _, rfl⟩)) ?_
      refine ld hp1 (j := 2) (by decide) ?_
      rw [g3, Bj]
      refine Gm (.inr (.inl ⟨_, _, rfl⟩)) ?_
      have s1 := s.kps k1 hW (by decide)
      obtain ⟨vd1, w1, hb1⟩ := s1.w
      refine Ba2 w1 (by omega) (by omega) ham (by omega) fun h2 x2 => ?_
      have hp2 : h2.at pW = .row t0 6 0 TWk true := by rw [x2.2 pW w1.n]; exact hp1
      refine ld hp2 (j := 4) (by decide) ?_
      rw [g5, Bn]
      refine Gm (.inr (.inr (.inl ⟨_, rfl⟩))) ?_
      unfold St
      rw [A3p, Ad]
      have s2 := s1.ext x2
      obtain ⟨t1, ht1⟩ := g.row
      have l1 := g.l1
      have r1 : h2.at p1 = .row t1 8 0 TTk true := by
        rw [x2.2 p1 (Nat.lt_of_lt_of_le g.n1 k1.1), k1.2 p1 g.n1 (.inr fun t2 m2 z2 w2 e2 => by rw [ht1] at e2; cases e2)]; exact ht1
      have f2 : FrE TDg (pW.nat + 1) pW h00 h2 := g.fr.of (Nat.le_trans k1.1 x2.1) fun c hc => by
        rw [x2.2 c (Nat.lt_of_lt_of_le (Nat.lt_of_lt_of_le hc lo0) k1.1), k1.2 c (Nat.lt_of_lt_of_le hc lo0) (.inl hc)]
      have n2 : p1.nat < h2.next.nat := Nat.lt_of_lt_of_le g.n1 (Nat.le_trans k1.1 x2.1)
      refine Qn r1 (by rfl) (by decide) fun t3 at3 => ?_
      obtain ⟨s3, f3⟩ := Wq (.row t3 8 0 TTk true) s2 f2 hW l1 r1
      have n3 : p1.nat < (h2.put p1 (.row t3 8 0 TTk true)).next.nat := n2
      have r3 : (h2.put p1 (.row t3 8 0 TTk true)).at p1 = .row t3 8 0 TTk true := Ba _ _ _
      generalize h2.put p1 (.row t3 8 0 TTk true) = h3 at at3 s3 f3 n3 r3 ⊢
      refine s3.pos (Bw (by omega) (s3.setPos (b := a + i) (by omega) fun h4 x4 e4 y4 s4 => ?_))
      refine s4.Oe (b := false) fun h5 x5 e5 y5 s5 => ?_
      have hpp : p1 ≠ pW := fun e => by subst e; omega
      have at5 : AtP h5 p1 0 _ := (at3.frame (y4 p1 hpp)).frame (y5 p1 hpp)
      have r5 : h5.at p1 = .row t3 8 0 TTk true := by rw [y5 p1 hpp, y4 p1 hpp]; exact r3
      have n5 : p1.nat < h5.next.nat := by rw [e5, e4]; exact n3
      refine at5.ldn rfl ?_
      refine Qn r5 (by rfl) (by decide) fun t6 at6 => ?_
      obtain ⟨s6, f6⟩ := Wq (.row t6 8 0 TTk true) s5 ((f3.trans x4).trans x5) hW l1 r5
      refine at6.ldn rfl ?_
      exact hk _ f6 s6
end
open Go.Lx (Lt)
def Di(L:List Rn):Nat→Nat→Bool→Bool→Nat×Bool×Bool
 |0,a,sp,o=>(a,sp,o)
 |k+1,a,sp,o=>if L.length≤a then(a,sp,o) else if bt (bts L) a=10 then(a,sp,o) else if Ov (bt (bts L) a)=true then Di L k (a+1) true o else match Rh ((bts L).drop a) with
  |none=>(a,sp,false)
  |some (n,b)=>Di L k (a+n) true b
theorem Lg{L:List Rn}{k a:Nat}{sp o:Bool}(h:L.length≤a∨bt (bts L) a=10):Di L k a sp o=(a,sp,o):=by
 cases k with
 |zero=>rfl
 |succ k=>
  unfold Di
  rcases h with h|h
  · rw[if_pos h]
  · by_cases c:L.length≤a
    · rw[if_pos c]
    · rw[if_neg c,if_pos h]
theorem Ahg{L:List Rn}{k a:Nat}{sp o:Bool}(h:a<L.length)(h10:bt (bts L) a≠10)(hw:Ov (bt (bts L) a)=true):Di L (k+1) a sp o=Di L k (a+1) true o:=by
 rw[Di,if_neg (by omega),if_neg h10,if_pos hw]
theorem Acr{L:List Rn}{k a n:Nat}{sp o b:Bool}(h:a<L.length)(h10:bt (bts L) a≠10)(hw:Ov (bt (bts L) a)=false)(hc:Rh ((bts L).drop a)=some (n,b)):Di L (k+1) a sp o=Di L k (a+n) true b:=by
 rw[Di,if_neg (by omega),if_neg h10,if_neg (by rw[hw];decide),hc]
theorem Acq{L:List Rn}{k a:Nat}{sp o:Bool}(h:a<L.length)(h10:bt (bts L) a≠10)(hw:Ov (bt (bts L) a)=false)(hc:Rh ((bts L).drop a)=none):Di L (k+1) a sp o=(a,sp,false):=by
 rw[Di,if_neg (by omega),if_neg h10,if_neg (by rw[hw];decide),hc]
theorem Agk{s:List UInt8}{n:Nat}{b:Bool}(h:Rh s=some (n,b)):0<n∧n≤s.length∧(b=true→n=s.length):=by
 unfold Rh at h
 split at h
 · cases h
 · rename_i c
   have c0:at0 s 0=47:=Classical.not_not.1 c
   cases s with
   |nil=>exact absurd c0 (by decide)
   |cons x r=>
    have c0:x=47:=c0
    split at h
    · cases h
      refine⟨?_,?_,fun e=>by cases e⟩
      · rw[List.takeWhile_cons,if_pos (by rw[c0];decide)];exact Nat.succ_pos _
      · exact(List.takeWhile_sublist _).length_le
    · split at h
      · cases h
      · rename_i c2
        have c2:=Classical.not_not.1 c2
        split at h
        · rename_i m hm
          cases h
          have:=Go.Lx.Aqu hm
          have hd:((x::r).drop 2).length=(x::r).length-2:=List.length_drop ..
          exact⟨by omega,by omega,fun e=>by cases e⟩
        · cases h
          exact⟨Nat.succ_pos _,Nat.le_refl _,fun _=>rfl⟩
structure NxK(h00:H)(pW:P)(fl:List UInt8)(L:List Rn)(f a:Nat)(D:List (List AV))(sp o:Bool)(q:Int)(k:KV):Prop where
 no:∀h' D' a' sp' o',Di L f a sp o=(a',sp',o')→(L.length≤a'∨bt (bts L) a'=10)→FrE TDg (pW.nat+1) pW h00 h'→Wd h' pW fl L a' D' sp' q→(o'=false→D'=D)→D'.length≤a'→k (.tuple [.agg Na,.bool o',.bool false]) h'
 yes:∀h' D' q' a' sp',Di L f a sp o=(a',sp',false)→a'<L.length→bt (bts L) a'≠10→FrE TDg (pW.nat+1) pW h00 h'→Wd h' pW fl L (a'+(Go.Lx.Ds ((bts L).drop a')).2.1) D' false q'→(Asd ((bts L).drop a')=false→D'=D∧q'=q)→D'.length≤a'+(Go.Lx.Ds ((bts L).drop a')).2.1→k (.tuple [.agg (Ad5 fl L a' sp'),.bool false,.bool true]) h'
section
variable{h:H}{pW:P}{fl:List UInt8}{L:List Rn}{a:Nat}{D:List (List AV)}{sp:Bool}{q:Int}
theorem Aqs (hl : L.length ≤ 1000000) {h00 : H} (hW : pW.nat < h00.next.nat) {p1 b : P} (hne : p1 ≠ b) {k : KV} : ∀ (f n : Nat) {h : H} {a : Nat} {D : List (List AV)} {sp o : Bool}, L.length - a < f → L.length - a + L.length + 4 < n → D.length ≤ a → a ≤ L.length → (o = true → L.length ≤ a) → NxK h00 pW fl L f a D sp o q k → Hand h00 h pW p1 b [] → Wd h pW fl L a D sp q →
      (r86 W1 k n).a2 (.ptr pW 0) (.ptr p1 0) o false (.ptr b 0) h
  | 0, _, _, _, _, _, _, hh, _, _, _, _, _, _, _ => absurd hh (Nat.not_lt_zero _)
  | _ + 1, 0, _, _, _, _, _, _, hn, _, _, _, _, _, _ => absurd hn (Nat.not_lt_zero _)
  | f + 1, n + 1, h, a, D, sp, o, hh, hn, hD, hal, ho, K, g, s => by
    refine Beq ?_
    unfold Amr
    obtain ⟨n, rfl⟩ : ∃ m, n = m + 1 := ⟨n - 1, by omega⟩
    refine s.pos (s.l fun v hr => ?_)
    rw [hr.len, Dh, ile]
    have fin : (L.length ≤ a ∨ bt (bts L) a = 10) → (r86 W1 k (n + 1)).a4 (.ptr p1 0) o false h := fun c => by
      refine A3b ?_
      unfold Ahk
      obtain ⟨t1, ht1⟩ := g.row
      refine (g.zero rfl).ldn rfl ?_
      refine Qn ht1 (by rfl) (by decide) fun t6 at6 => ?_
      obtain ⟨s6, f6⟩ := Wq (.row t6 8 0 TTk true) s g.fr hW g.l1 ht1
      refine at6.ldn rfl ?_
      exact K.no _ D a sp o (Lg c) c f6 s6 (fun _ => rfl) hD
    refine Qe (fun c => ?_) (fun c => Dp rfl (fin (.inl (of_decide_eq_true c))))
    have hlt : a < L.length := by have := of_decide_eq_false c; omega
    refine s.l fun v2 hr2 => s.pos (Xx hr2 hlt ?_)
    rw [show Bx (Int.ofNat L[a].1.toNat) (Int.ofNat 10) = decide (L[a].1 = 10) from Tp _ 10 (by decide)]
    refine Br (fun d => fin (.inr (by rw [Abn hlt]; exact of_decide_eq_true d))) (fun d => ?_)
    have h10 : bt (bts L) a ≠ 10 := by rw [Abn hlt]; exact of_decide_eq_false d
    refine s.l fun v3 hr3 => s.pos (Xx hr3 hlt ?_)
    rw [← Abn hlt]
    refine Lj (Bjq (bt (bts L) a)) ?_
    rw [Bn]
    obtain ⟨vd, w, _⟩ := s.w
    obtain ⟨t, hwr⟩ := w.Wm
    refine Br (fun hw => ?_) (fun hw => ?_)
    · refine s.pos (Bw (by omega) (s.setPos (b := a + 1) (Nat.le_succ _) fun h1 x1 _ _ s1 => ?_))
      obtain ⟨vd1, w1, _⟩ := s1.w
      obtain ⟨t1, hwr1⟩ := w1.Wm
      refine s1.Oe (b := true) fun h2 x2 _ _ s2 => ?_
      have K' := K
      have e := Ahg (k := f) (sp := sp) (o := o) hlt h10 hw
      refine Aqs hl hW hne f (n + 1) (by omega) (by omega) (by omega) hlt (fun q => absurd (ho q) (by omega)) ⟨fun h' D' a' sp' o' e' => K.no h' D' a' sp' o' (by rw [e]; exact e'), fun h' D' q' a' sp' e' => K.yes h' D' q' a' sp' (by rw [e]; exact e')⟩ ((g.fre hW x1 hwr).fre hW x2 hwr1) s2
    refine Bjp s hl hlt (by omega) fun hC DC aC iC oC xC sC cC1 cC2 cC3 => ?_
    rw [Hu, Bn, Ht, Bn]
    have gC := g.fre hW xC hwr
    cases hcom : Rh ((bts L).drop a) with
    | some nb =>
      obtain ⟨m, bb⟩ := nb
      rw [hcom] at cC3
      obtain ⟨rfl, rfl, rfl⟩ := cC3
      have cl := Agk hcom
      rw [List.length_drop, Cl] at cl
      refine Dp rfl ?_
      obtain ⟨vd1, w1, _⟩ := sC.w
      obtain ⟨t1, hwr1⟩ := w1.Wm
      refine sC.Oe (b := true) fun h2 x2 _ _ s2 => ?_
      have e := Acr (k := f) (sp := sp) (o := o) hlt h10 hw hcom
      refine Aqs hl hW hne f (n + 1) (by omega) (by omega) (by omega) (by omega) (fun q => by have := cl.2.2 q; omega) ⟨fun h' D' a' sp' o' e' e2 e3 e4 e5 e6 => K.no h' D' a' sp' o' (by rw [e]; exact e') e2 e3 e4 (fun z => ?_) e6, fun h' D' q' a' sp' e' e2 e3 e4 e5 e6 e7 => K.yes h' D' q' a' sp' (by rw [e]; exact e') e2 e3 e4 e5 (fun z => ?_) e7⟩ (gC.fre hW x2 hwr1) s2
      · rw [e5 z]
        refine cC1 ?_
        cases oC with
        | false => rfl
        | true =>
          have := cl.2.2 rfl
          rw [Lg (.inl (by omega))] at e'
          cases e'; cases z
      · obtain ⟨z1, z2⟩ := e6 z
        refine ⟨?_, z2⟩
        rw [z1]
        refine cC1 ?_
        cases oC with
        | false => rfl
        | true =>
          have := cl.2.2 rfl
          rw [Lg (.inl (by omega))] at e'
          cases e'
    | none =>
      rw [hcom] at cC3
      obtain ⟨hac, rfl, rfl⟩ := cC3
      have hac := hac.symm
      subst hac
      obtain rfl := cC1 rfl
      refine Cp rfl ?_
      refine Bjo sC hl hlt (by omega) fun hT DT qT xT sT oT lT => ?_
      rw [Hu, Bj, Ht, Bj]
      obtain ⟨vdC, wC, _⟩ := sC.w
      obtain ⟨tC, hCr⟩ := wC.Wm
      have gT := gC.fre hW xT hCr
      have nl := Lt (s := (bts L).drop a) (fun e => by
        have := congrArg List.length e
        rw [List.length_drop, Cl] at this
        have : L.length - a = 0 := this
        omega)
      rw [List.length_drop, Cl] at nl
      obtain ⟨vdT, wT, _⟩ := sT.w
      obtain ⟨tT, rT, _, cT, oldT, _⟩ := wT.row
      rw [Am, Ad, Ae]
      refine Eh rT (by decide) ?_
      refine sT.pos (sT.pos (Bw (by omega) ?_))
      refine Aqp cT oldT (lo := a) (hi := a + (Go.Lx.Ds ((bts L).drop a)).2.1) (by omega) (by omega) hlt fun vC oC rC => ?_
      rw [Nat.add_sub_cancel_left] at rC
      have lenC : Cz vC = fun K => K (Go.Lx.Ds ((bts L).drop a)).2.1 := by
        funext K
        rw [rC.len, Dh, List.length_take, List.length_drop]
        congr 1; omega
      rw [lenC]
      refine Axg hl hW hne nl.1 (by omega) (by omega) oC (fun hF fF sF => ?_) _ 0 (by omega) (Nat.zero_le _) (by rw [List.take_zero]; exact gT) sT rC
      exact K.yes hF DT qT a sp (Acq hlt h10 hw hcom) hlt h10 fF sF oT (by omega)
theorem c86(hl:L.length≤1000000)(hD:D.length≤a)(hal:a≤L.length)(s:Wd h pW fl L a D sp q){k:KV}(K:NxK h pW fl L (L.length+2) a D sp false q k):W1 (.func 86) [.ptr pW 0] h k:=by
 refine w86 (n:=2*L.length+8) Bg (g86 ?_)
 unfold Amt
 have hW:=s.n
 refine Cy ?_
 have x1:Exh h (h.new Aaj):=.new
 have m1:(h.new Aaj).next.nat=h.next.nat+1:=Bf
 have a1:(h.new Aaj).at h.next=.row (Aj Na 0 .e) 8 0 TTk true:=Bc _ _
 have z1:AtP (h.new Aaj) h.next 0 Na:=AtP.newRow
 generalize h.new Aaj=h1 at x1 m1 a1 z1 ⊢
 refine Cy ?_
 have x2:Exh h1 (h1.new Xs):=.new
 have b2:Tx h.next.nat (h1.new Xs) h1.next []:=.new _ _
 have m2:(h1.new Xs).next.nat=h1.next.nat+1:=Bf
 generalize h1.new Xs=h2 at x2 b2 m2 ⊢
 have hne:h.next≠h1.next:=fun e=>by rw[←e] at m1;omega
 have g:Hand h h2 pW h.next h1.next []:=⟨(x1.trans x2).fre,⟨_,by rw[x2.2 _ (by omega)];exact a1⟩,by omega,Nat.le_refl _,b2,by omega,fun _=>z1.ext x2 (by omega)⟩
 have s:=s.ext (x1.trans x2)
 generalize h.next=p1 at hne g ⊢
 generalize h1.next=b at hne g ⊢
 refine s.pos (s.l fun v hr=>?_)
 rw[hr.len,Dh,ile]
 have fin:(L.length≤a∨bt (bts L) a=10)→(r86 W1 k (2*L.length+7)).a4 (.ptr p1 0) false false h2:=fun c=>by
  refine A3b ?_
  unfold Ahk
  obtain⟨t1,ht1⟩:=g.row
  refine(g.zero rfl).ldn rfl ?_
  refine Qn ht1 (by rfl) (by decide) fun t6 at6=>?_
  obtain⟨s6,f6⟩:=Wq (.row t6 8 0 TTk true) s g.fr hW g.l1 ht1
  refine at6.ldn rfl ?_
  exact K.no _ D a sp false (Lg c) c f6 s6 (fun _=>rfl) hD
 refine Qe (fun c=>?_) (fun c=>Dp rfl (fin (.inl (of_decide_eq_true c))))
 have hlt:a<L.length:=by have:=of_decide_eq_false c;omega
 refine s.l fun v2 hr2=>s.pos (Xx hr2 hlt ?_)
 rw[show Bx (Int.ofNat L[a].1.toNat) (Int.ofNat 10)=decide (L[a].1=10) from Tp _ 10 (by decide)]
 refine Br (fun d=>fin (.inr (by rw[Abn hlt];exact of_decide_eq_true d))) (fun d=>?_)
 have h10:bt (bts L) a≠10:=by rw[Abn hlt];exact of_decide_eq_false d
 refine s.l fun v3 hr3=>s.pos (Xx hr3 hlt ?_)
 rw[←Abn hlt]
 refine Lj (Bjq (bt (bts L) a)) ?_
 rw[Bn]
 obtain⟨vd,w,_⟩:=s.w
 obtain⟨t,hwr⟩:=w.Wm
 refine Br (fun hw=>?_) (fun hw=>?_)
 · refine s.pos (Bw (by omega) (s.setPos (b:=a+1) (Nat.le_succ _) fun h3 x3 _ _ s3=>?_))
   obtain⟨vd1,w1,_⟩:=s3.w
   obtain⟨t1,hwr1⟩:=w1.Wm
   refine s3.Oe (b:=true) fun h4 x4 _ _ s4=>?_
   have e:=Ahg (k:=L.length+1) (sp:=sp) (o:=false) hlt h10 hw
   exact Aqs hl hW hne (L.length+1) _ (by omega) (by omega) (by omega) hlt (fun q=>by cases q) ⟨fun h' D' a' sp' o' e'=>K.no h' D' a' sp' o' (by rw[e];exact e'),fun h' D' q' a' sp' e'=>K.yes h' D' q' a' sp' (by rw[e];exact e')⟩ ((g.fre hW x3 hwr).fre hW x4 hwr1) s4
 refine Bjp s hl hlt (by omega) fun hC DC aC iC oC xC sC cC1 cC2 cC3=>?_
 rw[Hu,Bn,Ht,Bn]
 have gC:=g.fre hW xC hwr
 refine Beo ?_
 unfold Amp
 cases hcom:Rh ((bts L).drop a) with
 |some nb=>
  obtain⟨m,bb⟩:=nb
  rw[hcom] at cC3
  obtain⟨rfl,rfl,rfl⟩:=cC3
  have cl:=Agk hcom
  rw[List.length_drop,Cl] at cl
  refine Dp rfl ?_
  obtain⟨vd1,w1,_⟩:=sC.w
  obtain⟨t1,hwr1⟩:=w1.Wm
  refine sC.Oe (b:=true) fun h3 x3 _ _ s3=>?_
  have e:=Acr (k:=L.length+1) (sp:=sp) (o:=false) hlt h10 hw hcom
  refine Aqs hl hW hne (L.length+1) _ (by omega) (by omega) (by omega) (by omega) (fun q=>by have:=cl.2.2 q;omega) ⟨fun h' D' a' sp' o' e' e2 e3 e4 e5 e6=>K.no h' D' a' sp' o' (by rw[e];exact e') e2 e3 e4 (fun z=>?_) e6,fun h' D' q' a' sp' e' e2 e3 e4 e5 e6 e7=>K.yes h' D' q' a' sp' (by rw[e];exact e') e2 e3 e4 e5 (fun z=>?_) e7⟩ (gC.fre hW x3 hwr1) s3
  · rw[e5 z]
    refine cC1 ?_
    cases oC with
    |false=>rfl
    |true=>
     have:=cl.2.2 rfl
     rw[Lg (.inl (by omega))] at e'
     cases e';cases z
  · obtain⟨z1,z2⟩:=e6 z
    refine⟨?_,z2⟩
    rw[z1]
    refine cC1 ?_
    cases oC with
    |false=>rfl
    |true=>
     have:=cl.2.2 rfl
     rw[Lg (.inl (by omega))] at e'
     cases e'
 |none=>
  rw[hcom] at cC3
  obtain⟨hac,rfl,rfl⟩:=cC3
  have hac:=hac.symm
  subst hac
  obtain rfl:=cC1 rfl
  refine Cp rfl ?_
  refine Bjo sC hl hlt (by omega) fun hT DT qT xT sT oT lT=>?_
  rw[Hu,Bj,Ht,Bj]
  obtain⟨vdC,wC,_⟩:=sC.w
  obtain⟨tC,hCr⟩:=wC.Wm
  have gT:=gC.fre hW xT hCr
  have nl:=Lt (s:=(bts L).drop a) (fun e=>by
   have:=congrArg List.length e
   rw[List.length_drop,Cl] at this
   have:L.length-a=0:=this
   omega)
  rw[List.length_drop,Cl] at nl
  obtain⟨vdT,wT,_⟩:=sT.w
  obtain⟨tT,rT,_,cT,oldT,_⟩:=wT.row
  rw[Am,Ad,Ae]
  refine Eh rT (by decide) ?_
  refine sT.pos (sT.pos (Bw (by omega) ?_))
  refine Aqp cT oldT (lo:=a) (hi:=a+(Go.Lx.Ds ((bts L).drop a)).2.1) (by omega) (by omega) hlt fun vC oC rC=>?_
  rw[Nat.add_sub_cancel_left] at rC
  have lenC:Cz vC=fun K=>K (Go.Lx.Ds ((bts L).drop a)).2.1:=by
   funext K
   rw[rC.len,Dh,List.length_take,List.length_drop]
   congr 1;omega
  rw[lenC]
  refine Axh hl hW hne nl.1 (by omega) (by omega) oC (fun hF fF sF=>?_) _ 0 (by omega) (Nat.zero_le _) (by rw[List.take_zero];exact gT) sT rC
  exact K.yes hF DT qT a sp (Acq hlt h10 hw hcom) hlt h10 fF sF oT (by omega)
end
end Go.Den
