/-
 A part of the proof.
-/
import Derived.Test.YtcnmehbkpaoolaaGreatDoorIsk
noncomputable section
namespace Go.Den
open Go.RowKit
set_option maxRecDepth 100000
open Go.Lx (Pv)
def T44 : Tm := Option.rec .e (fun t => t) (Ut (Sm 1) 44 [(0, (.str 4 1869903201)), (1, (.str 5 461195539042)), (2, (.str 4 1702060387)), (3, (.str 4 1918986339)), (4, (.str 5 500152823651)), (5, (.str 8 7310870969309884259)), (6, (.str 7 32770348699510116)), (7, (.str 2 28516)), (8, (.str 6 111516182736740)), (9, (.str 4 1702063205)), (10, (.str 4 1836412517)), (11, (.str 6 121437607458917)), (12, (.str 5 499850898534)), (13, (.str 3 7499622)), (14, (.str 4 1869901671)), (15, (.str 2 26217)), (16, (.str 6 111524889521769)), (17, (.str 3 7630441)), (18, (.str 4 1735290732)), (19, (.str 8 8243122732010005874)), (20, (.str 8 8386662871394903410)), (21, (.str 6 121437875889522)), (22, (.str 5 500136110195)), (23, (.str 6 110386806745459)), (24, (.str 6 112628629924211)), (25, (.str 6 109304575259763)), (26, (.str 6 127970521019507)), (27, (.str 6 114776364119923)), (28, (.str 7 28821929497491828)), (29, (.str 5 474315583093)), (30, (.str 8 7234309766870429301)), (31, (.str 4 1684631414)), (32, (.str 8 7308332243887091574)), (33, (.str 5 435610544247)), (34, (.str 8 8314047777532035423)), (35, (.str 8 7381239704712921439)), (36, (.str 7 27981941436596575)), (37, (.str 5 465726030431)), (38, (.str 8 8675459487327273823)), (39, (.str 8 7163382462278879071)), (40, (.str 10 573516293916391814023519)), (41, (.str 9 2037389474379710025311)), (42, (.str 14 2361822922107549468356405349339999)), (43, (.str 13 8586781807331162464568209855583))] (Ah (Je [.str 0 0] 44) 0 .e))
theorem Aqx : Cb T44 44 0 = kws.map fun p => .str (len p) (enc p) := by kernel_rfl
theorem b44 (h : H) : An env 44 (fun e ei => Ak 44 [(0, (.str 4 1869903201)), (1, (.str 5 461195539042)), (2, (.str 4 1702060387)), (3, (.str 4 1918986339)), (4, (.str 5 500152823651)), (5, (.str 8 7310870969309884259)), (6, (.str 7 32770348699510116)), (7, (.str 2 28516)), (8, (.str 6 111516182736740)), (9, (.str 4 1702063205)), (10, (.str 4 1836412517)), (11, (.str 6 121437607458917)), (12, (.str 5 499850898534)), (13, (.str 3 7499622)), (14, (.str 4 1869901671)), (15, (.str 2 26217)), (16, (.str 6 111524889521769)), (17, (.str 3 7630441)), (18, (.str 4 1735290732)), (19, (.str 8 8243122732010005874)), (20, (.str 8 8386662871394903410)), (21, (.str 6 121437875889522)), (22, (.str 5 500136110195)), (23, (.str 6 110386806745459)), (24, (.str 6 112628629924211)), (25, (.str 6 109304575259763)), (26, (.str 6 127970521019507)), (27, (.str 6 114776364119923)), (28, (.str 7 28821929497491828)), (29, (.str 5 474315583093)), (30, (.str 8 7234309766870429301)), (31, (.str 4 1684631414)), (32, (.str 8 7308332243887091574)), (33, (.str 5 435610544247)), (34, (.str 8 8314047777532035423)), (35, (.str 8 7381239704712921439)), (36, (.str 7 27981941436596575)), (37, (.str 5 465726030431)), (38, (.str 8 8675459487327273823)), (39, (.str 8 7163382462278879071)), (40, (.str 10 573516293916391814023519)), (41, (.str 9 2037389474379710025311)), (42, (.str 14 2361822922107549468356405349339999)), (43, (.str 13 8586781807331162464568209855583))] h e ei) = some (.slice h.next 0 44 1 true, h.new (.row T44 44 0 9 true)) := by kernel_rfl
theorem Bi0 (h : H) : Rd 1 (h.new (.row T44 44 0 9 true)) (.slice h.next 0 44 1 true) (es kws) := by
 refine ⟨h.next, 0, T44, 44, 0, 9, true, true, rfl, by rw [Bg]; omega, Ax _ _, by rw [Ny]; decide, fun i hi => ?_⟩
 have hi' : i < kws.length := by rw [Ny] at hi; exact hi
 rw [Af6 hi']
 refine ⟨rfl, fun j hj => ?_⟩
 have hj : j = 0 := by simp at hj; exact hj
 subst hj
 have e : Cb T44 44 0 = kws.map fun p => S p := by
  rw [Aqx]
  refine List.map_congr_left fun p _ => ?_
  rw [Cz]
 have h1 : (Cb T44 44 0)[i]? = some (S kws[i]) := by
  rw [e, List.getElem?_map, List.getElem?_eq_getElem hi']; rfl
 rw [Fw, List.getElem?_map, List.getElem?_range (show i < 44 from hi')] at h1
 have h2 := Option.some.inj h1
 show Az T44 (0 + i * 1 + 0) = _
 rw [show 0 + i * 1 + 0 = 0 + i by omega]; exact h2
def Apr (x : UInt8) : Bool := !(decide (x.toNat < 97) || decide (122 < x.toNat))
theorem Ats : ∀ w ∈ kws, Mt w = true ∧ w.length ≤ 20 ∧ (∀ x ∈ w, x ≠ 10) ∧ (∀ x ∈ w, x ≠ 63) := by decide
theorem Atk {x : UInt8} (h : Apr x = true) : Go.Lx.Bd x = true ∧ x ≠ 10 ∧ x ≠ 63 := by
 have h' : 97 ≤ x.toNat ∧ x.toNat ≤ 122 := by
  simp only [Apr, Bool.not_eq_true', Bool.or_eq_false_iff, decide_eq_false_iff_not] at h
  omega
 refine ⟨?_, ?_, ?_⟩
 · unfold Go.Lx.Bd
   rw [decide_eq_true h'.1, decide_eq_true h'.2]; rfl
 · rintro rfl; exact absurd h (by decide)
 · rintro rfl; exact absurd h (by decide)
theorem Ao6 {w m : List UInt8} (hw : Mt w = true) (hm : ∀ x ∈ m, Apr x = true) : Mt (w ++ m) = true := by
 cases w with
 | nil => cases hw
 | cons x w =>
  have hw : (Go.Lx.Bd x && w.all fun y => Go.Lx.Bd y || Go.Lx.isDigit y) = true := hw
  show (Go.Lx.Bd x && (w ++ m).all fun y => Go.Lx.Bd y || Go.Lx.isDigit y) = true
  rw [Bool.and_eq_true] at hw ⊢
  refine ⟨hw.1, ?_⟩
  rw [List.all_append, hw.2, Bool.true_and, List.all_eq_true]
  intro y hy
  rw [(Atk (hm y hy)).1]; rfl
def brk : List UInt8 := [32, 60, 58, 60, 37, 37, 62, 58, 62]
def txA (w m : List UInt8) : List UInt8 := (((w ++ [32]) ++ w) ++ m) ++ brk
def txB : List UInt8 := [35, 32, 35, 35, 32, 37, 58, 32, 37, 58, 37, 58]
theorem Aq8 (w m : List UInt8) : txA w m ++ [10] = w ++ 32 :: ((w ++ m) ++ 32 :: [60, 58, 60, 37, 37, 62, 58, 62, 10]) := by
 unfold txA brk; simp
theorem Anv : ∀ {s : List UInt8}, (∀ x ∈ s, x ≠ 63) → Go.Lx.Ako s = true
 | [], _ => rfl
 | [_], _ => rfl
 | a :: b :: r, h => by
  show (!(a == 63 && b == 63) && Go.Lx.Ako (b :: r)) = true
  rw [Anv (fun x hx => h x (by simp only [List.mem_cons] at hx ⊢; exact .inr hx)), Bool.and_true]
  rw [show (a == 63) = false from beq_eq_false_iff_ne.2 (h a (by simp))]; rfl
theorem Bcx {w m : List UInt8} (hw : Mt w = true) (hm : Mt (w ++ m) = true) : Pv 24 (txA w m ++ [10]) false = [(1, w, false), (1, w ++ m, true), (5, [60, 58], true), (5, [60, 37], false), (5, [37, 62], false), (5, [58, 62], false)] := by
 rw [Aq8, Ach hw 22 false, Ach hm 20 true]
 rfl
theorem Bcz {w m : List UInt8} (hw : Mt w = true) (hm : Mt (w ++ m) = true) : Rm 24 (txA w m ++ [10]) = true := by
 rw [Aq8, Aci hw 22, Aci hm 20]
 decide
theorem Bcw : Pv 24 (txB ++ [10]) false = [(5, [35], false), (5, [35, 35], true), (5, [37, 58], true), (5, [37, 58, 37, 58], true)] := by decide
theorem Bcy : Rm 24 (txB ++ [10]) = true := by decide
abbrev kT : KV := fun v _ => v = .bool true
theorem Agr {h : H} (he : Kl h) {k : KV} (hk : k (.bool true) h) : W1 (.func 15) [] h k := Wa c15 rfl rfl he hk
theorem A30 (w : List UInt8) (b : Bool) : Aac (1, w, b) = some (if w ∈ kws then 2 else 1, w) := by
 have e : Aac (1, w, b) = (if w ∈ kws then some (2, w) else some (1, w)) := by
  unfold Aac Gv
  have h1 : ((1 : Nat) : Int) = 1 := rfl
  simp only [h1, if_true]
 rw [e]
 split <;> rfl
theorem Att (w : List UInt8) (b : Bool) : Aac (5, w, b) = (Ho w).map fun s => (7, s) := rfl
section
variable {m : List UInt8} (hm : ∀ x ∈ m, Apr x = true) (hml : m.length ≤ 10)
include hm hml
theorem A77 {w : List UInt8} (hw : w ∈ kws) {h : H} (he : Kl h) {q : AV} {n i : Nat} (hr : Rd 1 h q (es kws)) (hi : i = 44) : (r6 W1 kT (n + 1)).a2 m.length (enc m) q w.length (enc w) (decide (w ++ m ∈ kws)) (Int.ofNat i) h := by
 subst hi
 obtain ⟨w1, w2, w3, w4⟩ := Ats w hw
 have wm := Ao6 w1 hm
 refine Bc6 ?_
 unfold Arm
 rw [hr.len, Ny, ilt]
 refine Bl rfl ?_
 refine Kz (s := w) (t := [32]) (by simp only [List.length_singleton]; omega) ?_
 refine Kz (s := w ++ [32]) (t := w) (by rw [List.length_append, List.length_singleton]; omega) ?_
 refine Kz (s := (w ++ [32]) ++ w) (t := m) (by rw [List.length_append, List.length_append, List.length_singleton]; omega) ?_
 refine Kz (s := ((w ++ [32]) ++ w) ++ m) (t := brk) (by rw [List.length_append, List.length_append, List.length_append, List.length_singleton]; show _ + 9 ≤ _; omega) ?_
 have hmem : ∀ x ∈ txA w m, x ≠ 10 ∧ x ≠ 63 := fun x hx => by
  unfold txA at hx
  simp only [List.mem_append, List.mem_singleton] at hx
  rcases hx with (((hx | hx) | hx) | hx) | hx
  · exact ⟨w3 x hx, w4 x hx⟩
  · subst hx; decide
  · exact ⟨w3 x hx, w4 x hx⟩
  · exact (Atk (hm x hx)).2
  · have : ∀ y ∈ brk, y ≠ 10 ∧ y ≠ 63 := by decide
    exact this x hx
 have hlen : (txA w m).length ≤ 100 := by
  unfold txA
  simp only [List.length_append, List.length_singleton]
  show w.length + 1 + w.length + m.length + 9 ≤ 100
  omega
 refine Ajh (s := txA w m) (K := 24) (by unfold txA brk; simp) (by omega) (fun x hx => (hmem x hx).1) (Anv fun x hx => (hmem x hx).2) (Bcz w1 wm) fun h2 v2 T hT x2 r2 => ?_
 rw [Bcx w1 wm] at hT
 have hTl : T.length = 6 := by have := congrArg List.length hT; rw [List.length_map] at this; exact this
 have hbare : ∀ x ∈ T, bare x ∈ [((1 : Nat), w, false), (1, w ++ m, true), (5, [60, 58], true), (5, [60, 37], false), (5, [37, 62], false), (5, [58, 62], false)] := fun x hx => by rw [← hT]; exact List.mem_map_of_mem hx
 have hkind : ∀ x ∈ T, x.kind ≠ 4 ∧ x.kind ≠ 7 := fun x hx => by
  have := hbare x hx
  simp only [bare, List.mem_cons, Prod.mk.injEq, List.not_mem_nil, or_false] at this
  omega
 have htext : ∀ x ∈ T.map Ti, x.text.length ≤ 1000 := fun y hy => by
  obtain ⟨x, hx, rfl⟩ := List.mem_map.1 hy
  show x.text.length ≤ 1000
  have := hbare x hx
  simp only [bare, List.mem_cons, Prod.mk.injEq, List.not_mem_nil, or_false] at this
  rcases this with h | h | h | h | h | h <;> (rw [h.2.1]; first | (rw [List.length_append]; omega) | omega | (simp))
 refine c16 r2 (by rw [List.length_map]; omega) htext (he.keep x2.1 x2.2) fun h3 vo vd x3 bo bd => ?_
 obtain ⟨e1, e2⟩ := Agc T 0 hkind
 rw [hT] at e1 e2
 simp only [List.filterMap_cons, List.filterMap_nil, List.countP_cons, List.countP_nil, A30, Att] at e1 e2
 have u1 : Ho [60, 58] = some [91] := by decide
 have u2 : Ho [60, 37] = some [123] := by decide
 have u3 : Ho [37, 62] = some [125] := by decide
 have u4 : Ho [58, 62] = some [93] := by decide
 simp only [u1, u2, u3, u4, Option.map_some, Option.isNone_some, Bool.false_eq_true, if_false, List.cons_append, List.nil_append] at e1 e2
 generalize hO : (Dl (T.map Ti) 0 0).1 = O at *
 generalize hD : (Dl (T.map Ti) 0 0).2 = D at *
 have hOl : O.length = 7 := by have := congrArg List.length e1; rw [List.length_map] at this; exact this
 have hDl : D.length = 0 := by rw [e2]
 rw [Ed, Ek]
 have he3 : Kl h3 := (he.keep x2.1 x2.2).keep x3.1 x3.2
 refine Ajh (s := txB) (K := 24) (by decide) (by decide) (by decide) (by decide) Bcy fun h4 v4 T' hT' x4 r4 => ?_
 rw [Bcw] at hT'
 have hTl' : T'.length = 4 := by have := congrArg List.length hT'; rw [List.length_map] at this; exact this
 have hbare' : ∀ x ∈ T', bare x ∈ [((5 : Nat), ([35] : List UInt8), false), (5, [35, 35], true), (5, [37, 58], true), (5, [37, 58, 37, 58], true)] := fun x hx => by rw [← hT']; exact List.mem_map_of_mem hx
 have hkind' : ∀ x ∈ T', x.kind ≠ 4 ∧ x.kind ≠ 7 := fun x hx => by
  have := hbare' x hx
  simp only [bare, List.mem_cons, Prod.mk.injEq, List.not_mem_nil, or_false] at this
  omega
 have htext' : ∀ x ∈ T'.map Ti, x.text.length ≤ 1000 := fun y hy => by
  obtain ⟨x, hx, rfl⟩ := List.mem_map.1 hy
  show x.text.length ≤ 1000
  have := hbare' x hx
  simp only [bare, List.mem_cons, Prod.mk.injEq, List.not_mem_nil, or_false] at this
  rcases this with h | h | h | h <;> (rw [h.2.1]; simp)
 refine c16 r4 (by rw [List.length_map]; omega) htext' (he3.keep x4.1 x4.2) fun h5 vo' vd' x5 bo' bd' => ?_
 obtain ⟨e1', e2'⟩ := Agc T' 0 hkind'
 rw [hT'] at e2'
 have hDl' : (Dl (T'.map Ti) 0 0).2.length = 4 := by rw [e2']; simp only [List.countP_cons, List.countP_nil, Att]; decide
 rw [Ed, Ek]
 have x35 := x4.trans x5
 have bo5 := bo.ext x35
 have bd5 := bd.ext x35
 have he5 : Kl h5 := he3.keep x35.1 x35.2
 have ro : Rd 7 h5 vo (O.map CT.cells) := bo5.rd (fun e => by have := congrArg List.length e; rw [List.length_map, hOl] at this; cases this)
 rw [bo5.len, List.length_map, hOl]
 refine Ua (fun _ => ?_) (fun e => nomatch e)
 rw [bd5.len, List.length_map, hDl]
 refine Ua (fun _ => ?_) (fun e => nomatch e)
 rw [bd'.len, List.length_map, hDl']
 refine Bl rfl ?_
 refine ro.ctk (i := 0) (p := (2, w)) (by rw [e1, if_pos hw]; rfl) ?_
 rw [Au]
 refine Gq (fun _ => ?_) (fun e => nomatch e)
 refine ro.ctx (i := 0) (p := (2, w)) (by rw [e1, if_pos hw]; rfl) ?_
 rw [Ce, Cq, decide_eq_true rfl]
 refine Gq (fun _ => ?_) (fun e => nomatch e)
 refine ro.ctk (i := 1) (p := (if w ++ m ∈ kws then 2 else 1, w ++ m)) (by rw [e1]; rfl) ?_
 rw [Au, Bk2, Iz, Bv]
 have eb : Abt (Ba (Int.ofNat (if w ++ m ∈ kws then 2 else 1, w ++ m).1) (Int.ofNat 2)) (decide (w ++ m ∈ kws)) = true := by
  by_cases e : w ++ m ∈ kws
  · rw [if_pos e, decide_eq_true e]; rfl
  · rw [if_neg e, decide_eq_false e]; rfl
 rw [eb]
 refine Gq (fun _ => ?_) (fun e => nomatch e)
 refine ro.ctx (i := 2) (p := (7, [91])) (by rw [e1]; rfl) ?_
 rw [Ce]
 refine ro.ctx (i := 3) (p := (7, [123])) (by rw [e1]; rfl) ?_
 rw [Ce]
 refine Kz (s := [91]) (t := [123]) (by decide) ?_
 refine ro.ctx (i := 4) (p := (7, [125])) (by rw [e1]; rfl) ?_
 rw [Ce]
 refine Kz (s := [91] ++ [123]) (t := [125]) (by decide) ?_
 refine ro.ctx (i := 5) (p := (7, [93])) (by rw [e1]; rfl) ?_
 rw [Ce]
 refine Kz (s := [91] ++ [123] ++ [125]) (t := [93]) (by decide) ?_
 rw [Mx (t := [91, 123, 125, 93]) (l := 4) (c := 1568504667) rfl rfl, decide_eq_true (show ([91] : List UInt8) ++ [123] ++ [125] ++ [93] = [91, 123, 125, 93] from rfl)]
 refine Gq (fun _ => ?_) (fun e => nomatch e)
 refine Wa (c20 w) rfl rfl he5 ?_
 rw [Bv, decide_eq_true hw]
 refine Gq (fun _ => ?_) (fun e => nomatch e)
 refine Agr he5 ?_
 rw [Bv]
theorem Bfy {w : List UInt8} (hw : w ∈ kws) {h : H} (he : Kl h) {q : AV} (hr : Rd 1 h q (es kws)) : ∀ (n i : Nat), 44 - i < n → i ≤ 44 → (r6 W1 kT n).a2 m.length (enc m) q w.length (enc w) (decide (w ++ m ∈ kws.take i)) (Int.ofNat i) h
 | 0, _, hn, _ => absurd hn (Nat.not_lt_zero _)
 | n + 1, i, hn, hi => by
  obtain ⟨_, w2, _, _⟩ := Ats w hw
  by_cases e : i = 44
  · have := A77 hm hml hw he (n := n) hr e
    rw [show kws.take i = kws by rw [e]; rfl]; exact this
  · have hlt : i < kws.length := show i < 44 by omega
    refine Bc6 ?_
    unfold Arm
    rw [hr.len, Ny, ilt, decide_eq_true hlt]
    refine Cd rfl ?_
    refine Ou (b := decide (kws[i] = w ++ m)) (fun k' hk' => ?_) ?_
    · rw [As]
      refine hr.str hlt ?_
      rw [Ce]
      refine Kz (s := w) (t := m) (by omega) ?_
      rw [Cq]; exact hk'
    · rw [Dk, Cm (by omega), Ar]
      have := Bfy hw he hr n (i + 1) (by omega) (by omega)
      have eb : (decide (w ++ m ∈ kws.take i) || decide (kws[i] = w ++ m)) = decide (w ++ m ∈ kws.take (i + 1)) := by
       rw [List.take_succ_eq_append_getElem hlt, Bool.eq_iff_iff, Bool.or_eq_true, decide_eq_true_eq, decide_eq_true_eq, decide_eq_true_eq, List.mem_append, List.mem_singleton]
       exact or_congr Iff.rfl ⟨Eq.symm, Eq.symm⟩
      rw [eb]; exact this
end
theorem Bfz {k : Int} {m : List UInt8} (hml0 : m.length ≤ 9223372036854775807) {h : H} (he : Kl h) : ∀ (n i : Nat), m.length - i + 50 < n → i ≤ m.length → (∀ x ∈ m.take i, Apr x = true) → (r6 W1 kT n).a1 k m.length (enc m) (Int.ofNat i) h
 | 0, _, hn, _, _ => absurd hn (Nat.not_lt_zero _)
 | n + 1, i, hn, hi, hlow => by
  refine Bjf ?_
  unfold Ax5
  rw [ilt]
  refine Bb (fun e => ?_) (fun e => ?_)
  · have e : i < m.length := of_decide_eq_true e
    rw [As]
    refine Ch e ?_
    refine Ou (b := decide (122 < m[i].toNat)) (fun k' hk' => ?_) ?_
    · rw [As]
      refine Ch e ?_
      rw [ilt]; exact hk'
    rw [ilt]
    refine Bb (fun el => ?_) (fun el => ?_)
    · refine Agr he ?_
      rw [Bv]
    · rw [Dk, Cm (by omega), Ar]
      refine Bfz hml0 he n (i + 1) (by omega) e fun x hx => ?_
      rw [List.take_succ_eq_append_getElem e] at hx
      rcases List.mem_append.1 hx with hx | hx
      · exact hlow x hx
      · simp only [List.mem_singleton] at hx
        subst hx
        unfold Apr
        rw [el]; rfl
  · have e : i = m.length := by have := of_decide_eq_false e; omega
    rw [e, List.take_length] at hlow
    refine Jg ?_
    rw [Fk, ilt]
    refine Bb (fun _ => ?_) (fun ec => ?_)
    · refine Agr he ?_
      rw [Bv]
    · rw [Bool.or_eq_false_iff, decide_eq_false_iff_not, decide_eq_false_iff_not] at ec
      rw [b44, Ae, Ih]
      have r4 := Bi0 h
      have x4 : Exh h (h.new (.row T44 44 0 9 true)) := .new
      generalize h.new (.row T44 44 0 9 true) = h4 at r4 x4 ⊢
      obtain ⟨r, hr, hp⟩ := c23 k (m := 44) (by decide) (by decide)
      refine Dn hp ?_
      rw [Au, As]
      refine r4.str hr ?_
      rw [Ce]
      have := Bfy (m := m) hlow (by omega) (w := kws[r]'hr) (List.getElem_mem hr) (he.keep x4.1 x4.2) r4 n 0 (by omega) (by omega)
      exact this
theorem c6 (k : Int) (m : List UInt8) (hl : m.length ≤ 9223372036854775807) : SW PP G (.func 6) [.int .i64 k, S m] h1 kT := by
 refine w6 (n := m.length + 51 + 1) Bj (g6 ?_)
 unfold Ax6
 exact Bfz hl Aob (m.length + 51) 0 (by omega) (Nat.zero_le _) (fun x hx => by simp at hx)
end Go.Den
