/-
 A part of the proof.
-/
import Derived.Test.YtcnmehbkpaoolaaGreatDoorKeyw
import Derived.Test.YtcnmehbkpaoolaaGreatDoorQuot
noncomputable section
namespace Go.Den
open Go.RowKit
set_option maxRecDepth 100000
structure Ef where
 kind : Int
 text : List UInt8
 space : Bool
 file : List UInt8
 f : Int
 t : Int
 made : Bool
 sites : AV
structure CT where
 kind : Nat
 text : List UInt8
 file : List UInt8
 f : Int
 t : Int
 frm : Nat
 cnt : Nat
structure DT where
 file : List UInt8
 f : Int
 t : Int
def Ef.cells (x : Ef) : List AV := [.int .i64 x.kind, S x.text, .bool x.space, S x.file, .int .i64 x.f, .int .i64 x.t, .bool x.made, x.sites]
def CT.cells (x : CT) : List AV := [.int .i64 (.ofNat x.kind), S x.text, S x.file, .int .i64 x.f, .int .i64 x.t, .int .i64 (.ofNat x.frm), .int .i64 (.ofNat x.cnt)]
def DT.cells (x : DT) : List AV := [.int .i64 (.ofNat 19), S x.file, .int .i64 x.f, .int .i64 x.t]
def Ef.dt (x : Ef) : DT := ⟨x.file, x.f, x.t⟩
def Wc (s : List UInt8) : Bool := decide (s = [35]) || decide (s = [37, 58]) || (decide (s = [35, 35]) || decide (s = [37, 58, 37, 58]))
def Ho (s : List UInt8) : Option (List UInt8) :=
 if s = [60, 58] then some [91] else if s = [58, 62] then some [93] else if s = [60, 37] then some [123] else if s = [37, 62] then some [125] else if Wc s = true then none else some s
def Gv (x : Ef) : Option (Nat × List UInt8) :=
 if x.kind = 1 then (if x.text ∈ kws then some (2, x.text) else some (1, x.text))
 else if x.kind = 2 then (if (Apn x.text).isSome = true then some (3, x.text) else if We x.text = true then some (4, x.text) else none)
 else if x.kind = 3 then (if (Vi x.text).isSome = true then some (5, x.text) else none)
 else if x.kind = 5 then (Ho x.text).map fun s => (7, s)
 else none
structure GS where
 first : List UInt8
 told : Bool
 acc : List UInt8
 cnt : Nat
 used : Nat
 ds : List DT
def GS.add (g : GS) (x : Ef) (b : List UInt8) (k : Nat) : GS :=
 if (Bf x.text).1 = [] ∨ (Bf x.text).1 = g.first then { g with acc := g.acc ++ b, cnt := g.cnt + 1, used := k }
 else if g.first = [] then { g with first := (Bf x.text).1, acc := g.acc ++ b, cnt := g.cnt + 1, used := k }
 else if g.told = true then { g with acc := g.acc ++ b, cnt := g.cnt + 1, used := k }
 else { g with told := true, ds := g.ds ++ [x.dt], acc := g.acc ++ b, cnt := g.cnt + 1, used := k }
def Et : List Ef → Nat → GS → GS
 | [], _, g => g
 | x :: l, k, g => if x.kind = 7 then Et l (k + 1) g else if x.kind = 4 then (match Lf x.text with
  | none => g
  | some b => Et l (k + 1) (g.add x b (k + 1))) else g
def g0 : GS := ⟨[], false, [], 0, 0, []⟩
def Dl : List Ef → Nat → Nat → List CT × List DT
 | [], i, _ => ([⟨8, [], [], 0, 0, i, 0⟩], [])
 | _ :: l, i, k + 1 => Dl l (i + 1) k
 | x :: l, i, 0 =>
  if x.kind = 4 then
   (if (Et (x :: l) 0 g0).cnt = 0 then ((Dl l (i + 1) 0).1, x.dt :: (Dl l (i + 1) 0).2)
   else (⟨6, (Et (x :: l) 0 g0).first ++ Sk (Et (x :: l) 0 g0).acc, x.file, x.f, x.t, i, (Et (x :: l) 0 g0).cnt⟩ :: (Dl l (i + 1) ((Et (x :: l) 0 g0).used - 1)).1, (Et (x :: l) 0 g0).ds ++ (Dl l (i + 1) ((Et (x :: l) 0 g0).used - 1)).2))
  else if x.kind = 7 then Dl l (i + 1) 0
  else match Gv x with
   | none => ((Dl l (i + 1) 0).1, x.dt :: (Dl l (i + 1) 0).2)
   | some p => (⟨p.1, p.2, x.file, x.f, x.t, i, 1⟩ :: (Dl l (i + 1) 0).1, (Dl l (i + 1) 0).2)
theorem Aau : ∀ (l : List Ef) (i k : Nat), k ≤ l.length → Dl l i k = Dl (l.drop k) (i + k) 0
 | _, _, 0, _ => rfl
 | [], _, _ + 1, h => by simp at h
 | x :: l, i, k + 1, h => by
  have := Aau l (i + 1) k (by simpa using h)
  rw [Dl, this, List.drop_succ_cons, show i + 1 + k = i + (k + 1) by omega]
theorem GS.Ao0 (g : GS) (x : Ef) (b : List UInt8) (k : Nat) : (g.add x b k).cnt = g.cnt + 1 ∧ (g.add x b k).used = k ∧ (g.add x b k).acc = g.acc ++ b ∧ (g.add x b k).ds.length ≤ g.ds.length + 1 := by
 unfold GS.add
 split
 · exact ⟨rfl, rfl, rfl, Nat.le_succ _⟩
 · split
   · exact ⟨rfl, rfl, rfl, Nat.le_succ _⟩
   · split
     · exact ⟨rfl, rfl, rfl, Nat.le_succ _⟩
     · exact ⟨rfl, rfl, rfl, by simp⟩
theorem Pz : ∀ (l : List Ef) (k : Nat) (g : GS), g.used ≤ k → g.cnt ≤ k → g.ds.length ≤ k → (g.cnt ≠ 0 → 0 < g.used) → (Et l k g).used ≤ k + l.length ∧ (Et l k g).cnt ≤ k + l.length ∧ (Et l k g).ds.length ≤ k + l.length ∧ ((Et l k g).cnt ≠ 0 → 0 < (Et l k g).used)
 | [], k, g, h1, h2, h3, h4 => ⟨h1, h2, h3, h4⟩
 | x :: l, k, g, h1, h2, h3, h4 => by
  unfold Et
  split
  · have := Pz l (k + 1) g (by omega) (by omega) (by omega) h4
    simp only [List.length_cons]; omega
  · split
    · split
      · simp only [List.length_cons]; omega
      · rename_i b _
        obtain ⟨a1, a2, a3, a4⟩ := g.Ao0 x b (k + 1)
        have := Pz l (k + 1) (g.add x b (k + 1)) (by omega) (by omega) (by omega) (by omega)
        simp only [List.length_cons]; omega
    · simp only [List.length_cons]; omega
def Z40 : Tm := Ah [.int .i64 (.ofNat 0), .str 0 0, .str 0 0, .int .i64 (.ofNat 0), .int .i64 (.ofNat 0), .int .i64 (.ofNat 0), .int .i64 (.ofNat 0)] 0 .e
def Z48 : Tm := Ah [.int .i64 (.ofNat 0), .str 0 0, .int .i64 (.ofNat 0), .int .i64 (.ofNat 0)] 0 .e
theorem A1j (a b c d e f g : AV) (h : H) : An env 25 (fun e' ei => Ak 1 [(0, .agg [a, b, c, d, e, f, g])] h e' ei) = some (.slice h.next 0 1 7 true, h.new (.row (Ah [a, b, c, d, e, f, g] 0 Z40) 7 0 40 true)) := by kernel_rfl
theorem Bge (a b c d : AV) (h : H) : An env 26 (fun e' ei => Ak 1 [(0, .agg [a, b, c, d])] h e' ei) = some (.slice h.next 0 1 4 true, h.new (.row (Ah [a, b, c, d] 0 Z48) 4 0 48 true)) := by kernel_rfl
theorem A1r (x y : AV) (h : H) : Aq env .append [25, 25] [x, y] h = Dc (some false) x y h 40 (Ox 40) := by kernel_rfl
theorem Bgv (x y : AV) (h : H) : Aq env .append [26, 26] [x, y] h = Dc (some false) x y h 48 (Ox 48) := by kernel_rfl
theorem Bbe : (Ox 40).size = 7 := by kernel_rfl
theorem Biq : (Ox 48).size = 4 := by kernel_rfl
theorem Aum {n : Nat} (hn : n ≤ 1099511627776) : Cf (Ox 40) n = true := Wi (by kernel_rfl) (by kernel_rfl) hn
theorem A48 {n : Nat} (hn : n ≤ 1099511627776) : Cf (Ox 48) n = true := Wi (by kernel_rfl) (by kernel_rfl) hn
theorem Bdx (l c : Nat) (a b : Int) (h : H) : Bm env (env.ty 48) [(0, (.int .i64 (Int.ofNat 19))), (1, .agg [.str l c, .int .i64 a, .int .i64 b])] h = some (.agg [.int .i64 (.ofNat 19), .str l c, .int .i64 a, .int .i64 b], h) := by kernel_rfl
theorem Bd0 (kk : Int) (l c l' c' : Nat) (a b i n : Int) (h : H) : Bm env (env.ty 40) [(0, (.int .i64 kk)), (1, (.str l' c')), (2, .agg [.str l c, .int .i64 a, .int .i64 b]), (3, (.int .i64 i)), (4, (.int .i64 n))] h = some (.agg [.int .i64 kk, .str l' c', .str l c, .int .i64 a, .int .i64 b, .int .i64 i, .int .i64 n], h) := by kernel_rfl
theorem A5g (i : Int) (h : H) : Bm env (env.ty 40) [(0, (.int .i64 (Int.ofNat 8))), (3, (.int .i64 i))] h = some (.agg [.int .i64 (.ofNat 8), .str 0 0, .str 0 0, .int .i64 (.ofNat 0), .int .i64 (.ofNat 0), .int .i64 i, .int .i64 (.ofNat 0)], h) := by kernel_rfl
theorem A5f (l c : Nat) (a b i : Int) (h : H) : Bm env (env.ty 40) [(0, (.int .i64 (Int.ofNat 6))), (2, .agg [.str l c, .int .i64 a, .int .i64 b]), (3, (.int .i64 i))] h = some (.agg [.int .i64 (.ofNat 6), .str 0 0, .str l c, .int .i64 a, .int .i64 b, .int .i64 i, .int .i64 (.ofNat 0)], h) := by kernel_rfl
theorem Bdu (v : AV) (hv : Sl v) (h : H) : Bm env (env.ty 98) [(1, v)] h = some (.agg (Iv ++ [v, .Ad, .Ad]), h) := by
 rcases hv with rfl | ⟨b, o, n, z, t, rfl⟩
 · kernel_rfl
 · kernel_rfl
def WD (lo : Nat) (h : H) (W : List AV) : Prop := W = Iv ∨ ∃ q, W = Ky q ∧ q.nat < h.next.nat ∧ lo ≤ q.nat ∧ h.at q = .map Kb 44
theorem WD.len {lo : Nat} {h : H} {W : List AV} (hw : WD lo h W) : W.length = 4 := by
 rcases hw with rfl | ⟨q, rfl, _⟩ <;> rfl
theorem Is7.Biw {t : Tm} {W : List AV} {a b c c' : AV} (hw : W.length = 4) (ht : Is7 t (W ++ [a, b, c])) : Is7 (Ah [c'] (0 + 6) t) (W ++ [a, b, c']) := by
 match W, hw with
 | [w0, w1, w2, w3], _ =>
  intro i hi
  rw [Ao]
  by_cases e : i = 6
  · subst e; rw [if_pos (by simp)]; rfl
  · rw [if_neg (by simp; omega), ht i hi]
    match i, hi, e with
    | 0, _, _ | 1, _, _ | 2, _, _ | 3, _, _ | 4, _, _ | 5, _, _ => rfl
    | 6, _, e => exact absurd rfl e
theorem Is7.Bix {t : Tm} {W : List AV} {a b c b' : AV} (hw : W.length = 4) (ht : Is7 t (W ++ [a, b, c])) : Is7 (Ah [b'] (0 + 5) t) (W ++ [a, b', c]) := by
 match W, hw with
 | [w0, w1, w2, w3], _ =>
  intro i hi
  rw [Ao]
  by_cases e : i = 5
  · subst e; rw [if_pos (by simp)]; rfl
  · rw [if_neg (by simp; omega), ht i hi]
    match i, hi, e with
    | 0, _, _ | 1, _, _ | 2, _, _ | 3, _, _ | 4, _, _ | 6, _, _ => rfl
    | 5, _, e => exact absurd rfl e
theorem Is7.g4 {t : Tm} {W : List AV} {a b c : AV} (hw : W.length = 4) (ht : Is7 t (W ++ [a, b, c])) : Az t (0 + 4) = a ∧ Az t (0 + 5) = b ∧ Az t (0 + 6) = c := by
 match W, hw with
 | [w0, w1, w2, w3], _ => exact ⟨ht 4 (by decide), ht 5 (by decide), ht 6 (by decide)⟩
def Mk (Y : AV → Prop) (lo : Nat) (B : P) (vL : AV) (O : List CT) (D : List DT) (h : H) : Prop :=
 ∃ tb y2 y3 W, h.at B = .row tb 7 0 98 true ∧ B.nat < h.next.nat ∧ lo ≤ B.nat ∧ Is7 tb (W ++ [vL, y2, y3]) ∧ WD lo h W ∧ Cv 40 7 lo h y2 (O.map CT.cells) ∧ Cv 48 4 lo h y3 (D.map DT.cells) ∧ Y y2
theorem Mk.hlo {Y : AV → Prop} {lo : Nat} {B : P} {vL : AV} {O : List CT} {D : List DT} {h : H} (m : Mk Y lo B vL O D h) : lo ≤ h.next.nat := by
 obtain ⟨_, _, _, _, _, h1, h2, _⟩ := m; omega
theorem WD.mono {lo : Nat} {h h' : H} {W : List AV} (hw : WD lo h W) (hn : h.next.nat ≤ h'.next.nat) (hf : ∀ q, q.nat < h.next.nat → h.at q = .map Kb 44 → h'.at q = h.at q) : WD lo h' W := by
 rcases hw with rfl | ⟨q, rfl, a, b, c⟩
 · exact .inl rfl
 · exact .inr ⟨q, rfl, by omega, b, by rw [hf q a c]; exact c⟩
theorem Mk.mono {Y : AV → Prop} {lo : Nat} {B : P} {vL : AV} {O : List CT} {D : List DT} {h h' : H} (m : Mk Y lo B vL O D h) (hn : h.next.nat ≤ h'.next.nat) (hf : ∀ c, c.nat < h.next.nat → lo ≤ c.nat → ((∃ t m z w, h.at c = .row t m z 98 w) ∨ ((∃ t m z w, h.at c = .row t m z 40 w) ∧ ∃ o n z b, Y (.slice c o n z b)) ∨ (∃ t m z w, h.at c = .row t m z 48 w) ∨ h.at c = .map Kb 44) → h'.at c = h.at c) : Mk Y lo B vL O D h' := by
 obtain ⟨tb, y2, y3, W, a1, a2, a3, a4, a5, a6, a7, a8⟩ := m
 refine ⟨tb, y2, y3, W, by rw [hf B a2 a3 (.inl ⟨_, _, _, _, a1⟩)]; exact a1, by omega, a3, a4, ?_, ?_, ?_, a8⟩
 · rcases a5 with rfl | ⟨q, rfl, a, b, c⟩
   · exact .inl rfl
   · exact .inr ⟨q, rfl, by omega, b, by rw [hf q a b (.inr (.inr (.inr c)))]; exact c⟩
 · rcases a6 with ⟨rfl, e⟩ | ⟨q, t, m, z, w, rfl, b1, b2, b3, b4⟩
   · exact .inl ⟨rfl, e⟩
   · exact .inr ⟨q, t, m, z, w, rfl, b1, by omega, by rw [hf q b2 b1 (.inr (.inl ⟨⟨_, _, _, _, b3⟩, _, _, _, _, a8⟩))]; exact b3, b4⟩
 · exact a7.frame hn fun c hc h1 t m z w ha => hf c hc h1 (.inr (.inr (.inl ⟨t, m, z, w, ha⟩)))
theorem Mk.ext {Y : AV → Prop} {lo : Nat} {B : P} {vL : AV} {O : List CT} {D : List DT} {h h' : H} (m : Mk Y lo B vL O D h) (x : Exh h h') : Mk Y lo B vL O D h' := m.mono x.1 fun c hc _ _ => x.2 c hc
def FrK (e : TypeId) (lo : Nat) (B : P) (h h' : H) : Prop := h.next.nat ≤ h'.next.nat ∧ ∀ c, c.nat < h.next.nat → c ≠ B → (c.nat < lo ∨ ∀ t m z w, h.at c ≠ .row t m z e w) → h'.at c = h.at c
theorem c36 {Y : AV → Prop} {lo : Nat} {B : P} {vL : AV} {O : List CT} {D : List DT} {h : H} {x : DT} (m : Mk Y lo B vL O D h) (hl : D.length + 1 ≤ 1099511627776) {k : KV} (hk : ∀ h', Mk Y lo B vL O (D ++ [x]) h' → FrK 48 lo B h h' → k (.tuple []) h') : W1 (.func 36) [.ptr B 0, .agg [S x.file, .int .i64 x.f, .int .i64 x.t]] h k := by
 refine w36 (n := 1) Bj (g36 ?_)
 unfold Am5
 rw [Vr]
 refine Xd (by simp) (Ec ?_)
 have at1 : AtP (h.new (rowOf 38 [S x.file, .int .i64 x.f, .int .i64 x.t])) h.next 0 [S x.file, .int .i64 x.f, .int .i64 x.t] := AtP.newRow
 have x1 : Exh h (h.new (rowOf 38 [S x.file, .int .i64 x.f, .int .i64 x.t])) := .new
 generalize h.new (rowOf 38 [S x.file, .int .i64 x.f, .int .i64 x.t]) = h1 at at1 x1 ⊢
 have m1 := m.ext x1
 obtain ⟨tb, y2, y3, W, a1, a2, a3, a4, a5, a6, a7, a8⟩ := m1
 rw [Bi, Ae, Ay]
 refine Ct a1 (by decide) ?_
 rw [(a4.g4 a5.len).2.2]
 refine at1.ldn (cs := [S x.file, .int .i64 x.f, .int .i64 x.t]) rfl ?_
 rw [Bdx, Ae, Bge, Ae]
 have x2 : Exh h1 (h1.new (.row (Ah [.int .i64 (.ofNat 19), S x.file, .int .i64 x.f, .int .i64 x.t] 0 Z48) 4 0 48 true)) := .new
 have a1' : (h1.new (.row (Ah [.int .i64 (.ofNat 19), S x.file, .int .i64 x.f, .int .i64 x.t] 0 Z48) 4 0 48 true)).at B = .row tb 7 0 98 true := by rw [x2.2 B a2]; exact a1
 refine Ct a1' (by decide) ?_
 rw [(a4.g4 a5.len).2.2, Aat a7.sl, Bgv]
 have hlo : lo ≤ h1.next.nat := by omega
 refine Awj (ds := DT.cells x) (a7.ext x2) rfl Biq (A48 (by rw [List.length_map]; exact hl)) (by rw [Bg]; omega) rfl rfl fun v' h3 b3 x3 => ?_
 have hBn : B.nat < (h1.new (.row (Ah [.int .i64 (.ofNat 19), S x.file, .int .i64 x.f, .int .i64 x.t] 0 Z48) 4 0 48 true)).next.nat := by rw [Bg]; omega
 have a1'' : h3.at B = .row tb 7 0 98 true := by rw [x3.2 B hBn (.inr fun t m z w e => by rw [a1'] at e; cases e)]; exact a1'
 have n3 := x3.1
 have n2 := x2.1
 have n1 := x1.1
 rw [Bi, Ae, Ay]
 refine Pf a1'' (Nat.zero_le _) (by decide) b3.one ?_
 refine hk _ ⟨_, y2, v', W, Bn _ _ _, by rw [Da]; omega, a3, a4.Biw a5.len, ?_, ?_, ?_, a8⟩ ⟨by rw [Da]; omega, fun c hc hcB hh => ?_⟩
 · refine a5.mono (by rw [Da]; omega) fun q hq hm => ?_
   rw [Br (fun e => by subst e; rw [a1] at hm; cases hm), x3.2 q (by omega) (.inr fun t m z w e => by rw [x2.2 q hq, hm] at e; cases e), x2.2 q hq]
 · refine (a6.ext x2).frame (by rw [Da]; omega) fun q hq h1 t m z w e => ?_
   rw [Br (fun e' => by subst e'; rw [a1'] at e; cases e), x3.2 q hq (.inr fun t m z w e' => by rw [e] at e'; cases e')]
 · rw [List.map_append]
   exact b3.frame (Nat.le_refl _) fun q hq h1 t m z w e => Br fun e' => by subst e'; rw [a1''] at e; cases e
 · rw [Br hcB, x3.2 c (by omega) (hh.imp id fun hh t m z w => by rw [x2.2 c (by omega), x1.2 c hc]; exact hh t m z w), x2.2 c (by omega), x1.2 c hc]
def FrO (B : P) (h h' : H) : Prop := h.next.nat ≤ h'.next.nat ∧ ∀ c, c.nat < h.next.nat → c ≠ B → h'.at c = h.at c
theorem Blf {Y : AV → Prop} {lo : Nat} {B : P} {vL : AV} {O : List CT} {D : List DT} {h : H} (s : List UInt8) (he : Kl h) (m : Mk Y lo B vL O D h) (hL : Sl vL) (hlo : 12 ≤ lo) {k : KV} (hk : ∀ h', Mk Y lo B vL O D h' → FrO B h h' → k (.bool (decide (s ∈ kws))) h') : W1 (.func 43) [.ptr B 0, S s] h k := by
 obtain ⟨tb, y2, y3, W, a1, a2, a3, a4, a5, a6, a7, a8⟩ := m
 rcases a5 with rfl | ⟨q, rfl, b1, b2, b3⟩
 · refine Aqh s he (by omega) a1 a4 hL a6.sl a7.sl ?_
   have f : ∀ c, c.nat < h.next.nat → c ≠ B → ((h.put B (.row (Ah (Ky h.next ++ [vL, y2, y3]) 0 .e) 7 0 98 true)).new (.map Kb 44)).at c = h.at c := fun c hc hcB => by
    rw [Df (show c.nat < (h.put B (.row (Ah (Ky h.next ++ [vL, y2, y3]) 0 .e) 7 0 98 true)).next.nat from hc), Br hcB]
   have nn : ((h.put B (.row (Ah (Ky h.next ++ [vL, y2, y3]) 0 .e) 7 0 98 true)).new (.map Kb 44)).next.nat = h.next.nat + 1 := Bg
   refine hk _ ⟨Ah (Ky h.next ++ [vL, y2, y3]) 0 .e, y2, y3, Ky h.next, ?_, by rw [nn]; omega, a3, Ko _ rfl _, .inr ⟨h.next, rfl, by rw [nn]; omega, by omega, Ax (h.put B (.row (Ah (Ky h.next ++ [vL, y2, y3]) 0 .e) 7 0 98 true)) _⟩, ?_, ?_, a8⟩ ⟨by rw [nn]; omega, fun c hc hcB => f c hc hcB⟩
   · rw [Df (show B.nat < (h.put B (.row (Ah (Ky h.next ++ [vL, y2, y3]) 0 .e) 7 0 98 true)).next.nat from a2), Bn]
   · exact a6.frame (by rw [nn]; omega) fun c hc _ t m z w e => f c hc fun e' => by subst e'; rw [a1] at e; cases e
   · exact a7.frame (by rw [nn]; omega) fun c hc _ t m z w e => f c hc fun e' => by subst e'; rw [a1] at e; cases e
 · refine Avs s a2 b1 a1 (by decide) ?_ ?_ b3 fun h' x => hk h' ?_ ⟨x.1, fun c hc _ => x.2 c hc⟩
   · rw [a4 0 (by decide)]; rfl
   · rw [a4 3 (by decide)]; rfl
   · exact Mk.ext ⟨tb, y2, y3, Ky q, a1, a2, a3, a4, .inr ⟨q, rfl, b1, b2, b3⟩, a6, a7, a8⟩ x
end Go.Den
