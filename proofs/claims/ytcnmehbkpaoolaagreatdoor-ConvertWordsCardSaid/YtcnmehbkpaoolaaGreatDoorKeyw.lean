/-
 A part of the proof.
-/
import Derived.Test.YtcnmehbkpaoolaaGreatDoorPart
import Derived.Test.YtcnmehbkpaoolaaGreatDoorNump
noncomputable section
namespace Go.Den
open Go.RowKit
set_option maxRecDepth 100000
def kws : List (List UInt8) := [[97, 117, 116, 111], [98, 114, 101, 97, 107], [99, 97, 115, 101], [99, 104, 97, 114], [99, 111, 110, 115, 116], [99, 111, 110, 116, 105, 110, 117, 101], [100, 101, 102, 97, 117, 108, 116], [100, 111], [100, 111, 117, 98, 108, 101], [101, 108, 115, 101], [101, 110, 117, 109], [101, 120, 116, 101, 114, 110], [102, 108, 111, 97, 116], [102, 111, 114], [103, 111, 116, 111], [105, 102], [105, 110, 108, 105, 110, 101], [105, 110, 116], [108, 111, 110, 103], [114, 101, 103, 105, 115, 116, 101, 114], [114, 101, 115, 116, 114, 105, 99, 116], [114, 101, 116, 117, 114, 110], [115, 104, 111, 114, 116], [115, 105, 103, 110, 101, 100], [115, 105, 122, 101, 111, 102], [115, 116, 97, 116, 105, 99], [115, 116, 114, 117, 99, 116], [115, 119, 105, 116, 99, 104], [116, 121, 112, 101, 100, 101, 102], [117, 110, 105, 111, 110], [117, 110, 115, 105, 103, 110, 101, 100], [118, 111, 105, 100], [118, 111, 108, 97, 116, 105, 108, 101], [119, 104, 105, 108, 101], [95, 65, 108, 105, 103, 110, 97, 115], [95, 65, 108, 105, 103, 110, 111, 102], [95, 65, 116, 111, 109, 105, 99], [95, 66, 111, 111, 108], [95, 67, 111, 109, 112, 108, 101, 120], [95, 71, 101, 110, 101, 114, 105, 99], [95, 73, 109, 97, 103, 105, 110, 97, 114, 121], [95, 78, 111, 114, 101, 116, 117, 114, 110], [95, 83, 116, 97, 116, 105, 99, 95, 97, 115, 115, 101, 114, 116], [95, 84, 104, 114, 101, 97, 100, 95, 108, 111, 99, 97, 108]]
def Akr : Nat → List (List UInt8) → Es
 | _, [] => []
 | i, w :: ws => (S w, .int .i64 (.ofNat 1), i) :: Akr (i + 1) ws
def Kb : Es := Akr 0 kws
theorem Akt : ∀ x ∈ Kb, plain x.1 = true ∧ plain x.2.1 = true := by
 have key : ∀ ws i, ∀ x ∈ Akr i ws, plain x.1 = true ∧ plain x.2.1 = true := by
  intro ws
  induction ws with
  | nil => intro i x hx; cases hx
  | cons w ws ih =>
   intro i x hx
   rcases List.mem_cons.1 hx with rfl | hx
   · exact ⟨rfl, rfl⟩
   · exact ih _ _ hx
 exact key kws 0
theorem A3s (q : P) (l c : Nat) (h : H) : Hf env 94 (.map q) (.str l c) false h = (Option.rec none (fun p => Uv env 3 false (On (.str l c) p.1 0) h) (Ow (h.at q)) : Option (AV × H)) := by kernel_rfl
theorem A3t (h : H) : Uv env 3 false (some none) h = some (.int .i64 (.ofNat 0), h) := by kernel_rfl
theorem Aap (s : List UInt8) : ∀ (ws : List (List UInt8)) (i j : Nat), (s ∈ ws → ∃ p, On (S s) (Akr i ws) j = some (some (.int .i64 (.ofNat 1), p))) ∧ (s ∉ ws → On (S s) (Akr i ws) j = some none)
 | [], _, _ => ⟨fun h => absurd h (by simp), fun _ => rfl⟩
 | w :: ws, i, j => by
  have ih := Aap s ws (i + 1) (Nat.add j 1)
  have e : On (S s) (Akr i (w :: ws)) j = (Bool.rec (On (S s) (Akr (i + 1) ws) (Nat.add j 1)) (some (some (.int .i64 (.ofNat 1), i, j))) (Bk s.length (enc s) w.length (enc w)) : Option Hit) := rfl
  rw [e, Cq]
  by_cases h : s = w
  · rw [decide_eq_true h]
    exact ⟨fun _ => ⟨_, rfl⟩, fun hn => absurd (by rw [h]; simp) hn⟩
  · rw [decide_eq_false h]
    exact ⟨fun hm => ih.1 (by simpa [h] using hm), fun hn => ih.2 (fun hm => hn (by simp [hm]))⟩
theorem Ay0 {q : P} {h : H} (s : List UInt8) (hq : h.at q = .map Kb 44) {k : KV} (hk : k (.int .i64 (.ofNat (if s ∈ kws then 1 else 0))) h) : oK (Hf env 94 (.map q) (.str s.length (enc s)) false h) k := by
 rw [A3s, hq]
 show oK (Uv env 3 false (On (S s) Kb 0) h) k
 by_cases e : s ∈ kws
 · obtain ⟨p, hp⟩ := (Aap s kws 0 0).1 e
   rw [if_pos e] at hk
   rw [show On (S s) Kb 0 = _ from hp]
   show oK (some (.int .i64 (.ofNat 1), h)) k
   rw [Ae]; exact hk
 · rw [if_neg e] at hk
   rw [show On (S s) Kb 0 = _ from (Aap s kws 0 0).2 e, A3t, Ae]; exact hk
theorem Ans {b : P} {o : Nat} {K : Prop} : one (.ptr b o) K = K := rfl
theorem Aoa {p1 B q : P} {h : H} {tb : Tm} {n : Nat} {e : TypeId} {w : Bool} (s : List UInt8) (hp : h.at p1 = rowOf 107 [.ptr B 0]) (hB : h.at B = .row tb n 0 e w) (hn : 4 ≤ n) (hm : Az tb 3 = .map q) (hq : h.at q = .map Kb 44) {k : KV} (hk : k (.bool (decide (s ∈ kws))) h) :
 ld1 (.ptr p1 0) h fun v9 => oK (Cj v9 h) fun v10 h11 => Ap 3 v10 fun v12 => ld1 v12 h11 fun v13 => oK (Hf env 94 v13 (.str s.length (enc s)) false h11) fun v14 h15 => asI .i64 v14 fun n16 => k (.bool (Cu (Int.ofNat 0) n16)) h15 := by
 refine Ct (t := Ah [.ptr B 0] 0 .e) (n := 1) (z := 0) (e := 107) (w := true) hp (by decide) ?_
 rw [show Az (Ah [.ptr B 0] 0 .e) 0 = .ptr B 0 by rw [Ao]; rfl]
 rw [Bi, Ae, Ay]
 refine Ct hB (by omega) ?_
 rw [show 0 + 3 = 3 from rfl, hm]
 refine Ay0 s hq ?_
 rw [Au, ilt]
 by_cases e : s ∈ kws
 · rw [if_pos e]; rw [decide_eq_true e] at hk; exact hk
 · rw [if_neg e]; rw [decide_eq_false e] at hk; exact hk
def Iv : List AV := [.int .u32 (.ofNat 0), .int .i32 (.ofNat 0), .int .u32 (.ofNat 0), .Pt]
def Ky (q : P) : List AV := [.int .u32 (.ofNat 1), .int .i32 (.ofNat 0), .int .u32 (.ofNat 0), .map q]
def Bi6 (x1 x2 x3 : AV) : List (Ob FT) := [oA, .dead, .dead, .dead, .dead, .dead, .dead, .dead, .dead, .dead, .dead, .dead, .dead, .row (Ah (Iv ++ [x1, x2, x3]) 0 .e) 7 0 98 true, .dead, .dead, .dead]
def hsM (x1 x2 x3 : AV) : H := Uq (Bi6 x1 x2 x3)
def TM (x1 x2 x3 : AV) : Tm := Ah (Ky (pOf 18) ++ [x1, x2, x3]) 0 .e
theorem Au8 (x1 x2 x3 : AV) : W1 (.func 74) [.ptr (pOf 13) 0, .func (.func 75) [] [.ptr (hsM x1 x2 x3).next 0]] ((hsM x1 x2 x3).new (rowOf 107 [.ptr (pOf 13) 0])) (fun _ h' => h'.at (pOf 13) = .row (TM x1 x2 x3) 7 0 98 true ∧ h'.at (hsM x1 x2 x3).next = rowOf 107 [.ptr (pOf 13) 0] ∧ h'.at (pOf 18) = .map Kb 44) := by
 have e : calls 100000 100000 (.func 74) [.ptr (pOf 13) 0, .func (.func 75) [] [.ptr (hsM x1 x2 x3).next 0]] ((hsM x1 x2 x3).new (rowOf 107 [.ptr (pOf 13) 0])) (fun _ h' => h'.at (pOf 13) = .row (TM x1 x2 x3) 7 0 98 true ∧ h'.at (hsM x1 x2 x3).next = rowOf 107 [.ptr (pOf 13) 0] ∧ h'.at (pOf 18) = .map Kb 44)
  = ((.row (TM x1 x2 x3) 7 0 98 true : Ob FT) = .row (TM x1 x2 x3) 7 0 98 true ∧ (rowOf 107 [.ptr (pOf 13) 0] : Ob FT) = rowOf 107 [.ptr (pOf 13) 0] ∧ (.map Kb 44 : Ob FT) = .map Kb 44) := by kernel_rfl
 exact Abz (Jk 100000 100000) (e.mpr ⟨rfl, rfl, rfl⟩)
theorem Auf (x1 x2 x3 : AV) : (hsM x1 x2 x3).next = pOf 17 := rfl
theorem Aot {hs : H} {B q : P} {T : Tm} {n : Nat} {e : TypeId} {w : Bool} (s : List UInt8)
 (hd : W1 (.func 74) [.ptr B 0, .func (.func 75) [] [.ptr hs.next 0]] (hs.new (rowOf 107 [.ptr B 0])) (fun _ h' => h'.at B = .row T n 0 e w ∧ h'.at hs.next = rowOf 107 [.ptr B 0] ∧ h'.at q = .map Kb 44)) (h3 : Az T 3 = .map q) (hn : 4 ≤ n) {k : KV}
 (hk : ∀ h', h'.at B = .row T n 0 e w → h'.at q = .map Kb 44 → k (.bool (decide (s ∈ kws))) h') : W1 (.func 43) [.ptr B 0, S s] hs k := by
 refine w43 (n := 1) Bj (g43 ?_)
 unfold Ahk
 rw [Ans]
 refine Ec ?_
 have a0 : (hs.new (rowOf 107 [.ptr B 0])).at hs.next = rowOf 107 [.ptr B 0] := Ax _ _
 refine Ct (t := Ah [.ptr B 0] 0 .e) (n := 1) (z := 0) (e := 107) (w := true) a0 (by decide) ?_
 rw [show Az (Ah [.ptr B 0] 0 .e) 0 = .ptr B 0 by rw [Ao]; rfl]
 rw [Bi, Ae, Ay]
 refine Tl hd fun _ h' hh => ?_
 obtain ⟨a1, a2, a3⟩ := hh
 exact Aoa s a2 a1 hn (q := q) h3 a3 (hk h' a1 a3)
theorem Bma (x1 x2 x3 : AV) : Az (TM x1 x2 x3) 3 = .map (pOf 18) := by unfold TM; rw [Ao]; rfl
theorem Aqg (x1 x2 x3 : AV) (s : List UInt8) : W1 (.func 43) [.ptr (pOf 13) 0, S s] (hsM x1 x2 x3) (fun v h' => v = .bool (decide (s ∈ kws)) ∧ h'.at (pOf 13) = .row (TM x1 x2 x3) 7 0 98 true ∧ h'.at (pOf 18) = .map Kb 44) :=
 Aot s (Au8 x1 x2 x3) (Bma x1 x2 x3) (by decide) fun _ a b => ⟨rfl, a, b⟩
def Sl (v : AV) : Prop := v = .Ad ∨ ∃ b o n z t, v = .slice b o n z t
def Xg (v : AV) : P := match v with
 | .slice b _ _ _ _ => b
 | _ => .z
def Apj (p : P) (v : AV) : AV := match v with
 | .slice _ o n z t => .slice p o n z t
 | v => v
theorem Sl.one {v : AV} (h : Sl v) : v.one = true := by
 rcases h with rfl | ⟨_, _, _, _, _, rfl⟩ <;> rfl
theorem Sl.ren {v : AV} (h : Sl v) (p : P) : (Apj p v).one = true := by
 rcases h with rfl | ⟨_, _, _, _, _, rfl⟩ <;> rfl
theorem Afe {μ μ' : Mu} {p : P} {v : AV} (h : Sl v) (e : μ' p = μ (Xg v)) {x : Value} (r : VR μ v x) : VR μ' (Apj p v) x := by
 rcases h with rfl | ⟨b, o, n, z, t, rfl⟩
 · exact r
 · have e : μ' p = μ b := e
   obtain ⟨a, cap, e1, e2, ⟨e3, l, e4⟩, e5⟩ := r
   refine ⟨a, cap, e1, e2, ⟨e3, l, by rw [e]; exact e4⟩, e5.imp id fun ⟨l', h1, h2⟩ => ⟨l', by rw [e]; exact h1, h2⟩⟩
theorem Ze {μ μ' : Mu} {p : P} {v : AV} (h : Sl v) (e : ∀ l, μ (Xg v) = some l → μ' p = some l) {x0 x : Value} (r0 : VR μ v x0) (r : VR μ' (Apj p v) x) : VR μ v x := by
 rcases h with rfl | ⟨b, o, n, z, t, rfl⟩
 · exact r
 · obtain ⟨_, _, _, _, ⟨_, l, e4⟩, _⟩ := r0
   have e' := e l e4
   obtain ⟨a, cap, e1, e2, ⟨e3, l1, e5⟩, e6⟩ := r
   refine ⟨a, cap, e1, e2, ⟨e3, l, e4⟩, e6.imp id fun ⟨l', h1, h2⟩ => ⟨l', ?_, h2⟩⟩
   rw [e'] at h1; cases h1; exact e4
theorem Ls {i j : Nat} (h : i ≠ j) : pOf i ≠ pOf j := fun e => h (by rw [← Dg i, ← Dg j, e])
theorem A4y {x1 x2 x3 : AV} {c : P} (h : (hsM x1 x2 x3).at c ≠ .dead) : c = pOf 0 ∨ c = pOf 13 := by
 unfold hsM at h
 rw [Kj] at h
 have : c.nat = 0 ∨ c.nat = 13 := by
  match hn : c.nat with
  | 0 => exact .inl rfl
  | 13 => exact .inr rfl
  | 1 | 2 | 3 | 4 | 5 | 6 | 7 | 8 | 9 | 10 | 11 | 12 | 14 | 15 | 16 => rw [hn] at h; exact absurd rfl h
  | n + 17 => rw [hn] at h; exact absurd rfl h
 rcases this with e | e
 · left; rw [← e, Ty]
 · right; rw [← e, Ty]
theorem Bdp (x1 x2 x3 : AV) : (hsM x1 x2 x3).at (pOf 0) = oA := by unfold hsM; rw [Kj, Dg]; rfl
theorem A4z (x1 x2 x3 : AV) : (hsM x1 x2 x3).at (pOf 13) = .row (Ah (Iv ++ [x1, x2, x3]) 0 .e) 7 0 98 true := by unfold hsM; rw [Kj, Dg]; rfl
theorem An9 (x1 x2 x3 : AV) : (hsM x1 x2 x3).next.nat = 17 := by rw [Auf, Dg]
def Is7 (t : Tm) (l : List AV) : Prop := ∀ i, i < 7 → Az t i = l.getD i .undef
theorem Ko (l : List AV) (hl : l.length = 7) (t : Tm) : Is7 (Ah l 0 t) l := fun i hi => by
 rw [Ao, if_pos ⟨Nat.zero_le _, by rw [hl]; omega⟩, Nat.sub_zero]
theorem Aqh {h : H} {B : P} {tb : Tm} {y1 y2 y3 : AV} (s : List UInt8) (he : Kl h) (_hBn : 12 ≤ B.nat) (hB : h.at B = .row tb 7 0 98 true) (ht : Is7 tb (Iv ++ [y1, y2, y3])) (s1 : Sl y1) (s2 : Sl y2) (s3 : Sl y3) {k : KV}
 (hk : k (.bool (decide (s ∈ kws))) ((h.put B (.row (Ah (Ky h.next ++ [y1, y2, y3]) 0 .e) 7 0 98 true)).new (.map Kb 44))) : W1 (.func 43) [.ptr B 0, S s] h k := by
 let x1 := Apj (pOf 14) y1
 let x2 := Apj (pOf 15) y2
 let x3 := Apj (pOf 16) y3
 let ρ : P → P := fun c => if c = pOf 13 then B else if c = pOf 14 then Xg y1 else if c = pOf 15 then Xg y2 else if c = pOf 16 then Xg y3 else c
 have ρ13 : ρ (pOf 13) = B := if_pos rfl
 have ρ14 : ρ (pOf 14) = Xg y1 := by show (if _ then _ else _) = _; rw [if_neg (Ls (by decide)), if_pos rfl]
 have ρ15 : ρ (pOf 15) = Xg y2 := by show (if _ then _ else _) = _; rw [if_neg (Ls (by decide)), if_neg (Ls (by decide)), if_pos rfl]
 have ρ16 : ρ (pOf 16) = Xg y3 := by show (if _ then _ else _) = _; rw [if_neg (Ls (by decide)), if_neg (Ls (by decide)), if_neg (Ls (by decide)), if_pos rfl]
 have ρo : ∀ i, i < 13 → ρ (pOf i) = pOf i := fun i hi => by show (if _ then _ else _) = _; rw [if_neg (Ls (by omega)), if_neg (Ls (by omega)), if_neg (Ls (by omega)), if_neg (Ls (by omega))]
 have lt : ∀ i, i < 17 → (pOf i).nat < (hsM x1 x2 x3).next.nat := fun i hi => by rw [An9, Dg]; exact hi
 have sub : ∀ (μ : Mu) i, i < 17 → μ.sub ρ (hsM x1 x2 x3) (pOf i) = μ (ρ (pOf i)) := fun μ i hi => Mu.sub_lt (lt i hi)
 have tS := Ko (Iv ++ [x1, x2, x3]) rfl .e
 have tD := Ko (Ky (pOf 18) ++ [x1, x2, x3]) rfl .e
 have tB := Ko (Ky h.next ++ [y1, y2, y3]) rfl .e
 refine Axy (sargs := [.ptr (pOf 13) 0, S s]) (ρ := ρ) (B := B) (b0 := pOf 13) (iq := 3) (r := .bool (decide (s ∈ kws))) (cs := fun i => Az (TM x1 x2 x3) i) (tb' := Ah (Ky h.next ++ [y1, y2, y3]) 0 .e) hB (A4z x1 x2 x3) ?_ (lt 13 (by decide)) ρ13 ?_ ?_ ?_ ?_ rfl Akt (by decide) ?_ ?_ ?_ hk
 · intro c hc hd
   rcases A4y hd with rfl | rfl
   · refine ⟨lt 0 (by decide), cA, 256, Bdp x1 x2 x3, ?_, fun i _ => rfl⟩
     rw [ρo 0 (by decide)]; exact he.1
   · exact absurd rfl hc
 · intro g hg
   have hg : g < 12 := hg
   exact ⟨ρo g (by omega), lt g (by omega)⟩
 · rintro μ vs ⟨w, ws, _, ⟨l, hl, _⟩, _⟩
   exact ⟨l, hl⟩
 · intro i hi μ v hv ho
   rw [ht i hi] at hv ho
   rw [tS i hi]
   match i, hi with
   | 0, _ => exact ⟨hv, rfl⟩
   | 1, _ => exact ⟨hv, rfl⟩
   | 2, _ => exact ⟨hv, rfl⟩
   | 3, _ => exact ⟨hv, rfl⟩
   | 4, _ => exact ⟨Afe s1 (by rw [sub _ 14 (by decide), ρ14]) hv, s1.ren _⟩
   | 5, _ => exact ⟨Afe s2 (by rw [sub _ 15 (by decide), ρ15]) hv, s2.ren _⟩
   | 6, _ => exact ⟨Afe s3 (by rw [sub _ 16 (by decide), ρ16]) hv, s3.ren _⟩
 · rintro μ vs ⟨w, ws, rfl, ⟨l, hl, hw⟩, w2, ws2, rfl, h2, h3⟩
   exact ⟨w, _, rfl, ⟨l, by rw [sub _ 13 (by decide), ρ13]; exact hl, hw⟩, w2, ws2, rfl, h2, h3⟩
 · rw [tB 3 (by decide)]; rfl
 · intro i hi hne μ μ' v hle hv0 hv ho
   obtain ⟨v0, hv0⟩ := hv0
   rw [ht i hi] at hv0
   have hv : VR μ' (Az (TM x1 x2 x3) i) v := hv
   rw [show Az (TM x1 x2 x3) i = _ from tD i hi] at hv
   rw [tB i hi]
   have bk : ∀ j, j < 17 → ∀ l, μ (ρ (pOf j)) = some l → μ' (pOf j) = some l := fun j hj l hl => hle _ _ (by rw [sub _ j hj]; exact hl)
   match i, hi with
   | 0, _ => exact ⟨hv, rfl⟩
   | 1, _ => exact ⟨hv, rfl⟩
   | 2, _ => exact ⟨hv, rfl⟩
   | 3, _ => exact absurd rfl hne
   | 4, _ => exact ⟨Ze s1 (fun l hl => bk 14 (by decide) l (by rw [ρ14]; exact hl)) hv0 hv, s1.one⟩
   | 5, _ => exact ⟨Ze s2 (fun l hl => bk 15 (by decide) l (by rw [ρ15]; exact hl)) hv0 hv, s2.one⟩
   | 6, _ => exact ⟨Ze s3 (fun l hl => bk 16 (by decide) l (by rw [ρ16]; exact hl)) hv0 hv, s3.one⟩
 · refine Tl (Aqg x1 x2 x3 s) fun v h' hh => ?_
   obtain ⟨a1, a2, a3⟩ := hh
   refine ⟨a1, TM x1 x2 x3, pOf 18, a2, by rw [An9, Dg]; decide, a3, ?_, fun i _ _ => rfl⟩
   rw [show Az (TM x1 x2 x3) 3 = _ from tD 3 (by decide)]; rfl
theorem Awf {h : H} {b : P} {o : Nat} {t : Tm} {n z : Nat} {e : TypeId} {w : Bool} {x : Int} (ha : h.at b = .row t n z e w) (ho : o < n) (hx : Az t o = .int .u32 x) : He (.Mp .u32) [.ptr b o] h = some (.int .u32 x, h) := by
 show Alu .u32 (.ptr b o) h = _
 have hr : h.Tv b o = some (.int .u32 x) := by
  show Hp.Gx _ _ _ _ _ = _
  unfold Hp.Gx
  rw [ha]
  show Si o none some t n = _
  unfold Si
  rw [show Nat.ble (Nat.add o 1) n = true from Nat.ble_eq_true_of_le ho]
  show Bw (Az t o) some = _
  rw [By, hx]
 show Option.rec (motive := fun _ => Option (AV × H)) none (fun v => Option.rec (motive := fun _ => Option (AV × H)) none (fun n => some (AV.int IntKind.u32 n, h)) (isI IntKind.u32 v)) (Hp.Tv h b o) = _
 rw [hr]; rfl
theorem Bl1 {h : H} {b : P} {t : Tm} {n z : Nat} {e : TypeId} {w : Bool} {x : Nat} (ha : h.at b = .row t n z e w) (ho : 0 < n) (hx : Az t 0 = .int .u32 (.ofNat x)) {k : KV} (hk : k (.bool (Co (decide (x = 0)))) h) : W1 (.func 122) [.ptr b 0] h k := by
 refine A91 (n := 1) Bj (Bkh ?_)
 unfold Aev
 rw [Bi, Ae, Ay]
 refine A83 (Cd rfl ?_)
 rw [show 0 + 0 = 0 from rfl, Awf ha ho hx, Ae, Au, Sr]
 exact hk
theorem Avs {h : H} {B q : P} {tb : Tm} {n : Nat} {e : TypeId} {w : Bool} (s : List UInt8) (hBn : B.nat < h.next.nat) (hqn : q.nat < h.next.nat) (hB : h.at B = .row tb n 0 e w) (hn : 4 ≤ n) (h0 : Az tb 0 = .int .u32 (.ofNat 1)) (h3 : Az tb 3 = .map q) (hq : h.at q = .map Kb 44) {k : KV}
 (hk : ∀ h', Exh h h' → k (.bool (decide (s ∈ kws))) h') : W1 (.func 43) [.ptr B 0, S s] h k := by
 refine w43 (n := 1) Bj (g43 ?_)
 unfold Ahk
 rw [Ans]
 refine Ec ?_
 have a0 : (h.new (rowOf 107 [.ptr B 0])).at h.next = rowOf 107 [.ptr B 0] := Ax _ _
 have x : Exh h (h.new (rowOf 107 [.ptr B 0])) := .new
 generalize h.new (rowOf 107 [.ptr B 0]) = h' at a0 x ⊢
 refine Ct (t := Ah [.ptr B 0] 0 .e) (n := 1) (z := 0) (e := 107) (w := true) a0 (by decide) ?_
 rw [show Az (Ah [.ptr B 0] 0 .e) 0 = .ptr B 0 by rw [Ao]; rfl]
 rw [Bi, Ae, Ay]
 have hB' : h'.at B = .row tb n 0 e w := by rw [x.2 B hBn]; exact hB
 refine w74 (n := 1) Bj (g74 ?_)
 unfold Amm
 rw [Bi, Ae, Ay]
 refine Bl1 (x := 1) hB' (by omega) h0 ?_
 rw [Bv]
 refine Bl rfl ?_
 exact Aoa s a0 hB' hn h3 (by rw [x.2 q hqn]; exact hq) (hk h' x)
end Go.Den
