/-
 A part of the proof.
-/
import Derived.Test.YtcnmehbkpaoolaaGreatDoorToks
import Derived.Test.YtcnmehbkpaoolaaGreatDoorAwk
noncomputable section
namespace Go.Den
open Go.RowKit
set_option maxRecDepth 100000
def hW : H := h1.new (rowOf 96 Iv)
def TW : Tm := Ah (Ky (pOf 15)) 0 .e
theorem zw1 {n m : Nat} {F : Fn} {a : List AV} {h : H} {k : KV} {Q : Prop} (e : calls n m F a h k = Q) (q : Q) : W1 F a h k := Abz (Jk n m) (e.mpr q)
theorem Au7 : W1 (.func 74) [.ptr (pOf 13) 0, .func (.func 75) [] [.ptr hW.next 0]] (hW.new (rowOf 107 [.ptr (pOf 13) 0])) (fun _ h' => h'.at (pOf 13) = .row TW 4 0 96 true ∧ h'.at hW.next = rowOf 107 [.ptr (pOf 13) 0] ∧ h'.at (pOf 15) = .map Kb 44) := by
 have e : calls 100000 100000 (.func 74) [.ptr (pOf 13) 0, .func (.func 75) [] [.ptr hW.next 0]] (hW.new (rowOf 107 [.ptr (pOf 13) 0])) (fun _ h' => h'.at (pOf 13) = .row TW 4 0 96 true ∧ h'.at hW.next = rowOf 107 [.ptr (pOf 13) 0] ∧ h'.at (pOf 15) = .map Kb 44)
  = ((.row TW 4 0 96 true : Ob FT) = .row TW 4 0 96 true ∧ (rowOf 107 [.ptr (pOf 13) 0] : Ob FT) = rowOf 107 [.ptr (pOf 13) 0] ∧ (.map Kb 44 : Ob FT) = .map Kb 44) := by kernel_rfl
 exact zw1 e ⟨rfl, rfl, rfl⟩
theorem Bl9 : Az TW 3 = .map (pOf 15) := by unfold TW; rw [Ao]; rfl
theorem Bdv (h : H) : Bm env (env.ty 96) [] h = some (.agg Iv, h) := by kernel_rfl
theorem c20 (s : List UInt8) : Pure PP G h1 20 [S s] (.bool (decide (s ∈ kws))) := by
 refine w20 (n := 1) Bj (g20 ?_)
 unfold Ang
 rw [Bdv, Ae, Vr]
 refine Xd (by unfold Iv; simp) (Ec ?_)
 refine Aot (hs := hW) (B := h1.next) (q := pOf 15) (T := TW) (n := 4) (e := 96) (w := true) s Au7 Bl9 (Nat.le_refl _) fun h' _ _ => ?_
 rw [Bv]
def ct2 (c : CT) : Nat × List UInt8 := (c.kind, c.text)
def Aac (b : Nat × List UInt8 × Bool) : Option (Nat × List UInt8) := Gv ⟨(b.1 : Int), b.2.1, false, [], 0, 0, false, .Ad⟩
theorem Ay8 (x : Tok) : Gv (Ti x) = Aac (bare x) := rfl
theorem Agc : ∀ (T : List Tok) (i : Nat), (∀ x ∈ T, x.kind ≠ 4 ∧ x.kind ≠ 7) →
 (Dl (T.map Ti) i 0).1.map ct2 = (T.map bare).filterMap Aac ++ [(8, [])] ∧ (Dl (T.map Ti) i 0).2.length = (T.map bare).countP fun b => (Aac b).isNone
 | [], i, _ => by rw [List.map_nil, Dl]; exact ⟨rfl, rfl⟩
 | x :: T, i, h => by
  have ih := Agc T (i + 1) fun y hy => h y (by simp [hy])
  obtain ⟨h4, h7⟩ := h x (by simp)
  have e4 : ¬ (Ti x).kind = 4 := fun e => h4 (by have : (x.kind : Int) = 4 := e; omega)
  have e7 : ¬ (Ti x).kind = 7 := fun e => h7 (by have : (x.kind : Int) = 7 := e; omega)
  rw [List.map_cons, Dl, if_neg e4, if_neg e7, List.map_cons, List.filterMap_cons, List.countP_cons, ← Ay8 x]
  cases hk : Gv (Ti x) with
  | none =>
   simp only []
   refine ⟨ih.1, ?_⟩
   simp [ih.2]
  | some p =>
   simp only []
   refine ⟨?_, ?_⟩
   · rw [List.map_cons, ih.1]; rfl
   · simp [ih.2]
theorem Oc {O : List CT} {i : Nat} (h : i < O.length) (h' : i < (O.map CT.cells).length) : (O.map CT.cells)[i] = O[i].cells := List.getElem_map ..
theorem Rd.ctk {h : H} {v : AV} {O : List CT} {i : Nat} {K : AV → Prop} {p : Nat × List UInt8} (hr : Rd 7 h v (O.map CT.cells)) (hp : (O.map ct2)[i]? = some p) (hk : K (.int .i64 (.ofNat p.1))) : Cc 7 i v fun a => Ap 0 a fun a => Go.Den.ld1 a h K := by
 have hi : i < O.length := by
  rcases Nat.lt_or_ge i O.length with h1 | h1
  · exact h1
  · rw [List.getElem?_eq_none (by rw [List.length_map]; exact h1)] at hp; cases hp
 have hi' : i < (O.map CT.cells).length := by rw [List.length_map]; exact hi
 rw [List.getElem?_map, List.getElem?_eq_getElem hi] at hp
 cases hp
 refine hr.fld (j := 0) hi' (by rw [Oc hi]; exact Nat.zero_lt_succ _) ?_
 simp only [Oc hi]
 exact hk
theorem Rd.ctx {h : H} {v : AV} {O : List CT} {i : Nat} {K : AV → Prop} {p : Nat × List UInt8} (hr : Rd 7 h v (O.map CT.cells)) (hp : (O.map ct2)[i]? = some p) (hk : K (S p.2)) : Cc 7 i v fun a => Ap 1 a fun a => Go.Den.ld1 a h K := by
 have hi : i < O.length := by
  rcases Nat.lt_or_ge i O.length with h1 | h1
  · exact h1
  · rw [List.getElem?_eq_none (by rw [List.length_map]; exact h1)] at hp; cases hp
 have hi' : i < (O.map CT.cells).length := by rw [List.length_map]; exact hi
 rw [List.getElem?_map, List.getElem?_eq_getElem hi] at hp
 cases hp
 refine hr.fld (j := 1) hi' (by rw [Oc hi]; show 1 < 7; decide) ?_
 simp only [Oc hi]
 exact hk
end Go.Den
