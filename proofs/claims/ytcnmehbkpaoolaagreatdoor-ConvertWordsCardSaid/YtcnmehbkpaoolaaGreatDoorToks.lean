/-
 A part of the proof.
-/
import Derived.Test.YtcnmehbkpaoolaaGreatDoorLexk
import Derived.Test.YtcnmehbkpaoolaaGreatDoorConz
import Derived.Test.YtcnmehbkpaoolaaGreatDoorLexw
namespace Go.Den
open Go.RowKit
set_option maxRecDepth 100000
open Go.Lx (Eu bts Pv)
theorem Aqd {sz : Nat} {t : Tm} {L : List (List AV)} (hr : Pa sz 0 t L) : Cb t (L.length * sz) 0 = L.flatten := by
 have hM : ∀ c ∈ L, c.length = sz := fun c hc => by
  obtain ⟨i, hi, rfl⟩ := List.mem_iff_getElem.1 hc
  exact (hr i hi).1
 rw [Fw]
 apply List.ext_getElem
 · rw [List.length_map, List.length_range, Aao L hM]
 · intro p h1 h2
   rw [List.length_map, List.length_range] at h1
   simp only [List.getElem_map, List.getElem_range, Nat.zero_add]
   have hsz : 0 < sz := by
    cases sz with
    | zero => simp at h1
    | succ n => exact Nat.succ_pos n
   have hi : p / sz < L.length := Nat.div_lt_of_lt_mul (by rw [Nat.mul_comm]; exact h1)
   have hp : p / sz * sz + p % sz = p := by rw [Nat.mul_comm]; exact Nat.div_add_mod p sz
   have hj : p % sz < L[p / sz].length := by rw [(hr _ hi).1]; exact Nat.mod_lt _ hsz
   have e1 := (hr _ hi).2 _ hj
   have e2 := Wh L hM _ _ hi hj
   rw [hp] at e2
   rw [Nat.zero_add, hp] at e1
   rw [e1, ← e2, List.getD_eq_getElem?_getD, List.getElem?_eq_getElem h2]
   rfl
theorem Aqe {e : TypeId} {sz lo : Nat} {h : H} {v : AV} {L : List (List AV)} (hb : Cv e sz lo h v L) : Bs h sz v = some (L.length, L.flatten) := by
 rcases hb with ⟨rfl, rfl⟩ | ⟨q, t, m, z, w, rfl, h1, h2, h3, h4, h5, h6⟩
 · rfl
 · show (Bool.rec (motive := fun _ => Option (Nat × List AV)) none (Option.rec (motive := fun _ => Option (Nat × List AV)) none (fun cs => some (L.length, cs)) (h.read q 0 (Nat.mul L.length sz))) (Nat.beq sz sz)) = _
   rw [Nat.beq_refl, Zf h3 (show Nat.mul L.length sz ≤ m from h4)]
   show some (L.length, Cb t (L.length * sz) 0) = _
   rw [Aqd h6]
def Ti (x : Tok) : Ef := ⟨(x.kind : Int), x.text, x.space, [102], (x.f : Int), (x.t : Int), false, .Ad⟩
theorem Aj5 (T : List Tok) : (T.map Ti).map Ef.cells = T.map Tok.cells := by
 rw [List.map_map]; rfl
theorem Bgw (x y : AV) (h : H) : Aq env .append [22, 22] [x, y] h = Dc (some false) x y h 43 (Ox 43) := by kernel_rfl
theorem Bis : (Ox 43).size = 8 := by kernel_rfl
theorem A5a {n : Nat} (hn : n ≤ 1099511627776) : Cf (Ox 43) n = true := Wi (by kernel_rfl) (by kernel_rfl) hn
theorem c22 {h : H} {s : List UInt8} {Q : List Tok → Prop} {k : KV} (hl : s.length ≤ 999990) (h0 : 0 < (bts (Eu s)).length) (h10 : bt (bts (Eu s)) ((bts (Eu s)).length - 1) = 10) (hx : Lx (bts (Eu s)) Q 0 false [])
 (hk : ∀ h' v T, Q T → T.length ≤ s.length + 1 → Exh h h' → RdT h' v (T.map Ti) → k v h') : W1 (.func 22) [S s] h k := by
 refine w22 (n := 4) Bj (g22 ?_)
 unfold Anf
 refine Bf0 hl h0 h10 hx fun h1 q t w T hQ hT x1 hq ha hb => ?_
 rw [Ed, Ek]
 refine A02 ?_
 unfold Ahl
 rw [Ih, ilt]
 refine Cd rfl ?_
 rw [As]
 refine Vb Nat.one_pos ?_
 rw [Ay]
 refine Ct (o := 0 + 0 * 4 + 0) ha (by decide) ?_
 rw [Bgw]
 refine Aly (lo := h1.next.nat) (L := []) (M := T.map Tok.cells) (.inl ⟨rfl, rfl⟩) (Aqe hb) (fun c hc => by obtain ⟨x, _, rfl⟩ := List.mem_map.1 hc; rfl) Bis (A5a (by rw [List.length_map]; simp only [List.length_nil]; omega)) (Nat.le_refl _) fun v' h2 b2 x2 => ?_
 rw [Dk, Cm (by decide), Ar]
 refine A02 ?_
 unfold Ahl
 rw [Ih, ilt]
 refine Bl rfl ?_
 refine hk h2 v' T hQ hT (x1.trans ⟨x2.1, fun c hc => x2.2 c hc (.inl hc)⟩) ?_
 rw [List.nil_append] at b2
 rcases b2.rd' with ⟨e1, e2⟩ | hr
 · refine .inl ⟨e1, ?_⟩
   cases T with
   | nil => rfl
   | cons x T => exact absurd e2 (by simp)
 · refine .inr ?_
   rw [Aj5]; exact hr
theorem Ajh {h : H} {s : List UInt8} {k : KV} (hs0 : s ≠ []) (hl : s.length ≤ 999990) (hs10 : ∀ x ∈ s, x ≠ 10) (hq : Go.Lx.Ako s = true) {K : Nat} (hg : Rm K (s ++ [10]) = true)
 (hk : ∀ h' v (T : List Tok), T.map bare = Pv K (s ++ [10]) false → Exh h h' → RdT h' v (T.map Ti) → k v h') : W1 (.func 22) [S s] h k := by
 have hc : bts (Eu s) = s ++ [10] := by
  rw [Go.Lx.Ajf hs0 hs10 hq]
  show bts (Go.Lx.rnF 0 s ++ [(10, s.length, s.length)]) = _
  unfold bts
  rw [List.map_append]
  have := Go.Lx.Aou s 0
  unfold bts at this
  rw [this]; rfl
 have hlen : (bts (Eu s)).length = s.length + 1 := by rw [hc]; simp
 refine c22 (Q := fun T : List Tok => T.map bare = Pv K (s ++ [10]) false) hl (by omega) ?_ ?_ fun h' v T hQ _ x r => hk h' v T hQ x r
 · rw [hlen, hc, Nat.add_sub_cancel, Vm (by simp), List.getElem_append_right (Nat.le_refl _)]; simp
 · rw [hc]
   exact Lx.all (by rw [List.length_append, List.length_singleton]; omega) K 0 false [] hg fun T' hT' => hT'
theorem Ay4 {x : UInt8} {w r : List UInt8} (hx : Go.Lx.Bd x = true) (hw : ∀ y ∈ w, (Go.Lx.Bd y || Go.Lx.isDigit y) = true) (k : Nat) : Rm (k + 2) (x :: (w ++ 32 :: r)) = Rm k r := by
 have h0 : (Go.Lx.Bd x || Go.Lx.isDigit x) = true := by rw [hx]; rfl
 have h1 := Go.Lx.Kn h0
 have h2 : Fg x = false := h1.2.2.2.2.2
 rw [Rm, if_neg h1.2.2.2.1, if_neg (by rw [h2]; decide), Go.Lx.Aor h0]
 simp only [Go.Lx.Anx hx hw]
 have e2 : (x :: (w ++ 32 :: r)).drop (1 + w.length) = 32 :: r := by
  rw [Nat.add_comm, List.drop_succ_cons, List.drop_left']; rfl
 rw [e2, Rm, if_neg (by decide), if_pos (by decide)]
 rfl
def Mt (w : List UInt8) : Bool := match w with
 | [] => false
 | x :: r => Go.Lx.Bd x && r.all fun y => Go.Lx.Bd y || Go.Lx.isDigit y
theorem Ach {w r : List UInt8} (h : Mt w = true) (k : Nat) (sp : Bool) : Pv (k + 2) (w ++ 32 :: r) sp = (1, w, sp) :: Pv k r true := by
 cases w with
 | nil => cases h
 | cons x w =>
  have h : (Go.Lx.Bd x && w.all fun y => Go.Lx.Bd y || Go.Lx.isDigit y) = true := h
  rw [Bool.and_eq_true, List.all_eq_true] at h
  exact Go.Lx.Ay2 h.1 h.2 k sp
theorem Aci {w r : List UInt8} (h : Mt w = true) (k : Nat) : Rm (k + 2) (w ++ 32 :: r) = Rm k r := by
 cases w with
 | nil => cases h
 | cons x w =>
  have h : (Go.Lx.Bd x && w.all fun y => Go.Lx.Bd y || Go.Lx.isDigit y) = true := h
  rw [Bool.and_eq_true, List.all_eq_true] at h
  exact Ay4 h.1 h.2 k
end Go.Den
