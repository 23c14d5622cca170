/-
 A part of the proof.
-/
import Derived.Test.YtcnmehbkpaoolaaGreatDoorLex7
import Derived.Test.YtcnmehbkpaoolaaGreatDoorLexh
import Derived.Test.YtcnmehbkpaoolaaGreatDoorLexq
namespace Go.Den
open Go.RowKit
set_option maxRecDepth 100000
theorem Aqc {B : List UInt8} {i : Nat} (h : Go.Lx.Rp (B.drop i) = none) : bt B i ≠ 47 ∨ (bt B (i + 1) ≠ 47 ∧ bt B (i + 1) ≠ 42) := by
 unfold Go.Lx.Rp at h
 rw [show Go.Lx.at0 (B.drop i) 0 = bt B i from Il, show Go.Lx.at0 (B.drop i) 1 = bt B (i + 1) from Il] at h
 by_cases h0 : bt B i = 47
 · right
   rw [if_neg (fun e => e h0)] at h
   by_cases h1 : bt B (i + 1) = 47
   · rw [if_pos h1] at h; cases h
   · rw [if_neg h1] at h
     refine ⟨h1, fun h2 => ?_⟩
     rw [if_neg (fun e => e h2)] at h
     cases hb : Go.Lx.Td ((B.drop i).drop 2) with
     | none => rw [hb] at h; cases h
     | some n => rw [hb] at h; cases h
 · exact .inl h0
theorem Lx.Bim {B : List UInt8} {Q : List Tok → Prop} {i : Nat} {b : Bool} {T : List Tok} (_hl : B.length ≤ 1000000) (hi : i < B.length) (h10 : B[i] ≠ 10) (hw : Fg B[i] = false) (hc : Go.Lx.Rp (B.drop i) = none) (hb : (Go.Lx.Fv (B.drop i)).2.2 = false)
 (hk : ∀ f t, Lx B Q (i + (Go.Lx.Fv (B.drop i)).2.1) false (T ++ [⟨(Go.Lx.Fv (B.drop i)).1, (B.drop i).take (Go.Lx.Fv (B.drop i)).2.1, b, f, t⟩])) : Lx B Q i b T := by
 have hle := Go.Lx.Atd (s := B.drop i) (fun e => by have := congrArg List.length e; rw [List.length_drop] at this; simp at this; omega)
 rw [List.length_drop] at hle
 refine Lx.tok (C := fun kd e => kd = (Go.Lx.Fv (B.drop i)).1 ∧ e = i + (Go.Lx.Fv (B.drop i)).2.1) hi h10 hw (Aqc hc) (fun h vr k hr hl hk => ?_) (fun kd e hC => ?_) (fun kd e f t hC => ?_)
 · refine Bfv hr hl hi fun h' x => ?_
   have := hk _ _ h' ⟨rfl, rfl⟩ x
   unfold nxV
   rw [hb]; exact this
 · rw [hC.2]; omega
 · obtain ⟨rfl, rfl⟩ := hC
   rw [Nat.add_sub_cancel_left]
   exact hk f t
theorem Ave {s : List UInt8} {n : Nat} {b : Bool} (h : Go.Lx.Rp s = some (n, b)) : 0 < n := by
 unfold Go.Lx.Rp at h
 split at h
 · cases h
 · rename_i h0
   have h0 : Go.Lx.at0 s 0 = 47 := by
    by_cases e : Go.Lx.at0 s 0 = 47
    · exact e
    · exact absurd e h0
   cases s with
   | nil => exact absurd h0 (by decide)
   | cons x s =>
    have hx : x = 47 := h0
    split at h
    · cases h
      rw [List.takeWhile_cons, if_pos (by rw [hx]; decide)]
      simp
    · split at h
      · cases h
      · split at h
        · cases h; omega
        · cases h; simp
theorem Lx.Blb {B : List UInt8} {Q : List Tok → Prop} {i n : Nat} {b : Bool} {T : List Tok} (hl : B.length ≤ 1000000) (hi : i < B.length) (h10 : B[i] ≠ 10) (hw : Fg B[i] = false) (hc : Go.Lx.Rp (B.drop i) = some (n, false)) (hk : Lx B Q (i + n) true T) : Lx B Q i b T := by
 have hn := Ave hc
 intro h2 vr l1 c1 k hr hl hq m h hm hT hs
 obtain ⟨m, rfl⟩ : ∃ x, m = x + 1 := ⟨m - 1, by omega⟩
 have hr' := hr.ext hs.1
 refine Aim ?_
 unfold Wr
 rw [hr'.len, ilt, decide_eq_true hi]
 refine Cd rfl ?_
 rw [As]
 refine hr'.at0 hi ?_
 unfold ub
 rw [Au, Sq _ 10 10 rfl, decide_eq_false h10]
 refine Bl rfl ?_
 rw [As]
 refine hr'.at0 hi ?_
 unfold ub
 rw [Au]
 refine Dn (c78 _) ?_
 rw [Bv, hw]
 refine Bl rfl ?_
 refine Bfw hr' hl hi ?_
 unfold Azx
 rw [hc]
 show ext 0 (.tuple [.int .i64 (Int.ofNat (i + n)), .bool false]) _
 rw [Ed, Au, Ek, Bv, ilt, decide_eq_true (show i < i + n by omega)]
 refine Cd rfl ?_
 refine Bl rfl ?_
 exact hk h2 vr l1 c1 k hr hl hq m h (by omega) (by omega) hs
def Rm : Nat → List UInt8 → Bool
 | 0, _ => false
 | _ + 1, [] => false
 | k + 1, x :: s =>
  if x = 10 then s.isEmpty
  else if Fg x then Rm k s
  else match Go.Lx.Rp (x :: s) with
   | some (_, true) => false
   | some (j, false) => Rm k ((x :: s).drop j)
   | none => !(Go.Lx.Fv (x :: s)).2.2 && Rm k ((x :: s).drop (Go.Lx.Fv (x :: s)).2.1)
def bare (x : Tok) : Nat × List UInt8 × Bool := (x.kind, x.text, x.space)
theorem Lx.all {B : List UInt8} {Q : List Tok → Prop} (hl : B.length ≤ 1000000) : ∀ (k i : Nat) (b : Bool) (T : List Tok), Rm k (B.drop i) = true → (∀ T', T'.map bare = Go.Lx.Pv k (B.drop i) b → Q (T ++ T')) → Lx B Q i b T := by
 intro k
 induction k with
 | zero => intro i b T h; simp [Rm] at h
 | succ k ih =>
  intro i b T h hQ
  rcases Nat.lt_or_ge i B.length with hi | hi
  case inr => rw [List.drop_eq_nil_of_le hi] at h; simp [Rm] at h
  have hd := drop_cons hi
  rw [hd] at h hQ
  unfold Rm at h
  unfold Go.Lx.Pv at hQ
  by_cases h10 : B[i] = 10
  · rw [if_pos h10] at h hQ
    have hlen : B.drop (i + 1) = [] := by simpa using h
    have hi1 : B.length ≤ i + 1 := by have := congrArg List.length hlen; rw [List.length_drop] at this; simp at this; omega
    have e : i = B.length - 1 := by omega
    have := hQ [] rfl
    rw [List.append_nil] at this
    rw [e]; exact Lx.ends this
  · rw [if_neg h10] at h hQ
    by_cases hw : Fg B[i] = true
    · rw [if_pos hw] at h
      rw [if_pos (show Go.Lx.Fg B[i] = true from hw)] at hQ
      exact Lx.ws hi h10 hw (ih (i + 1) true T h hQ)
    · have hw' : Fg B[i] = false := by simpa using hw
      rw [if_neg hw] at h
      rw [if_neg (show ¬ Go.Lx.Fg B[i] = true from hw)] at hQ
      rw [← hd] at h hQ
      cases hc : Go.Lx.Rp (B.drop i) with
      | none =>
       rw [hc] at h hQ
       simp only [Bool.and_eq_true, Bool.not_eq_true'] at h
       rw [List.drop_drop] at h
       refine Lx.Bim hl hi h10 hw' hc h.1 fun f t => ih _ false _ h.2 fun T' hT' => ?_
       rw [List.append_assoc]
       refine hQ _ ?_
       rw [List.singleton_append, List.map_cons, hT', List.drop_drop]
       rfl
      | some p =>
       obtain ⟨n, o⟩ := p
       rw [hc] at h hQ
       cases o with
       | true => simp at h
       | false =>
        simp only [List.drop_drop] at h hQ
        exact Lx.Blb hl hi h10 hw' hc (ih _ true T h hQ)
end Go.Den
