/-
 Part of the proof.
-/
import Derived.Test.YtcnmehbkpaoolaaGreatDoorL24
import Derived.Test.YtcnmehbkpaoolaaGreatDoorLxd
import Derived.Test.YtcnmehbkpaoolaaGreatDoorQuot
import Derived.Test.YtcnmehbkpaoolaaGreatDoorNbr
namespace Go.Den
open Go.RowKit
open Go.Lx (Ry Qp Wg Ov Gz at0)
set_option maxRecDepth 100000
theorem Aqi (s : List UInt8) (c : UInt8) : Bl (s ++ [c]) = Bl s ++ (if isQ c = true then [92, c] else [c]) := by rw [Aa0]; unfold Bl; simp
theorem Az6 (s : List UInt8) : (Bl s).length ≤ 2 * s.length := by
 rw [Lc]; have := List.countP_le_length (p := isQ) (l := s); omega
def A9n (lo : Nat) (h : H) (v : AV) (l : List UInt8) : Prop := Ct TB 1 lo h v (eb l) ∨ (l = [34] ∧ ∃ q, v = .slice q 0 1 1 true ∧ q.nat < h.next.nat ∧ h.at q = .row (T1 34) 1 0 TB true)
theorem Awz {lo : Nat} {h : H} {v : AV} {l : List UInt8} {x : UInt8} (hb : A9n lo h v l) (hl : l.length + 1 ≤ 1099511627776) (hlo : lo ≤ h.next.nat) {k : KV} (hk : ∀ v' h', Ct TB 1 lo h' v' (eb (l ++ [x])) → Kp TB lo h h' → k v' h') :
 oK (An env 115 (fun e ei => Aj 1 [(0, .int .u8 (Int.ofNat x.toNat))] h e ei)) fun x h' => oK (Ao env .append [115, 115] [v, x] h') k := by
 rcases hb with hb | ⟨rfl, q, rfl, hq, ha⟩
 · exact Aj1 hb hl hlo hk
 · rw [A0v, Ae, Aw1]
   have hx : Bs (h.new (.row (T1 (Int.ofNat x.toNat)) 1 0 TB true)) 1 (.slice h.next 0 1 1 true) = some (1, [ub x]) := Yc (ds := [ub x]) rfl
   have ha' : (h.new (.row (T1 (Int.ofNat x.toNat)) 1 0 TB true)).at q = .row (T1 34) 1 0 TB true := by rw [Dh hq]; exact ha
   have hn : h.next.nat ≤ (h.new (.row (T1 (Int.ofNat x.toNat)) 1 0 TB true)).next.nat := by rw [Bf]; omega
   have kp : Kp TB lo h (h.new (.row (T1 (Int.ofNat x.toNat)) 1 0 TB true)) := .new
   generalize h.new (.row (T1 (Int.ofNat x.toNat)) 1 0 TB true) = h1 at hx ha' hn kp ⊢
   have hr : h1.read q 0 (Nat.mul 1 1) = some [ub 34] := by
    rw [Ty ha' (show Nat.mul 1 1 ≤ 1 by decide)]
    kernel_rfl
   have e : Db (some false) (.slice q 0 1 1 true) (.slice h.next 0 1 1 true) h1 TB ei8 = some (.slice h1.next 0 2 1 false, h1.new (.row (Ah [ub 34, ub x] 0 .e) 2 0 TB false)) := by
    unfold Db
    rw [show Uk (some false) h1 ei8 (.slice h.next 0 1 1 true) = some (1, [ub x]) from hx]
    show (Option.rec none (fun old => Ww TB 1 2 (Jy old [ub x]) h1) (h1.read q 0 (Nat.mul 1 1)) : Option (AV × H)) = _
    rw [hr]; rfl
   rw [e, Ae]
   refine hk _ _ (.inr ⟨h1.next, _, 2, 0, false, rfl, by omega, by rw [Bf]; omega, Ax _ _, Nat.le_refl 2, Nat.zero_le _, fun i hi => ?_⟩) (kp.trans .new)
   have hi : i < 2 := hi
   match i, hi with
   | 0, _ => exact ⟨rfl, fun j hj => by have : j = 0 := Nat.lt_one_iff.1 hj; subst this; rw [Ap]; rfl⟩
   | 1, _ => exact ⟨rfl, fun j hj => by have : j = 0 := Nat.lt_one_iff.1 hj; subst this; rw [Ap]; rfl⟩
section
variable {hE : H} {s : List UInt8} {k : KV} (hl : s.length ≤ 1000000) (hk : ∀ h', Exh hE h' → k (S (Gq s)) h')
include hl hk
theorem Bgs : ∀ (n i : Nat) {h : H} {v : AV}, 2 * (s.length - i) + 1 ≤ n → i ≤ s.length → Exh hE h → A9n hE.next.nat h v (34 :: Bl (s.take i)) →
 (r24 W1 k n).a1 s.length (enc s) v (Int.ofNat i) h := by
 intro n
 induction n using Nat.strongRecOn with
 | _ n ih =>
  intro i h v hn hi x hb
  obtain ⟨n, rfl⟩ : ∃ m, n = m + 1 := ⟨n - 1, by omega⟩
  have hle := Az6 (s.take i)
  have htl : (s.take i).length ≤ s.length := by rw [List.length_take]; omega
  refine Beb ?_
  unfold Anu
  rw [ilt]
  refine Aw (fun e => ?_) (fun e => ?_)
  · have e : i < s.length := of_decide_eq_true e
    have go : ∀ (v : AV) (h : H) (m : Nat), m ≤ n → 2 * (s.length - i) ≤ m → Exh hE h → (∀ l, l = 34 :: (Bl (s.take i) ++ if isQ s[i] = true then [92] else []) → l.length ≤ 3000000 → A9n hE.next.nat h v l) → (r24 W1 k m).a2 s.length (enc s) v (Int.ofNat i) h := fun v h m hm hm2 x hb => by
     obtain ⟨m, rfl⟩ : ∃ q, m = q + 1 := ⟨m - 1, by omega⟩
     refine Bea ?_
     unfold Ant
     rw [Ar]
     refine Ck e ?_
     have hlen : (34 :: (Bl (s.take i) ++ if isQ s[i] = true then [92] else [])).length ≤ 3000000 := by
      simp only [List.length_cons, List.length_append]; split <;> simp only [List.length_cons, List.length_nil] <;> omega
     refine Awz (hb _ rfl hlen) (by omega) x.1 fun v' h' hb' hk' => ?_
     rw [Dl, Co (by omega), As]
     refine ih m (by omega) (i + 1) (by omega) e (x.kp (Nat.le_refl _) hk') ?_
     have : 34 :: Bl (s.take (i + 1)) = (34 :: (Bl (s.take i) ++ if isQ s[i] = true then [92] else [])) ++ [s[i]] := by
      rw [List.take_succ_eq_append_getElem e, Aqi]
      by_cases hq : isQ s[i] = true
      · rw [if_pos hq, if_pos hq]; simp
      · rw [if_neg hq, if_neg hq]; simp
     rw [this]; exact .inl hb'
    rw [Ar]
    refine Ck e ?_
    refine Ma (b := decide (s[i] = 92)) (fun k' hk' => ?_) ?_
    · refine Ck e ?_
      rw [toNat_eq _ 92 (by decide)]; exact hk'
    rw [toNat_eq _ 34 (by decide)]
    refine Aw (fun hq => ?_) (fun hq => ?_)
    · refine Awz (x := 92) hb (by simp only [List.length_cons]; omega) x.1 fun v' h' hb' hk' => ?_
      refine go v' h' n (Nat.le_refl _) (by omega) (x.kp (Nat.le_refl _) hk') fun l el _ => ?_
      rw [el, if_pos (show isQ s[i] = true from hq)]
      exact .inl hb'
    · refine go v h n (Nat.le_refl _) (by omega) x fun l el _ => ?_
      rw [el, if_neg (show ¬ isQ s[i] = true from by rw [show isQ s[i] = false from hq]; simp), List.append_nil]
      exact hb
  · have e : i = s.length := by have := of_decide_eq_false e; omega
    subst e
    rw [List.take_length] at hb hle
    refine Awz (x := 34) hb (by simp only [List.length_cons]; omega) x.1 fun v' h' hb' hk' => ?_
    rw [Ao5 hb', Ae, Ch]
    exact hk _ (x.kp (Nat.le_refl _) hk')
theorem c24 : W1 (.func 24) [S s] hE k := by
 refine w24 (n := 2 * s.length + 2) Bn (g24 ?_)
 unfold Anv
 rw [A0v, Ae]
 refine Bgs hl hk _ 0 (by omega) (Nat.zero_le _) .new ?_
 rw [List.take_zero]
 exact .inr ⟨rfl, hE.next, rfl, by rw [Bf]; omega, Ax _ _⟩
end
def okS (s : List UInt8) : Prop := ∀ c ∈ s, c ≠ 10 ∧ c ≠ 92 ∧ c ≠ 63
theorem An5 : ∀ (s r : List UInt8), okS s → Gz 34 (Bl s ++ 34 :: r) = some ((Bl s).length + 1)
 | [], [], _ => rfl
 | [], _ :: _, _ => rfl
 | c :: s, r, h => by
  obtain ⟨h1, h2, _⟩ := h c (by simp)
  have ih := An5 s r fun x hx => h x (List.mem_cons_of_mem _ hx)
  rw [Ms]
  by_cases e : c = 34
  · subst e
    show Gz 34 (92 :: 34 :: (Bl s ++ 34 :: r)) = some (([92, 34] ++ Bl s).length + 1)
    rw [Gz, if_neg (by decide), if_pos (by decide), ih]
    simp
  · have hq : isQ c = false := by unfold isQ; simp [e, h2]
    rw [if_neg (by rw [hq]; simp)]
    obtain ⟨y, t, ey⟩ : ∃ y t, Bl s ++ 34 :: r = y :: t := by
     cases hs : Bl s with
     | nil => exact ⟨34, r, rfl⟩
     | cons a b => exact ⟨a, b ++ 34 :: r, rfl⟩
    show Gz 34 (c :: (Bl s ++ 34 :: r)) = some ((c :: Bl s).length + 1)
    rw [ey] at ih ⊢
    rw [Gz, if_neg h1, if_neg (by simp [h2]), if_neg e, ih]
    simp
def Ah9 : List (List UInt8) := [[], [76], [117, 56]]
theorem Lxs.str {p s r : List UInt8} {ts : List Amf} (h : Lxs r ts) (hp : p ∈ Ah9) (hs : okS s) : Lxs (p ++ Gq s ++ r) ((4, p ++ Gq s) :: ts) := by
 have hq := An5 s (r ++ [10]) hs
 have e0 : Bl s ++ [34] ++ (r ++ [10]) = Bl s ++ 34 :: (r ++ [10]) := by simp
 simp only [Ah9, List.mem_cons, List.not_mem_nil, or_false] at hp
 rcases hp with rfl | rfl | rfl
 · refine h.tok (x := 34) (w := Bl s ++ [34]) (by decide) (by decide) rfl ?_
   rw [e0]
   unfold Go.Lx.Gw
   rw [show Wg (34 :: (Bl s ++ 34 :: (r ++ [10]))) = some 0 from rfl]
   show (match Gz 34 (Bl s ++ 34 :: (r ++ [10])) with | some n => ((if (34 : UInt8) = 34 then 4 else 3), 0 + 1 + n, false) | none => _) = _
   rw [hq]
   simp
 · refine h.tok (x := 76) (w := 34 :: (Bl s ++ [34])) (by decide) (by decide) rfl ?_
   rw [List.cons_append, e0]
   unfold Go.Lx.Gw
   rw [show Wg (76 :: 34 :: (Bl s ++ 34 :: (r ++ [10]))) = some 1 from rfl]
   show (match Gz 34 (Bl s ++ 34 :: (r ++ [10])) with | some n => ((if (34 : UInt8) = 34 then 4 else 3), 1 + 1 + n, false) | none => _) = _
   rw [hq]
   simp; omega
 · refine h.tok (x := 117) (w := 56 :: 34 :: (Bl s ++ [34])) (by decide) (by decide) rfl ?_
   rw [List.cons_append, List.cons_append, e0]
   unfold Go.Lx.Gw
   rw [show Wg (117 :: 56 :: 34 :: (Bl s ++ 34 :: (r ++ [10]))) = some 2 from rfl]
   show (match Gz 34 (Bl s ++ 34 :: (r ++ [10])) with | some n => ((if (34 : UInt8) = 34 then 4 else 3), 2 + 1 + n, false) | none => _) = _
   rw [hq]
   simp; omega
theorem Aa8 : ∀ (s : List UInt8) (n : Nat), okS s → (Bl s).length < n → Fh 34 n (Bl s) = some s
 | _, 0, _, h => absurd h (Nat.not_lt_zero _)
 | [], n + 1, _, _ => rfl
 | c :: s, n + 1, h, hn => by
  obtain ⟨h1, h2, _⟩ := h c (by simp)
  rw [Ms] at hn ⊢
  by_cases e : c = 34
  · subst e
    have hn : (Bl s).length + 1 < n := by simpa [isQ] using hn
    show Fh 34 (n + 1) (92 :: 34 :: Bl s) = _
    rw [Fh, if_neg (by decide), if_pos rfl, show Et (34 :: Bl s) = (34, 1) from rfl, if_neg (by decide)]
    show (Fh 34 n (Bl s)).map (34 :: ·) = _
    rw [Aa8 s n (fun x hx => h x (List.mem_cons_of_mem _ hx)) (by omega)]; rfl
  · have hq : isQ c = false := by unfold isQ; simp [e, h2]
    rw [if_neg (by rw [hq]; simp)] at hn ⊢
    show Fh 34 (n + 1) (c :: Bl s) = _
    rw [Fh, if_neg e, if_neg h2, Aa8 s n (fun x hx => h x (List.mem_cons_of_mem _ hx)) (by simp at hn; omega)]; rfl
theorem Aom {p s : List UInt8} (hp : p ∈ Ah9) : Be (p ++ Gq s) = (p, true) := by
 simp only [Ah9, List.mem_cons, List.not_mem_nil, or_false] at hp
 rcases hp with rfl | rfl | rfl <;> rfl
theorem A0t {p s : List UInt8} (hp : p ∈ Ah9) (hs : okS s) : Ki (p ++ Gq s) = some s := by
 unfold Ki
 rw [Aom hp, if_pos rfl, List.drop_left']
 · unfold Gq Xz
   simp only []
   rw [if_neg (by simp), if_pos (by simp), List.dropLast_concat, Aa8 s _ hs (by simp; omega)]
 · rfl
end Go.Den
