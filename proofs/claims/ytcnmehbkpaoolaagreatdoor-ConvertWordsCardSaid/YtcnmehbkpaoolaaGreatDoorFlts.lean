/-
 A part of the proof.
-/
import Derived.Test.YtcnmehbkpaoolaaGreatDoorStrs
namespace Go.Den
open Go.RowKit
set_option maxRecDepth 100000
theorem Atu {a b : Bool} {h : H} {k : Bool → H → Prop} : Am (fun k1 => gate false a (k1 b h) (k1 true h)) k = k (a || b) h := by
 cases a <;> rfl
theorem Apw {a b : Bool} {h : H} {k : Bool → H → Prop} : Am (fun k1 => gate true a (k1 b h) (k1 false h)) k = k (a && b) h := by
 cases a <;> rfl
theorem eqN (n : Nat) : Ba (Int.ofNat n) (Int.ofNat 0) = decide (n = 0) := by
 rw [Fi, Bool.eq_iff_iff, beq_iff_eq, decide_eq_true_eq]
 exact ⟨fun h => Int.ofNat.inj h, fun h => by rw [h]⟩
end Go.Den
namespace Go.Den
open Go.RowKit
set_option maxRecDepth 100000
theorem Yk (n : Int) {m : Nat} (hm : 0 < m) : -(m : Int) < n.tmod m ∧ n.tmod m < m := by
 constructor
 · have := Int.lt_tmod_of_pos n (show (0 : Int) < m by omega)
   exact this
 · exact Int.tmod_lt_of_pos n (show (0 : Int) < m by omega)
theorem c23 (n : Int) {m : Nat} (hm : 0 < m) (hb : m ≤ 1000000) : ∃ r, r < m ∧ Pure PP G h0 23 [.int .i64 n, .int .i64 (Int.ofNat m)] (.int .i64 (Int.ofNat r)) := by
 obtain ⟨h1, h2⟩ := Yk n hm
 have h3 : 0 ≤ (n.tmod m + m).tmod m := Int.tmod_nonneg _ (by omega)
 have h4 := (Yk (n.tmod m + m) hm).2
 refine ⟨((n.tmod m + m).tmod m).toNat, by omega, ?_⟩
 refine w23 (n := 1) Bj (g23 ?_)
 unfold Ane
 have e0 : Ba (Int.ofNat m) (Int.ofNat 0) = false := by rw [eqN, decide_eq_false (by omega)]
 unfold Ayb
 rw [e0]
 show fI (n.tmod (m : Int)) _
 rw [Ar, Gt, Ar]
 have w1 : wrap .i64 (n.tmod (m : Int) + Int.ofNat m) = n.tmod m + m := wrap64 (by show _ ≤ n.tmod (m : Int) + (m : Int); omega) (by show n.tmod (m : Int) + (m : Int) ≤ _; omega)
 rw [w1]
 show fI ((n.tmod m + m).tmod (m : Int)) _
 rw [Ar]
 show AV.int _ _ = AV.int _ _
 congr 1
 show _ = ((((n.tmod m + m).tmod m).toNat : Nat) : Int)
 omega
def Gd (s set : List UInt8) : List UInt8 := (s.reverse.dropWhile (· ∈ set)).reverse
theorem Akg (s set : List UInt8) (x : UInt8) : Gd (s ++ [x]) set = if x ∈ set then Gd s set else s ++ [x] := by
 unfold Gd
 rw [List.reverse_append, List.reverse_singleton, List.singleton_append, List.dropWhile_cons]
 by_cases h : x ∈ set <;> simp [h]
theorem Avy {h : H} {b : P} {t : Tm} {z : Nat} {e : TypeId} {w : Bool} {set : List UInt8} (ha : h.at b = .row t 256 z e w) (ht : ∀ x : UInt8, Az t x.toNat = .bool (decide (x ∈ set))) {k : KV} :
 ∀ (n : Nat) (s : List UInt8), s.length ≤ 4611686018427387904 → s.length < n → k (S (Gd s set)) h → (Ahs W1 k n).a1 s.length (enc s) (.ptr b 0) h
 | 0, _, _, hn, _ => absurd hn (Nat.not_lt_zero _)
 | n + 1, s, hl, hn, hk => by
  refine A4c ?_
  unfold Ad4
  rcases List.eq_nil_or_concat s with rfl | ⟨r, x, rfl⟩
  · exact Bl rfl hk
  · rw [List.concat_eq_append] at hl hn hk ⊢
    have hlen : (r ++ [x]).length = r.length + 1 := by simp
    refine Cd (by rw [Fh]; simp) ?_
    rw [Ul]
    have w1 : wrap .i64 (Int.ofNat (r ++ [x]).length - Int.ofNat 1) = Int.ofNat r.length := by
     rw [hlen]
     have : Int.ofNat (r.length + 1) - Int.ofNat 1 = Int.ofNat r.length := by show ((r.length + 1 : Nat) : Int) - ((1 : Nat) : Int) = (r.length : Int); omega
     rw [this, wrap64 (by show _ ≤ ((r.length : Nat) : Int); omega) (by show ((r.length : Nat) : Int) ≤ _; omega)]
    rw [Ar, w1, As]
    refine Ch (by rw [hlen]; omega) ?_
    have hx : (r ++ [x])[r.length]'(by rw [hlen]; omega) = x := by simp
    rw [hx]
    refine Bf4 ha (ht x) ?_
    rw [Bv, Bq]
    rw [Akg] at hk
    refine Bb (fun e => ?_) (fun e => ?_)
    · have e : ¬ x ∈ set := by simpa using e
      rw [if_neg e] at hk; exact hk
    · have e : x ∈ set := by simpa using e
      rw [if_pos e] at hk
      rw [Ar, As]
      refine Ald (by rw [hlen]; omega) ?_
      have ht' : (r ++ [x]).take r.length = r := by simp
      rw [ht']
      exact Avy ha ht n r (by omega) (by omega) hk
end Go.Den
namespace Go.Den
open Go.RowKit
set_option maxRecDepth 100000
theorem Ou {a b : Bool} {h : H} {Q : (Bool → H → Prop) → Prop} {k : Bool → H → Prop} (hq : ∀ k', k' b h → Q k') (hk : k (a || b) h) : Am (fun k1 => gate false a (Q k1) (k1 true h)) k := by
 cases a with
 | true => exact hk
 | false => exact hq k hk
theorem Lq {a b : Bool} {h : H} {Q : (Bool → H → Prop) → Prop} {k : Bool → H → Prop} (hq : ∀ k', k' b h → Q k') (hk : k (a && b) h) : Am (fun k1 => gate true a (Q k1) (k1 false h)) k := by
 cases a with
 | true => exact hq k hk
 | false => exact hk
theorem Bk2 (x y : Bool) : Lw env .eql 4 (.bool x) (.bool y) = some (.bool (Abt x y)) := by kernel_rfl
theorem Iz {α : Type} {x : α} {K : α → Prop} : oV (some x) K = K x := rfl
theorem Aqp (b : Bool) : Abt b b = true := by cases b <;> rfl
theorem Cm {m : Nat} (h : m ≤ 9223372036854775807) : wrap .i64 (Int.ofNat m) = Int.ofNat m := wrap64 (by show _ ≤ ((m : Nat) : Int); omega) (by show ((m : Nat) : Int) ≤ _; omega)
end Go.Den
