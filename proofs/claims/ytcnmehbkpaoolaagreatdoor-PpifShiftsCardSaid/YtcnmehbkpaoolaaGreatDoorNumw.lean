/-
  A part of the proof.
-/
import Derived.Test.YtcnmehbkpaoolaaGreatDoorEvm
namespace Go.Den
open Go.RowKit
set_option maxRecDepth 100000
theorem Ab2 {B : Nat} : ∀ (l : List UInt8) (v : Nat), Fy B v l = v * B ^ l.length + Fy B 0 l
  | [], v => by show v = v * B ^ 0 + 0; simp
  | c :: l, v => by
    show Fy B (v * B + Fl c) l = v * B ^ (l.length + 1) + Fy B (0 * B + Fl c) l
    rw [Ab2 l (v * B + Fl c), Ab2 l (0 * B + Fl c), Nat.pow_succ, Nat.zero_mul, Nat.zero_add, Nat.add_mul, Nat.mul_assoc, Nat.mul_comm B, Nat.add_assoc]
theorem Am5 {B : Nat} (c : UInt8) (l : List UInt8) : Fy B 0 (c :: l) = Fl c * B ^ l.length + Fy B 0 l := by
  show Fy B (0 * B + Fl c) l = _
  rw [Ab2, Nat.zero_mul, Nat.zero_add]
theorem Am4 {B : Nat} (l : List UInt8) (v : Nat) (c : UInt8) : Fy B v (l ++ [c]) = Fy B v l * B + Fl c := by
  unfold Fy; rw [List.foldl_append]; rfl
def Anm (T : List UInt8) (f ok : Bool) : Option (Nat × Bool) :=
  if Nn T = true then Wb f ok 16 On (T.drop 2) else if T.take 1 = [48] then Wb f ok 8 Aql T else Wb f ok 10 Lb T
theorem Av1 (s : List UInt8) : Pe s = Anm (Dw s Hf) (Sw (s.drop (Dw s Hf).length)).1 (Sw (s.drop (Dw s Hf).length)).2 := rfl
theorem Apd {s set : List UInt8} (h : ∀ x ∈ s, x ∈ set) : Sc s set = s.length := by
  induction s with
  | nil => rfl
  | cons c s ih =>
    have hc : c ∈ set := h c (by simp)
    have := ih (fun x hx => h x (by simp [hx]))
    unfold Sc at this ⊢
    rw [List.takeWhile_cons, if_pos (by simpa using hc), List.length_cons, List.length_cons, this]
theorem Av2 {f : Bool} {B : Nat} {set dd : List UInt8} (hne : dd ≠ []) (h : ∀ x ∈ dd, x ∈ set) : Wb f true B set dd = if Fy B 0 dd < 18446744073709551616 then some (Fy B 0 dd, f || decide (9223372036854775807 < Fy B 0 dd)) else none := by
  refine if_neg ?_
  rw [Apd h, decide_eq_true rfl, decide_eq_false hne]
  simp
theorem Ars {c : UInt8} {s : List UInt8} (h : ∀ x ∈ s, x ∈ Lb) : Nn (c :: s) = false := by
  unfold Nn hx1 hx2
  cases s with
  | nil => simp
  | cons d s =>
    have hd := h d (by simp)
    have : d ≠ 120 ∧ d ≠ 88 := by constructor <;> (intro e; subst e; revert hd; decide)
    simp [this.1, this.2]
theorem D10 {c : UInt8} {s : List UInt8} (h : ∀ x ∈ c :: s, x ∈ Lb) (h0 : c ≠ 48) (f : Bool) : Anm (c :: s) f true = if Fy 10 0 (c :: s) < 18446744073709551616 then some (Fy 10 0 (c :: s), f || decide (9223372036854775807 < Fy 10 0 (c :: s))) else none := by
  unfold Anm
  rw [Ars (fun x hx => h x (by simp [hx])), if_neg (by simp), if_neg (by simp [h0]), Av2 (by simp) h]
theorem Anf {T : List UInt8} (hT : ∀ x ∈ T, x ∉ Hf) : ∀ (t : List UInt8), (∀ x ∈ t, x ∈ Hf) → Dw (T ++ t) Hf = T := by
  intro t ht
  have : Dw (T ++ t) Hf = Dw T Hf := by
    unfold Dw
    rw [List.reverse_append, List.dropWhile_append_of_pos (fun x hx => by simpa using ht x (List.mem_reverse.1 hx))]
  rw [this, Ang hT]
def Bc9 (T : List UInt8) (u : Nat) : Prop := (∀ x ∈ T, x ∉ Hf) ∧ (∀ f, Anm T f true = some (u, f || decide (9223372036854775807 < u))) ∧ (2305843009213693952 < u → ∀ f, Anm (T ++ [48]) f true = none) ∧ T.length ≤ 70
structure Dig (B u v : Nat) (s : List UInt8) : Prop where
  val : u = v * B ^ s.length + Fy B 0 s
  mem : ∀ x ∈ s, x ∈ Mb ∧ Fl x < B
  lead : v = 0 → s.head? ≠ some 48
  len : s.length ≤ 64
theorem Aq0 : ∀ d : Fin 16, Fl (Mb[d.1]'d.2) = d.1 ∧ Mb[d.1]'d.2 ∈ Mb ∧ (Mb[d.1]'d.2 = 48 → d.1 = 0) := by decide
theorem Av8 (d : Nat) (hd : d < Mb.length) : Fl Mb[d] = d ∧ Mb[d] ∈ Mb ∧ (Mb[d] = 48 → d = 0) := Aq0 ⟨d, hd⟩
theorem Dig.start {B u : Nat} : Dig B u u [] := ⟨by show u = u * 1 + 0; omega, fun x hx => (List.not_mem_nil hx).elim, fun _ => by simp, by simp⟩
theorem Dig.step {B u v : Nat} {s : List UInt8} (hB : 2 ≤ B ∧ B ≤ 16) (hu : u < 18446744073709551616) (hv : 0 < v) (d : Dig B u v s) (hlt : v % B < Mb.length) : Dig B u (v / B) (Mb[v % B] :: s) := by
  have hm : v % B < B := Nat.mod_lt _ (by omega)
  obtain ⟨h1, h2, h3⟩ := Av8 (v % B) hlt
  refine ⟨?_, fun x hx => ?_, fun h0 => ?_, ?_⟩
  · rw [Am5, h1, List.length_cons, Nat.pow_succ, ← Nat.add_assoc, ← Nat.mul_assoc, Nat.mul_right_comm, ← Nat.add_mul, Nat.mul_comm (v / B) B, Nat.div_add_mod]
    exact d.val
  · rcases List.mem_cons.1 hx with rfl | hx
    · exact ⟨h2, by rw [h1]; exact hm⟩
    · exact d.mem x hx
  · have : v < B := by
      rcases Nat.lt_or_ge v B with h | h
      · exact h
      · have := Nat.div_pos h (by omega); omega
    have hvm : v % B = v := Nat.mod_eq_of_lt this
    intro e
    have e : Mb[v % B] = 48 := Option.some.inj e
    have := h3 e
    omega
  · have h4 : B ^ s.length ≤ u := by
      have h5 : 1 * B ^ s.length ≤ v * B ^ s.length := Nat.mul_le_mul_right _ hv
      have := d.val
      omega
    have h5 : 2 ^ s.length ≤ B ^ s.length := Nat.pow_le_pow_left hB.1 _
    have h6 : s.length < 64 := by
      rcases Nat.lt_or_ge s.length 64 with h | h
      · exact h
      · have : 2 ^ 64 ≤ 2 ^ s.length := Nat.pow_le_pow_right (by decide) h
        have h7 : (2 : Nat) ^ 64 = 18446744073709551616 := by decide
        omega
    rw [List.length_cons]; omega
theorem Al0 : ∀ x ∈ Mb, Fl x < 10 → x ∈ Lb := by decide
theorem Awg : ∀ x ∈ On, x ∉ Hf := by decide
theorem Dig.fin {B u : Nat} {s : List UInt8} (d : Dig B u 0 s) : u = Fy B 0 s := by have := d.val; omega
section
variable {B u : Nat} {s : List UInt8} (d : Dig B u 0 s) (hu : u < 18446744073709551616)
include d hu
theorem A3v (hB : B = 10) : Bc9 (if s = [] then [48] else s) u := by
  subst hB
  have hf := d.fin
  have hm : ∀ x ∈ s, x ∈ Lb := fun x hx => Al0 x (d.mem x hx).1 (d.mem x hx).2
  cases s with
  | nil =>
    have hu0 : u = 0 := hf
    subst hu0
    rw [if_pos rfl]
    exact ⟨by decide, fun f => by cases f <;> rfl, fun h => absurd h (by decide), by decide⟩
  | cons c s =>
    have h0 : c ≠ 48 := fun e => d.lead rfl (by rw [e]; rfl)
    rw [if_neg (by simp)]
    refine ⟨fun x hx => Awg x (Awv (hm x hx)), fun f => ?_, fun hb f => ?_, ?_⟩
    · rw [D10 hm h0, ← hf, if_pos hu]
    · show Anm (c :: (s ++ [48])) f true = _
      rw [D10 (s := s ++ [48]) (fun x hx => by
        have hx : x ∈ (c :: s) ++ [48] := hx
        rcases List.mem_append.1 hx with hx | hx
        · exact hm x hx
        · rw [List.mem_singleton] at hx; subst hx; decide) h0]
      have : Fy 10 0 (c :: (s ++ [48])) = u * 10 + 0 := by
        show Fy 10 0 ((c :: s) ++ [48]) = _
        rw [Am4, ← hf]; rfl
      rw [this]
      exact if_neg (by omega)
    · have := d.len; omega
end
structure Wr (T : List UInt8) (u : Nat) : Prop where
  dec : ∀ x ∈ T, x ∈ Lb
  ne : T ≠ []
  len : T.length ≤ 70
  num : ∀ t f, (∀ x ∈ t, x ∈ Hf) → Sw t = (f, true) → Pe (T ++ t) = some (u, f || decide (9223372036854775807 < u))
theorem A63 {u : Nat} {s : List UInt8} (d : Dig 10 u 0 s) (hu : u < 18446744073709551616) : Wr (if s = [] then [48] else s) u := by
  have g := A3v d hu rfl
  refine ⟨fun x hx => ?_, ?_, g.2.2.2, fun t f ht hs => ?_⟩
  · by_cases e : s = []
    · rw [if_pos e] at hx; simp only [List.mem_singleton] at hx; subst hx; decide
    · rw [if_neg e] at hx; exact Al0 x (d.mem x hx).1 (d.mem x hx).2
  · by_cases e : s = []
    · rw [if_pos e]; simp
    · rw [if_neg e]; exact e
  · rw [Av1, Anf g.1 t ht, List.drop_left, hs]
    exact g.2.1 f
theorem Aye (x : UInt8) (h : H) : Ie env (h.new (.row (T1 (Int.ofNat x.toNat)) 1 0 TB true)) 115 9 (.slice h.next 0 1 1 true) = some (S [x], h.new (.row (T1 (Int.ofNat x.toNat)) 1 0 TB true)) :=
  Aht (l := [x]) (Cm _ _) (Nat.le_refl 1) (Eu.new [x] _)
def dgF : Nat → Nat → List UInt8 → List UInt8
  | 0, _, s => s
  | n + 1, v, s => if v = 0 then (if s = [] then [48] else s) else dgF n (v / 10) (UInt8.ofNat (48 + v % 10) :: s)
def wrT (u : Nat) : List UInt8 := dgF (u + 1) u []
theorem Ahr : ∀ (n m v : Nat) (s : List UInt8), v < n → v < m → dgF n v s = dgF m v s
  | 0, _, _, _, h, _ => absurd h (Nat.not_lt_zero _)
  | _ + 1, 0, _, _, _, h => absurd h (Nat.not_lt_zero _)
  | n + 1, m + 1, v, s, h1, h2 => by
    unfold dgF
    by_cases e : v = 0
    · rw [if_pos e, if_pos e]
    · rw [if_neg e, if_neg e]
      have := Nat.div_lt_self (Nat.pos_of_ne_zero e) (show 1 < 10 by decide)
      exact Ahr n m (v / 10) _ (by omega) (by omega)
theorem Ai3 (d : Nat) (hd : d < 10) (h : d < Mb.length) : Mb[d] = UInt8.ofNat (48 + d) := by
  match d, hd with
  | 0, _ | 1, _ | 2, _ | 3, _ | 4, _ | 5, _ | 6, _ | 7, _ | 8, _ | 9, _ => rfl
theorem Axr {u : Nat} (hu : u < 18446744073709551616) : ∀ (n v : Nat) (s : List UInt8), v < n → Dig 10 u v s → Wr (dgF n v s) u
  | 0, _, _, h, _ => absurd h (Nat.not_lt_zero _)
  | n + 1, v, s, h, d => by
    unfold dgF
    by_cases e : v = 0
    · subst e
      rw [if_pos rfl]; exact A63 d hu
    · rw [if_neg e]
      have h0 := Nat.pos_of_ne_zero e
      have hm : v % 10 < Mb.length := by have := Nat.mod_lt v (show 0 < 10 by decide); show _ < 16; omega
      have := Nat.div_lt_self h0 (show 1 < 10 by decide)
      rw [← Ai3 _ (Nat.mod_lt v (by decide)) hm]
      exact Axr hu n (v / 10) _ (by omega) (d.step (by decide) hu h0 hm)
theorem Aov {u : Nat} (hu : u < 18446744073709551616) : Wr (wrT u) u := Axr hu (u + 1) u [] (Nat.lt_succ_self _) .start
section
variable {u : Nat} (hu : u < 18446744073709551616) {un : Bool} {pre : List UInt8} (hpre : pre.length ≤ 1) {k : KV}
include hu hpre
theorem Ayj : ∀ (n v : Nat) (s : List UInt8) (h : H), v + 4 ≤ n → Dig 10 u v s → v < 18446744073709551616 → (∀ h', k (S (pre ++ (dgF n v s ++ if un then [117] else []))) h') → (r28 W1 k n).a1 un (Int.ofNat v) pre.length (enc pre) s.length (enc s) h
  | 0, _, _, _, hn, _, _, _ => absurd hn (by omega)
  | n + 1, v, s, h, hn, d, hv, hk => by
    have dl := d.len
    have last : ∀ (m : Nat) (T : List UInt8) (h' : H), T.length ≤ 70 → (∀ h', k (S (pre ++ (T ++ if un then [117] else []))) h') → cnd un (Dn T.length (enc T) 1 117 fun l23 c24 => (r28 W1 k (m + 1)).a2 pre.length (enc pre) l23 c24 h') ((r28 W1 k (m + 1)).a2 pre.length (enc pre) T.length (enc T) h') := fun m T h' hT hk => by
      refine Bk (fun e => ?_) (fun e => ?_)
      · refine Bp (s := T) (t := [117]) (by simp; omega) ?_
        refine Ax9 ?_
        unfold Af4
        refine Bp (by rw [List.length_append]; simp; omega) ?_
        have := hk h'
        rw [if_pos e] at this; exact this
      · refine Ax9 ?_
        unfold Af4
        refine Bp (by omega) ?_
        have := hk h'
        rw [if_neg (by rw [e]; simp), List.append_nil] at this; exact this
    obtain ⟨n, rfl⟩ : ∃ m, n = m + 1 := ⟨n - 1, by omega⟩
    by_cases e0 : 0 < v
    · refine Aq9 ?_
      unfold Aaz
      rw [ilt]
      refine Fk ?_
      rw [Ko]
      refine Bo (by rw [decide_eq_true e0]; rfl) ?_
      have hm : v % 10 < Mb.length := by have := Nat.mod_lt v (show 0 < 10 by decide); show _ < 16; omega
      have hm10 : v % 10 < 10 := Nat.mod_lt v (by decide)
      unfold dgF at hk
      rw [if_neg (by omega), ← Ai3 _ hm10 hm] at hk
      rw [A83 (by decide), Dx, Ms (by omega), As, Aou, As]
      have e1 : (48 + v % 10) % 256 = (Mb[v % 10]'hm).toNat := by
        rw [Ai3 _ hm10 hm, UInt8.toNat_ofNat']
      rw [e1, A6r, Ag, Aye, Ag, Di]
      refine Bp (s := [Mb[v % 10]]) (by simp; omega) ?_
      have hq : Sf .u64 (Int.ofNat v) (Int.ofNat 10) = fun K => K (Int.ofNat (v / 10)) := by
        funext K
        unfold Sf
        rw [Nl, decide_eq_false (by decide)]
        show fI (wrap .u64 (Int.ofNat (v / 10))) K = _
        rw [Ms (by have := Nat.div_le_self v 10; omega), As]
      rw [hq]
      exact Ayj (n + 1) (v / 10) _ _ (by have := Nat.div_lt_self e0 (show 1 < 10 by decide); omega) (d.step (by decide) hu e0 hm) (by have := Nat.div_le_self v 10; omega) hk
    · have hv0 : v = 0 := by omega
      subst hv0
      unfold dgF at hk
      rw [if_pos rfl] at hk
      refine Aq9 ?_
      unfold Aaz
      rw [ilt]
      refine Fk ?_
      rw [Ko]
      by_cases es : s = []
      · subst es
        rw [if_pos rfl] at hk
        refine Bo (by rw [decide_eq_true (rfl : ([] : List UInt8) = []), Bool.or_true]) ?_
        rw [A83 (by decide), Dx, Ms (by decide), As, Aou, As]
        rw [show (48 + 0 % 10) % 256 = (48 : UInt8).toNat by rfl, A6r, Ag, Aye, Ag, Di]
        refine Bp (s := [48]) (t := []) (by simp) ?_
        have hq : ∀ K : Int → Prop, K (Int.ofNat 0) → Sf .u64 (Int.ofNat 0) (Int.ofNat 10) K := fun K hK => by
          unfold Sf
          rw [Nl, decide_eq_false (by decide)]
          show fI (wrap .u64 (Int.ofNat (0 / 10))) K
          rw [Ms (by decide), As]; exact hK
        refine hq _ ?_
        -- one more round: nothing is left
        obtain ⟨n, rfl⟩ : ∃ m, n = m + 1 := ⟨n - 1, by omega⟩
        refine Aq9 ?_
        unfold Aaz
        rw [ilt]
        refine Fk ?_
        rw [show ([48] ++ ([] : List UInt8)) = [48] from rfl, Ko]
        refine Am (by decide) ?_
        exact last n [48] _ (by decide) hk
      · rw [if_neg es] at hk
        refine Am (by rw [decide_eq_false (Nat.lt_irrefl 0), decide_eq_false es]; rfl) ?_
        exact last n s h (by omega) hk
end
def ngB (n : Int) (un : Bool) : Bool := decide (n < 0) && !un
def bvB (n : Int) (un : Bool) : BitVec 64 := if ngB n un then ~~~(BitVec.ofInt 64 n) else BitVec.ofInt 64 n
def wrN (n : Int) (un : Bool) : List UInt8 := (if ngB n un then [126] else []) ++ (wrT (bvB n un).toNat ++ if un then [117] else [])
theorem c28 (n : Int) (un : Bool) : Pure PP G h0 28 [.int .i64 n, .bool un] (S (wrN n un)) := by
  refine w28 (n := (bvB n un).toNat + 7) Ca (g28 ?_)
  unfold Ak7
  rw [wOf, As]
  have key : ∀ (x : BitVec 64) (pre : List UInt8) (h : H), x = bvB n un → pre = (if ngB n un then [126] else []) → pre.length ≤ 1 → (r28 W1 (fun v _ => v = S (wrN n un)) ((bvB n un).toNat + 6)).a3 un (Int.ofNat x.toNat) pre.length (enc pre) h := fun x pre h hx hp hpl => by
    refine Bam ?_
    unfold Ak6
    refine Ayj (u := x.toNat) x.isLt hpl _ x.toNat [] h (by rw [hx]; omega) .start x.isLt fun h' => ?_
    unfold wrN wrT
    rw [← hx, ← hp, Ahr (x.toNat + 5) (x.toNat + 1) _ _ (by omega) (by omega)]
  refine Oj ?_
  rw [show Cs n (Int.ofNat 0) = decide (n < 0) by rw [Gd]; rfl, Bv]
  refine Bk (fun e => ?_) (fun e => ?_)
  · rw [Ay2, Db, Ar, show (Int.ofNat 1) = Int.ofNat (1#64).toNat from rfl, Ay1, As]
    refine key _ [126] _ ?_ ?_ (by decide)
    · unfold bvB
      rw [if_pos (show ngB n un = true from e)]; exact (by rw [BitVec.neg_eq_not_add]; exact BitVec.add_sub_cancel _ _ : -BitVec.ofInt 64 n - 1#64 = ~~~BitVec.ofInt 64 n)
    · rw [if_pos (show ngB n un = true from e)]
  · refine key _ [] _ ?_ ?_ (by decide)
    · unfold bvB
      rw [if_neg (by rw [show ngB n un = false from e]; simp)]
    · rw [if_neg (by rw [show ngB n un = false from e]; simp)]
theorem Aus (n : Int) (un : Bool) : Pe (wrT (bvB n un).toNat ++ if un then [117] else []) = some ((bvB n un).toNat, un || decide (9223372036854775807 < (bvB n un).toNat)) := by
  have w := Aov (bvB n un).isLt
  cases un with
  | true => exact w.num [117] true (by decide) (by decide)
  | false => exact w.num [] false (fun x hx => absurd hx (by simp)) (by decide)
end Go.Den
