/-
  A part of the proof: PnumForms, from its arguments on.
-/
import Derived.Test.YtdpnnajfmkpfjaaDoorNums
import Derived.Test.YtdpnnajfmkpfjaaDoorChr
namespace Go.Den
open Go.RowKit
set_option maxRecDepth 100000
/-! ### What a written value is -/
theorem valN_eq {B : Nat} : ∀ (l : List UInt8) (v : Nat), valN B v l = v * B ^ l.length + valN B 0 l
  | [], v => by show v = v * B ^ 0 + 0; simp
  | c :: l, v => by
    show valN B (v * B + digN c) l = v * B ^ (l.length + 1) + valN B (0 * B + digN c) l
    rw [valN_eq l (v * B + digN c), valN_eq l (0 * B + digN c), Nat.pow_succ, Nat.zero_mul, Nat.zero_add, Nat.add_mul, Nat.mul_assoc, Nat.mul_comm B, Nat.add_assoc]
theorem valN_cons {B : Nat} (c : UInt8) (l : List UInt8) : valN B 0 (c :: l) = digN c * B ^ l.length + valN B 0 l := by
  show valN B (0 * B + digN c) l = _
  rw [valN_eq, Nat.zero_mul, Nat.zero_add]
theorem valN_snoc {B : Nat} (l : List UInt8) (v : Nat) (c : UInt8) : valN B v (l ++ [c]) = valN B v l * B + digN c := by
  unfold valN; rw [List.foldl_append]; rfl
def numD (T : List UInt8) (f ok : Bool) : Option (Nat × Bool) :=
  if hexedL T = true then num2 f ok 16 hexL (T.drop 2) else if T.take 1 = [48] then num2 f ok 8 octL T else num2 f ok 10 decL T
theorem numL_eq (s : List UInt8) : numL s = numD (rtrim s sufL) (sufP (s.drop (rtrim s sufL).length)).1 (sufP (s.drop (rtrim s sufL).length)).2 := rfl
theorem num2_no (f : Bool) (B : Nat) (set dd : List UInt8) : num2 f false B set dd = none := if_pos rfl
theorem numD_no (T : List UInt8) (f : Bool) : numD T f false = none := by
  unfold numD
  split
  · exact num2_no _ _ _ _
  · split <;> exact num2_no _ _ _ _
theorem runL_all {s set : List UInt8} (h : ∀ x ∈ s, x ∈ set) : runL s set = s.length := by
  induction s with
  | nil => rfl
  | cons c s ih =>
    have hc : c ∈ set := h c (by simp)
    have := ih (fun x hx => h x (by simp [hx]))
    unfold runL at this ⊢
    rw [List.takeWhile_cons, if_pos (by simpa using hc), List.length_cons, List.length_cons, this]
theorem num2_ok {f : Bool} {B : Nat} {set dd : List UInt8} (hne : dd ≠ []) (h : ∀ x ∈ dd, x ∈ set) : num2 f true B set dd = if valN B 0 dd < 18446744073709551616 then some (valN B 0 dd, f || decide (9223372036854775807 < valN B 0 dd)) else none := by
  refine if_neg ?_
  rw [runL_all h, decide_eq_true rfl, decide_eq_false hne]
  simp
theorem num2_nil (f ok : Bool) (B : Nat) (set : List UInt8) : num2 f ok B set [] = none := if_pos (by simp)
theorem num2_bad {f ok : Bool} {B : Nat} {set dd : List UInt8} {x : UInt8} (hx : x ∈ dd) (h : x ∉ set) : num2 f ok B set dd = none := by
  refine if_pos ?_
  have : runL dd set ≠ dd.length := fun e => h (run_mem (s := dd) (set := set) (n := dd.length) (by omega) (by rw [List.take_length]; exact hx))
  rw [decide_eq_false this]
  simp
theorem hexed_no {c : UInt8} {s : List UInt8} (h : ∀ x ∈ s, x ∈ decL) : hexedL (c :: s) = false := by
  unfold hexedL hx1 hx2
  cases s with
  | nil => simp
  | cons d s =>
    have hd := h d (by simp)
    have : d ≠ 120 ∧ d ≠ 88 := by constructor <;> (intro e; subst e; revert hd; decide)
    simp [this.1, this.2]
theorem oct_dec : ∀ x ∈ octL, x ∈ decL := by decide
theorem D8 {s : List UInt8} (h : ∀ x ∈ s, x ∈ octL) (f : Bool) : numD (48 :: s) f true = if valN 8 0 s < 18446744073709551616 then some (valN 8 0 s, f || decide (9223372036854775807 < valN 8 0 s)) else none := by
  unfold numD
  rw [hexed_no (fun x hx => oct_dec x (h x hx)), if_neg (by simp), if_pos (show List.take 1 (48 :: s) = [48] from rfl), num2_ok (by simp) (fun x hx => by rcases List.mem_cons.1 hx with rfl | hx; exact (by decide); exact h x hx)]
  have : valN 8 0 (48 :: s) = valN 8 0 s := by rw [valN_cons]; show 0 * _ + _ = _; omega
  rw [this]
theorem D10 {c : UInt8} {s : List UInt8} (h : ∀ x ∈ c :: s, x ∈ decL) (h0 : c ≠ 48) (f : Bool) : numD (c :: s) f true = if valN 10 0 (c :: s) < 18446744073709551616 then some (valN 10 0 (c :: s), f || decide (9223372036854775807 < valN 10 0 (c :: s))) else none := by
  unfold numD
  rw [hexed_no (fun x hx => h x (by simp [hx])), if_neg (by simp), if_neg (by simp [h0]), num2_ok (by simp) h]
theorem D16 {s : List UInt8} (hne : s ≠ []) (h : ∀ x ∈ s, x ∈ hexL) (f : Bool) : numD (48 :: 120 :: s) f true = if valN 16 0 s < 18446744073709551616 then some (valN 16 0 s, f || decide (9223372036854775807 < valN 16 0 s)) else none := by
  have hx : hexedL (48 :: 120 :: s) = true := by unfold hexedL hx1 hx2; simp
  unfold numD
  rw [hx, if_pos rfl]
  show num2 f true 16 hexL s = _
  rw [num2_ok hne h]
theorem rtrim_app {T : List UInt8} (hT : ∀ x ∈ T, x ∉ sufL) : ∀ (t : List UInt8), (∀ x ∈ t, x ∈ sufL) → rtrim (T ++ t) sufL = T := by
  intro t ht
  have : rtrim (T ++ t) sufL = rtrim T sufL := by
    unfold rtrim
    rw [List.reverse_append, List.dropWhile_append_of_pos (fun x hx => by simpa using ht x (List.mem_reverse.1 hx))]
  rw [this, rtrim_all hT]
/-- a text that is that value, whatever may stand behind -/
def IsNum (T : List UInt8) (u : Nat) : Prop := (∀ x ∈ T, x ∉ sufL) ∧ (∀ f, numD T f true = some (u, f || decide (9223372036854775807 < u))) ∧ (2305843009213693952 < u → ∀ f, numD (T ++ [48]) f true = none) ∧ T.length ≤ 70
def tailsN : List (List UInt8) := [[], [117], [85], [108], [76], [108, 108], [76, 76], [117, 108], [76, 85], [117, 76, 76], [108, 108, 85]]
theorem tailsN_suf : ∀ t ∈ tailsN, ∀ x ∈ t, x ∈ sufL := by decide
def unN (r : Nat) : Bool := decide (r = 1) || decide (r = 2) || decide (7 ≤ r)
theorem tailsN_get : ∀ r, (hr : r < 11) → ∃ h : r < tailsN.length, sufP tailsN[r] = (unN r, true) := by
  intro r hr
  refine ⟨hr, ?_⟩
  match r, hr with
  | 0, _ | 1, _ | 2, _ | 3, _ | 4, _ | 5, _ | 6, _ | 7, _ | 8, _ | 9, _ | 10, _ => rfl
section
variable {T : List UInt8} {u : Nat} (g : IsNum T u) {t : List UInt8} (ht : ∀ x ∈ t, x ∈ sufL)
include g ht
theorem n_t {f : Bool} (hs : sufP t = (f, true)) : numL (T ++ t) = some (u, f || decide (9223372036854775807 < u)) := by
  rw [numL_eq, rtrim_app g.1 t ht, List.drop_left, hs]
  exact g.2.1 f
theorem n_more (hu : 2305843009213693952 < u) {f : Bool} (hs : sufP t = (f, true)) : numL (T ++ [48] ++ t) = none := by
  have h0 : ∀ x ∈ T ++ [48], x ∉ sufL := fun x hx => by
    rcases List.mem_append.1 hx with hx | hx
    · exact g.1 x hx
    · rw [List.mem_singleton] at hx; subst hx; decide
  rw [numL_eq, rtrim_app h0 t ht, List.drop_left, hs]
  exact g.2.2.1 hu f
end
theorem n_mixed {T : List UInt8} {u : Nat} (g : IsNum T u) : numL (T ++ [108, 76]) = none := by
  rw [numL_eq, rtrim_app g.1 [108, 76] (by decide), List.drop_left]
  exact numD_no T _
theorem n_odd (X : List UInt8) : numL (X ++ [120]) = none := by
  have hr : rtrim (X ++ [120]) sufL = X ++ [120] := by rw [rtrim_snoc]; exact if_neg (by decide)
  rw [numL_eq, hr]
  unfold numD
  split
  · rename_i hx
    match X, hx with
    | [], hx => cases hx
    | [a], _ => exact num2_nil _ _ _ _
    | a :: b :: X, _ => exact num2_bad (x := 120) (by simp) (by decide)
  · split
    · exact num2_bad (x := 120) (by simp) (by decide)
    · exact num2_bad (x := 120) (by simp) (by decide)
/-- digits that are put ahead, one by one -/
structure Dig (B u v : Nat) (s : List UInt8) : Prop where
  val : u = v * B ^ s.length + valN B 0 s
  mem : ∀ x ∈ s, x ∈ lowX ∧ digN x < B
  lead : v = 0 → s.head? ≠ some 48
  len : s.length ≤ 64
theorem low_dig' : ∀ d : Fin 16, digN (lowX[d.1]'d.2) = d.1 ∧ lowX[d.1]'d.2 ∈ lowX ∧ (lowX[d.1]'d.2 = 48 → d.1 = 0) := by decide
theorem low_dig (d : Nat) (hd : d < lowX.length) : digN lowX[d] = d ∧ lowX[d] ∈ lowX ∧ (lowX[d] = 48 → d = 0) := low_dig' ⟨d, hd⟩
theorem Dig.start {B u : Nat} : Dig B u u [] := ⟨by show u = u * 1 + 0; omega, fun x hx => (List.not_mem_nil hx).elim, fun _ => by simp, by simp⟩
theorem Dig.step {B u v : Nat} {s : List UInt8} (hB : 2 ≤ B ∧ B ≤ 16) (hu : u < 18446744073709551616) (hv : 0 < v) (d : Dig B u v s) (hlt : v % B < lowX.length) : Dig B u (v / B) (lowX[v % B] :: s) := by
  have hm : v % B < B := Nat.mod_lt _ (by omega)
  obtain ⟨h1, h2, h3⟩ := low_dig (v % B) hlt
  refine ⟨?_, fun x hx => ?_, fun h0 => ?_, ?_⟩
  · rw [valN_cons, h1, List.length_cons, Nat.pow_succ, ← Nat.add_assoc, ← Nat.mul_assoc, Nat.mul_right_comm, ← Nat.add_mul, Nat.mul_comm (v / B) B, Nat.div_add_mod]
    exact d.val
  · rcases List.mem_cons.1 hx with rfl | hx
    · exact ⟨h2, by rw [h1]; exact hm⟩
    · exact d.mem x hx
  · have : v < B := by
      rcases Nat.lt_or_ge v B with h | h
      · exact h
      · have := Nat.div_pos h (by omega); omega
    have hvm : v % B = v := Nat.mod_eq_of_lt this
    intro e
    have e : lowX[v % B] = 48 := Option.some.inj e
    have := h3 e
    omega
  · have h4 : B ^ s.length ≤ u := by
      have h5 : 1 * B ^ s.length ≤ v * B ^ s.length := Nat.mul_le_mul_right _ hv
      have := d.val
      omega
    have h5 : 2 ^ s.length ≤ B ^ s.length := Nat.pow_le_pow_left hB.1 _
    have h6 : s.length < 64 := by
      rcases Nat.lt_or_ge s.length 64 with h | h
      · exact h
      · have : 2 ^ 64 ≤ 2 ^ s.length := Nat.pow_le_pow_right (by decide) h
        have h7 : (2 : Nat) ^ 64 = 18446744073709551616 := by decide
        omega
    rw [List.length_cons]; omega
theorem lowX_hex : ∀ x ∈ lowX, x ∈ hexL := by decide
theorem lowX_8 : ∀ x ∈ lowX, digN x < 8 → x ∈ octL := by decide
theorem lowX_10 : ∀ x ∈ lowX, digN x < 10 → x ∈ decL := by decide
theorem hex_suf : ∀ x ∈ hexL, x ∉ sufL := by decide
theorem Dig.fin {B u : Nat} {s : List UInt8} (d : Dig B u 0 s) : u = valN B 0 s := by have := d.val; omega
section
variable {B u : Nat} {s : List UInt8} (d : Dig B u 0 s) (hu : u < 18446744073709551616)
include d hu
theorem good8 (hB : B = 8) : IsNum ([48] ++ s) u := by
  subst hB
  have hm : ∀ x ∈ s, x ∈ octL := fun x hx => lowX_8 x (d.mem x hx).1 (d.mem x hx).2
  have hf := d.fin
  refine ⟨fun x hx => ?_, fun f => ?_, fun hb f => ?_, ?_⟩
  · rcases List.mem_append.1 hx with hx | hx
    · rw [List.mem_singleton] at hx; subst hx; decide
    · exact hex_suf x (oct_hex x (hm x hx))
  · show numD (48 :: s) f true = _
    rw [D8 hm, ← hf, if_pos hu]
  · show numD (48 :: (s ++ [48])) f true = _
    rw [D8 (fun x hx => by rcases List.mem_append.1 hx with hx | hx; exact hm x hx; rw [List.mem_singleton] at hx; subst hx; decide), valN_snoc, ← hf]
    exact if_neg (by show ¬ u * 8 + 0 < _; omega)
  · have := d.len; rw [List.length_append, List.length_singleton]; omega
theorem good16 (hB : B = 16) : IsNum ([48, 120] ++ if s = [] then [48] else s) u := by
  subst hB
  have hf := d.fin
  have hm : ∀ x ∈ (if s = [] then [48] else s), x ∈ hexL := by
    by_cases e : s = []
    · rw [if_pos e]; decide
    · rw [if_neg e]; exact fun x hx => lowX_hex x (d.mem x hx).1
  have hv : valN 16 0 (if s = [] then [48] else s) = u := by
    by_cases e : s = []
    · rw [if_pos e]; subst e; rw [hf]; rfl
    · rw [if_neg e, hf]
  have hne : (if s = [] then [48] else s) ≠ [] := by
    by_cases e : s = []
    · rw [if_pos e]; simp
    · rw [if_neg e]; exact e
  have hlen : (if s = [] then [48] else s).length ≤ 65 := by
    by_cases e : s = []
    · rw [if_pos e]; decide
    · rw [if_neg e]; have := d.len; omega
  revert hm hv hne hlen
  generalize (if s = [] then [48] else s) = z
  intro hm hv hne hlen
  refine ⟨fun x hx => ?_, fun f => ?_, fun hb f => ?_, ?_⟩
  · rcases List.mem_append.1 hx with hx | hx
    · exact (show ∀ x ∈ ([48, 120] : List UInt8), x ∉ sufL by decide) x hx
    · exact hex_suf x (hm x hx)
  · show numD (48 :: 120 :: z) f true = _
    rw [D16 hne hm, hv, if_pos hu]
  · show numD (48 :: 120 :: (z ++ [48])) f true = _
    rw [D16 (by simp) (fun x hx => by rcases List.mem_append.1 hx with hx | hx; exact hm x hx; rw [List.mem_singleton] at hx; subst hx; decide), valN_snoc, hv]
    exact if_neg (by show ¬ u * 16 + 0 < _; omega)
  · rw [List.length_append]; show 2 + z.length ≤ 70; omega
theorem good10 (hB : B = 10) : IsNum (if s = [] then [48] else s) u := by
  subst hB
  have hf := d.fin
  have hm : ∀ x ∈ s, x ∈ decL := fun x hx => lowX_10 x (d.mem x hx).1 (d.mem x hx).2
  cases s with
  | nil =>
    have hu0 : u = 0 := hf
    subst hu0
    rw [if_pos rfl]
    exact ⟨by decide, fun f => by cases f <;> rfl, fun h => absurd h (by decide), by decide⟩
  | cons c s =>
    have h0 : c ≠ 48 := fun e => d.lead rfl (by rw [e]; rfl)
    rw [if_neg (by simp)]
    refine ⟨fun x hx => hex_suf x (dec_hex (hm x hx)), fun f => ?_, fun hb f => ?_, ?_⟩
    · rw [D10 hm h0, ← hf, if_pos hu]
    · show numD (c :: (s ++ [48])) f true = _
      rw [D10 (s := s ++ [48]) (fun x hx => by
        have hx : x ∈ (c :: s) ++ [48] := hx
        rcases List.mem_append.1 hx with hx | hx
        · exact hm x hx
        · rw [List.mem_singleton] at hx; subst hx; decide) h0]
      have : valN 10 0 (c :: (s ++ [48])) = u * 10 + 0 := by
        show valN 10 0 ((c :: s) ++ [48]) = _
        rw [valN_snoc, ← hf]; rfl
      rw [this]
      exact if_neg (by omega)
    · have := d.len; omega
end
end Go.Den
namespace Go.Den
open Go.RowKit
set_option maxRecDepth 100000
/-! ### The walk -/
theorem use3 {F : FuncId} {args : List AV} {r : AV} (hp : Pure PP G h1 F args r) {h : H} (he : HasE h) {k : KV} (hk : k r h) (hr : plain r = true) (ha : plains args = true := by rfl) : W1 (.func F) args h k := pure_use1 hp ha hr he hk
noncomputable def T11 : Tm := Option.rec .e (fun t => t) (fillL (placeA 1) 11 [(0, (.str 0 0)), (1, (.str 1 117)), (2, (.str 1 85)), (3, (.str 1 108)), (4, (.str 1 76)), (5, (.str 2 27756)), (6, (.str 2 19532)), (7, (.str 2 27765)), (8, (.str 2 21836)), (9, (.str 3 5000309)), (10, (.str 3 5598316))] (tlist (repl [.str 0 0] 11) 0 .e))
theorem b11 (h : H) : withElem env 35 (fun e ei => exBuildSlice 11 [(0, (.str 0 0)), (1, (.str 1 117)), (2, (.str 1 85)), (3, (.str 1 108)), (4, (.str 1 76)), (5, (.str 2 27756)), (6, (.str 2 19532)), (7, (.str 2 27765)), (8, (.str 2 21836)), (9, (.str 3 5000309)), (10, (.str 3 5598316))] h e ei) = some (.slice h.next 0 11 1 true, h.new (.row T11 11 0 9 true)) := by kernel_rfl
/-- what stays: the list of suffixes, and strconv.ErrRange -/
structure Stays (b : P) (h : H) : Prop where
  row : h.at b = .row T11 11 0 9 true
  lt : b.nat < h.next.nat
  err : HasE h
theorem Stays.keep {b : P} {h h' : H} (s : Stays b h) (hn : h.next.nat ≤ h'.next.nat) (hf : ∀ c, c.nat < h.next.nat → h'.at c = h.at c) : Stays b h' :=
  ⟨by rw [hf b s.lt]; exact s.row, Nat.lt_of_lt_of_le s.lt hn, s.err.keep hn hf⟩
theorem Stays.new {b : P} {h : H} {o : Ob FT} (s : Stays b h) : Stays b (h.new o) := s.keep (by rw [next_new]; omega) fun _ hc => at_new_o hc
theorem pick11 {h : H} {b : P} (ha : h.at b = .row T11 11 0 9 true) {r : Nat} (hr : r < 11) {K : Nat → Nat → Prop} (hk : K (tailsN[r]'hr).length (enc (tailsN[r]'hr))) : elemA 1 r (.slice b 0 11 1 true) fun v => ld1 v h fun v => asS v K := by
  have key : ∀ t, tget T11 r = S t → tailsN[r]'hr = t → elemA 1 r (.slice b 0 11 1 true) fun v => ld1 v h fun v => asS v K := by
    intro t e e2
    have hb : elemA 1 r (.slice b 0 11 1 true) (fun v => ld1 v h fun v => asS v K) = ld1 (.ptr b r) h fun v => asS v K := by
      match r, hr with
      | 0, _ | 1, _ | 2, _ | 3, _ | 4, _ | 5, _ | 6, _ | 7, _ | 8, _ | 9, _ | 10, _ => rfl
    rw [hb]
    refine ld1_i ha hr ?_
    rw [e]
    rw [e2] at hk
    exact hk
  match r, hr with
  | 0, _ => exact key [] (by kernel_rfl) rfl
  | 1, _ => exact key [117] (by kernel_rfl) rfl
  | 2, _ => exact key [85] (by kernel_rfl) rfl
  | 3, _ => exact key [108] (by kernel_rfl) rfl
  | 4, _ => exact key [76] (by kernel_rfl) rfl
  | 5, _ => exact key [108, 108] (by kernel_rfl) rfl
  | 6, _ => exact key [76, 76] (by kernel_rfl) rfl
  | 7, _ => exact key [117, 108] (by kernel_rfl) rfl
  | 8, _ => exact key [76, 85] (by kernel_rfl) rfl
  | 9, _ => exact key [117, 76, 76] (by kernel_rfl) rfl
  | 10, _ => exact key [108, 108, 85] (by kernel_rfl) rfl
theorem cvone (x : UInt8) (h : H) : convA env (h.new (.row (T1 (Int.ofNat x.toNat)) 1 0 TB true)) 37 9 (.slice h.next 0 1 1 true) = some (S [x], h.new (.row (T1 (Int.ofNat x.toNat)) 1 0 TB true)) :=
  conv_row (l := [x]) (at_new_same _ _) (Nat.le_refl 1) (CellsAre.new [x] _)
theorem neq25_self (n : Int) (x : Bool) : binA env .neq 25 (.agg [.int .u64 n, .bool x]) (.agg [.int .u64 n, .bool x]) = some (.bool false) := by
  have e : binA env .neq 25 (.agg [.int .u64 n, .bool x]) (.agg [.int .u64 n, .bool x]) = neAns (Bool.rec (some false) (Bool.rec (some false) (some true) (beqB x x)) (ibeq n n)) := by kernel_rfl
  rw [e, beqB_self, show ibeq n n = true by rw [ibeq_eq]; simp]; rfl
theorem numV_form (o : Option (Nat × Bool)) : ∃ a b, numV o = .tuple [.agg [.int .u64 a, .bool b], .bool o.isSome] ∧ ∀ x y, o = some (x, y) → a = Int.ofNat x ∧ b = y := by
  cases o with
  | none => exact ⟨Int.ofNat 0, false, rfl, fun x y h => by cases h⟩
  | some p => exact ⟨Int.ofNat p.1, p.2, rfl, fun x y h => by cases h; exact ⟨rfl, rfl⟩⟩
section
variable {u r : Nat} {b : P} (hr : r < 11) (hu : u < 18446744073709551616)
include hr
/-- behind a written value: what is asked of it -/
theorem c4_4 {B n : Nat} {T : List UInt8} {h : H} (g : IsNum T u) (st : Stays b h) (hk : ∀ h', Stays b h' → (r4 W1 kT n).a5 (Int.ofNat u) (.slice b 0 11 1 true) (Int.ofNat r) (Int.ofNat B) h') : (r4 W1 kT (n + 2)).a4 (Int.ofNat u) (.slice b 0 11 1 true) (Int.ofNat r) (Int.ofNat B) T.length (enc T) h := by
  refine j4_4 ?_
  unfold s4_4
  obtain ⟨hr', hsuf⟩ := tailsN_get r hr
  have htm := tailsN_suf (tailsN[r]'hr) (List.getElem_mem hr')
  have htl : (tailsN[r]'hr).length ≤ 3 := (show ∀ t ∈ tailsN, t.length ≤ 3 by decide) _ (List.getElem_mem hr')
  have gl := g.2.2.2
  refine or_b ?_
  refine or_b ?_
  refine or_b ?_
  rw [ieqN, ieqN, ile, ilt, natI_eq]
  refine pick11 st.row hr ?_
  refine catS_i (by omega) ?_
  refine use3 (c9 _ (by rw [List.length_append]; omega)) st.err ?_ (plain_numV _)
  rw [n_t g htm hsuf]
  show ext 0 (.tuple [.agg [.int .u64 (Int.ofNat u), .bool (unN r || decide (9223372036854775807 < u))], .bool true]) _
  rw [ext_0]
  show ext 1 (.tuple [.agg [.int .u64 (Int.ofNat u), .bool (unN r || decide (9223372036854775807 < u))], .bool true]) _
  rw [ext_1, asB_b]
  refine newK_i ?_
  refine new2 fun h2 a2 n2 f2 => ?_
  have st2 := st.keep (by omega) f2
  refine catS_i (t := [48]) (by simp; omega) ?_
  rw [natI_eq]
  refine pick11 st2.row hr ?_
  refine catS_i (by simp; omega) ?_
  refine use3 (c9 _ (by simp; omega)) st2.err ?_ (plain_numV _)
  obtain ⟨x3, y3, e3, _⟩ := numV_form (numL (T ++ [48] ++ tailsN[r]'hr))
  rw [e3, ext_0, ext_1, asB_b]
  refine newK_i ?_
  refine new2 fun h3 a3 n3 f3 => ?_
  have st3 := st2.keep (by omega) f3
  rw [natI_eq]
  refine pick11 st3.row hr ?_
  refine catS_i (by omega) ?_
  refine catS_i (t := [120]) (by rw [List.length_append, List.length_singleton]; omega) ?_
  refine use3 (c9 _ (by simp; omega)) st3.err ?_ (plain_numV _)
  rw [n_odd]
  show ext 0 (.tuple [.agg [.int .u64 (Int.ofNat 0), .bool false], .bool false]) _
  rw [ext_0]
  show ext 1 (.tuple [.agg [.int .u64 (Int.ofNat 0), .bool false], .bool false]) _
  rw [ext_1, asB_b]
  refine newK_i ?_
  refine new2 fun h4 a4 n4 f4 => ?_
  have st4 := st3.keep (by omega) f4
  refine catS_i (t := [108, 76]) (by simp; omega) ?_
  refine use3 (c9 _ (by simp; omega)) st4.err ?_ (plain_numV _)
  rw [n_mixed g]
  show ext 0 (.tuple [.agg [.int .u64 (Int.ofNat 0), .bool false], .bool false]) _
  rw [ext_0]
  show ext 1 (.tuple [.agg [.int .u64 (Int.ofNat 0), .bool false], .bool false]) _
  rw [ext_1, asB_b]
  refine newK_i ?_
  refine new2 fun h5 a5 n5 f5 => ?_
  have st5 := st4.keep (by omega) f5
  have a25 : h5.at h.next = h2.at h.next := by rw [f5 _ (by omega), f4 _ (by omega), f3 _ (by omega)]
  refine j4_6 ?_
  unfold s4_6
  refine or_q (b := false) (fun k' hk' => ?_) ?_
  · refine ldn_i (a25.trans a2) (by decide) ?_
    rw [gc2, b25v, oK_some]
    show oV (binA env .neq 25 (.agg [.int .u64 (Int.ofNat u), .bool (unN r || decide (9223372036854775807 < u))]) (.agg [.int .u64 (Int.ofNat u), .bool (unN r || decide (9223372036854775807 < u))])) _
    rw [neq25_self, oV_some, asB_b]
    exact hk'
  refine or_b ?_
  refine or_b ?_
  refine or_q (b := false) (fun k' hk' => ?_) ?_
  · refine and_b ?_
    rw [ilt]
    by_cases hb : 2305843009213693952 < u
    · rw [n_more g htm hb hsuf]
      show k' (_ && false) h5
      rw [Bool.and_false]; exact hk'
    · rw [decide_eq_false hb, Bool.false_and]; exact hk'
  refine cnd_f rfl ?_
  exact hk h5 st5
include hu
theorem c4_2 {B : Nat} (hB : B = 8 ∨ B = 10 ∨ B = 16) {e : Nat} (hk : ∀ n h', e ≤ n → Stays b h' → (r4 W1 kT n).a5 (Int.ofNat u) (.slice b 0 11 1 true) (Int.ofNat r) (Int.ofNat B) h') : ∀ (n v : Nat) (s : List UInt8) (h : H), v + e + 5 ≤ n → Stays b h → Dig B u v s → v < 18446744073709551616 →
    (r4 W1 kT n).a2 (Int.ofNat u) (.slice b 0 11 1 true) (Int.ofNat r) (Int.ofNat B) s.length (enc s) (Int.ofNat v) h
  | 0, _, _, _, hn, _, _, _ => absurd hn (by omega)
  | n + 1, v, s, h, hn, st, d, hv => by
    refine j4_2 ?_
    unfold s4_2
    have hB2 : 2 ≤ B ∧ B ≤ 16 := by omega
    have hB0 : 0 < B := by omega
    rw [ilt]
    by_cases e0 : 0 < v
    · refine cnd_t (decide_eq_true e0) ?_
      have hm : v % B < lowX.length := by have := Nat.mod_lt v hB0; show _ < 16; omega
      rw [wrap64l (show B < 18446744073709551616 by omega), fI_eq, remN hB0, natI_eq]
      refine idxS_i (s := lowX) hm ?_
      rw [bld1, oK_some, cvone, oK_some, asS_s]
      have dl := d.len
      refine catS_i (s := [lowX[v % B]]) (by simp; omega) ?_
      have hq : quoI .u64 (Int.ofNat v) (Int.ofNat B) = fun K => K (Int.ofNat (v / B)) := by
        funext K
        unfold quoI
        rw [ieqN, decide_eq_false (show ¬ B = 0 by omega)]
        show fI (wrap .u64 (Int.ofNat (v / B))) K = _
        rw [wrap64l (by have := Nat.div_le_self v B; omega), fI_eq]
      rw [fI_eq, hq]
      exact c4_2 hB hk n (v / B) _ _ (by have := Nat.div_lt_self e0 hB2.1; omega) st.new (d.step hB2 hu e0 hm) (by have := Nat.div_le_self v B; omega)
    · refine cnd_f (decide_eq_false e0) ?_
      have hv0 : v = 0 := by omega
      subst hv0
      have dl := d.len
      obtain ⟨n, rfl⟩ : ∃ n', n = n' + 3 := ⟨n - 3, by omega⟩
      rw [ieqN]
      rcases hB with rfl | rfl | rfl
      · refine cnd_t rfl ?_
        refine catS_i (s := [48]) (by simp; omega) ?_
        exact c4_4 hr (good8 d hu rfl) st fun h' st' => hk _ h' (by omega) st'
      · refine cnd_f rfl ?_
        refine cnd_f rfl ?_
        rw [strEq_nil]
        have g := good10 d hu rfl
        refine cnd_i (fun e1 => ?_) (fun e1 => ?_)
        · have e1 : s = [] := of_decide_eq_true e1
          rw [if_pos e1] at g
          exact c4_4 (T := [48]) hr g st fun h' st' => hk _ h' (by omega) st'
        · have e1 : ¬ s = [] := of_decide_eq_false e1
          rw [if_neg e1] at g
          exact c4_4 hr g st fun h' st' => hk _ h' (by omega) st'
      · refine cnd_f rfl ?_
        refine cnd_t rfl ?_
        rw [strEq_nil]
        have g := good16 d hu rfl
        refine cnd_i (fun e1 => ?_) (fun e1 => ?_)
        · have e1 : s = [] := of_decide_eq_true e1
          rw [if_pos e1] at g
          refine j4_3 ?_
          unfold s4_3
          refine catS_i (s := [48, 120]) (t := [48]) (by simp) ?_
          exact c4_4 hr g st fun h' st' => hk _ h' (by omega) st'
        · have e1 : ¬ s = [] := of_decide_eq_false e1
          rw [if_neg e1] at g
          refine j4_3 ?_
          unfold s4_3
          refine catS_i (s := [48, 120]) (by simp; omega) ?_
          exact c4_4 hr g st fun h' st' => hk _ h' (by omega) st'
theorem c4_1 : ∀ (m j n : Nat) (h : H), m + j = 17 → m * (u + 20) + 20 ≤ n → Stays b h → (r4 W1 kT n).a1 (Int.ofNat u) (.slice b 0 11 1 true) (Int.ofNat r) (Int.ofNat j) h
  | 0, j, n, h, hj, hn, st => by
    obtain ⟨n, rfl⟩ : ∃ n', n = n' + 1 := ⟨n - 1, by omega⟩
    refine j4_1 ?_
    unfold s4_1
    rw [ile]
    refine cnd_f (decide_eq_false (by omega)) ?_
    refine use2 c8 ?_
    rw [asB_b]
  | m + 1, j, n, h, hj, hn, st => by
    rw [Nat.succ_mul] at hn
    obtain ⟨n, rfl⟩ : ∃ n', n = n' + 1 := ⟨n - 1, by omega⟩
    refine j4_1 ?_
    unfold s4_1
    rw [ile]
    refine cnd_t (decide_eq_true (by omega)) ?_
    refine and_b ?_
    refine and_b ?_
    rw [ieqN, ieqN, ieqN, bnot_eq, bnot_eq, bnot_eq]
    have next : ∀ n' h', m * (u + 20) + 21 ≤ n' → Stays b h' → (r4 W1 kT n').a5 (Int.ofNat u) (.slice b 0 11 1 true) (Int.ofNat r) (Int.ofNat j) h' := by
      intro n' h' hn' st'
      obtain ⟨n', rfl⟩ : ∃ n'', n' = n'' + 1 := ⟨n' - 1, by omega⟩
      refine j4_5 ?_
      unfold s4_5
      rw [iadd1 (by omega), fI_eq]
      exact c4_1 m (j + 1) n' h' (by omega) (by omega) st'
    refine cnd_i (fun e => ?_) (fun e => ?_)
    · exact next n h (by omega) st
    · have hB : j = 8 ∨ j = 10 ∨ j = 16 := by
        simp only [Bool.and_eq_false_iff, Bool.not_eq_false', decide_eq_true_eq] at e
        rcases e with (e | e) | e
        · exact .inl e
        · exact .inr (.inl e)
        · exact .inr (.inr e)
      refine c4_2 hr hu hB (e := m * (u + 20) + 21) next n u [] h (by omega) st .start hu
end
theorem c4 {u : Nat} {suffix : Int} (hu : u < 18446744073709551616) : SW PP G (.func 4) [.int .u64 (Int.ofNat u), .int .i64 suffix] h1 kT := by
  refine w4 (n := 100 * (u + 20) + 1) sw_ok (g4 ?_)
  unfold s4_0
  rw [b11, oK_some, lenV_sl]
  obtain ⟨r, hr, cr⟩ := c18 suffix (m := 11) (by decide) (by decide)
  refine use2 cr ?_
  rw [asI_k]
  exact c4_1 hr hu 9 8 _ _ rfl (by omega) ⟨at_new_same _ _, by rw [next_new]; omega, hasE_h1.new⟩
end Go.Den
