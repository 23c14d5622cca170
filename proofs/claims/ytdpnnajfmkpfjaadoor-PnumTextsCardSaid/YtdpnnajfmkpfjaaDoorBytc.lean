/-
  A part of the proof: pnum.Char, and bytes as they are read.
-/
import Derived.Test.YtdpnnajfmkpfjaaDoorByts
namespace Go.Den
open Go.RowKit
set_option maxRecDepth 100000
/-! ### Rows of bytes, read -/
theorem cv37 (v : AV) (h : H) : convA env h 37 9 v = convStr env 37 v h := by kernel_rfl
theorem cvb (b : P) (o n : Nat) (h : H) : convBytes env 37 b o n h = (Option.rec none (fun cs => strAns h (cellBytes cs)) (h.read b o n) : Option (AV × H)) := by kernel_rfl
theorem strAns_ub (h : H) (l : List UInt8) : strAns h (cellBytes (ubs l)) = some (S l, h) := by
  rw [cells_u8]
  show some (strOf (l.map (·.toNat)), h) = _
  rw [str_u8]
theorem read_row {h : H} {q : P} {t : Tm} {m z n : Nat} {e : TypeId} {w : Bool} (ha : h.at q = .row t m z e w) (hn : n ≤ m) : h.read q 0 n = some (getCells t n 0) := by
  unfold Hp.read Hp.readK
  rw [ha]
  show (rdRow 0 n none some t m : Option (List AV)) = _
  unfold rdRow
  rw [show Nat.ble (Nat.add 0 n) m = true from Nat.ble_eq_true_of_le (by show 0 + n ≤ m; omega)]
theorem conv_row {h : H} {q : P} {t : Tm} {m z : Nat} {w : Bool} {l : List UInt8} {ti : Bool} (ha : h.at q = .row t m z TB w) (hm : l.length ≤ m) (hc : CellsAre t l) : convA env h 37 9 (.slice q 0 l.length 1 ti) = some (S l, h) := by
  rw [cv37]
  show convBytes env 37 q 0 l.length h = _
  rw [cvb, read_row ha hm, hc.get]
  exact strAns_ub h l
/-- an argument that holds those bytes -/
def Bys (h : H) (v : AV) (l : List UInt8) : Prop := (v = .nils ∧ l = []) ∨ ∃ b c m, v = .slice b 0 l.length 1 false ∧ b.nat < h.next.nat ∧ h.at b = .ext c m ∧ l.length ≤ m ∧ ∀ i (hi : i < l.length), c i = ub l[i]
theorem Bys.len {h : H} {v : AV} {l : List UInt8} (hb : Bys h v l) {K : Nat → Prop} : lenV v K = K l.length := by
  rcases hb with ⟨rfl, rfl⟩ | ⟨b, c, m, rfl, _⟩ <;> rfl
theorem Bys.get {h : H} {v : AV} {l : List UInt8} (hb : Bys h v l) {i : Nat} (hi : i < l.length) {K : AV → Prop} (hk : K (ub l[i])) : elemA 1 i v fun v' => ld1 v' h K := by
  rcases hb with ⟨rfl, rfl⟩ | ⟨b, c, m, rfl, _, ha, hm, hc⟩
  · exact absurd hi (Nat.not_lt_zero _)
  · show (Bool.rec bad0 (fN (Nat.add 0 (Nat.mul i 1)) (fun q => ld1 (.ptr b q) h K)) (band (Nat.ble (Nat.add i 1) l.length) (Nat.beq 1 1)) : Prop)
    rw [Nat.ble_eq_true_of_le (show Nat.add i 1 ≤ l.length from hi)]
    have e1 : Nat.add 0 (Nat.mul i 1) = i := by show 0 + i * 1 = i; omega
    rw [e1]
    show h.read1K b i bad0 K
    unfold Hp.read1K
    rw [ha]
    show rd1Ext i bad0 K c m
    unfold rd1Ext
    rw [show Nat.ble (Nat.add i 1) m = true from Nat.ble_eq_true_of_le (by show i + 1 ≤ m; omega)]
    show forceV (c i) K
    rw [forceV_eq, hc i hi]; exact hk
theorem Bys.str {h : H} {v : AV} {l : List UInt8} (hb : Bys h v l) : convA env h 37 9 v = some (S l, h) := by
  rw [cv37]
  rcases hb with ⟨rfl, rfl⟩ | ⟨b, c, m, rfl, _, ha, hm, hc⟩
  · show convNil env 37 h = _
    kernel_rfl
  · show convBytes env 37 b 0 l.length h = _
    rw [cvb]
    have hr : h.read b 0 l.length = some (ubs l) := by
      unfold Hp.read Hp.readK
      rw [ha]
      show (rdExt 0 l.length none some c m : Option (List AV)) = _
      unfold rdExt
      rw [show Nat.ble (Nat.add 0 l.length) m = true from Nat.ble_eq_true_of_le (by show 0 + l.length ≤ m; omega)]
      show some (funCells c l.length 0) = _
      congr 1
      have key : ∀ (n o : Nat), funCells c n o = (List.range n).map fun i => c (o + i) := by
        intro n
        induction n with
        | zero => intro o; rfl
        | succ n ih =>
          intro o
          show c o :: funCells c n (Nat.add o 1) = _
          rw [ih, List.range_succ_eq_map, List.map_cons, List.map_map]
          congr 1
          apply List.map_congr_left
          intro i _
          show c (o + 1 + i) = c (o + (i + 1))
          congr 1; omega
      rw [key]
      apply List.ext_getElem
      · simp [ubs]
      · intro i h1 h2
        have hi : i < l.length := by simpa using h1
        simp only [List.getElem_map, List.getElem_range, ubs, Nat.zero_add]
        exact hc i hi
    rw [hr]
    exact strAns_ub h l
theorem Bys.mono {h h' : H} {v : AV} {l : List UInt8} (hb : Bys h v l) (hn : h.next.nat ≤ h'.next.nat) (hk : ∀ b c m, h.at b = .ext c m → b.nat < h.next.nat → h'.at b = h.at b) : Bys h' v l := by
  rcases hb with ⟨rfl, rfl⟩ | ⟨b, c, m, rfl, h1, h2, h3⟩
  · exact .inl ⟨rfl, rfl⟩
  · exact .inr ⟨b, c, m, rfl, Nat.lt_of_lt_of_le h1 hn, by rw [hk b c m h2 h1]; exact h2, h3⟩
theorem Bys.new {h : H} {o : Ob FT} {v : AV} {l : List UInt8} (hb : Bys h v l) : Bys (h.new o) v l := hb.mono (by rw [next_new]; omega) fun _ _ _ _ h1 => at_new_o h1
theorem Bys.put {h : H} {o : Ob FT} {p : P} {t : Tm} {n z : Nat} {e : TypeId} {w : Bool} {v : AV} {l : List UInt8} (hb : Bys h v l) (ha : h.at p = .row t n z e w) : Bys (h.put p o) v l :=
  hb.mono (Nat.le_refl _) fun b c m h1 _ => at_put_o fun e => by subst e; rw [ha] at h1; cases h1
/-! ### Numbers -/
theorem wrap8 {n : Nat} (h : n < 256) : wrap .u8 (Int.ofNat n) = Int.ofNat n := by
  rw [wrap_eq]
  simp [IntKind.wrap, IntKind.bits, IntKind.signed]
  omega
theorem quo8 {a b : Nat} {K : Int → Prop} (ha : a < 256) (hb : 0 < b) : quoI .u8 (Int.ofNat a) (Int.ofNat b) K = K (Int.ofNat (a / b)) := by
  unfold quoI
  rw [ieqN, decide_eq_false (show ¬ b = 0 by omega)]
  show fI (wrap .u8 (Int.ofNat (a / b))) K = _
  rw [wrap8 (by have := Nat.div_le_self a b; omega), fI_eq]
theorem remN {a b : Nat} {K : Int → Prop} (hb : 0 < b) : remI (Int.ofNat a) (Int.ofNat b) K = K (Int.ofNat (a % b)) := by
  unfold remI
  rw [ieqN, decide_eq_false (show ¬ b = 0 by omega)]
  show fI (Int.ofNat (a % b)) K = _
  rw [fI_eq]
theorem add48 {d : Nat} (h : d < 200) : wrap .u8 (iadd (Int.ofNat 48) (Int.ofNat d)) = Int.ofNat (UInt8.ofNat (48 + d)).toNat := by
  rw [iadd_eq, show Int.ofNat 48 + Int.ofNat d = Int.ofNat (48 + d) from rfl, wrap8 (by omega)]
  congr 1
  have : (UInt8.ofNat (48 + d)).toNat = (48 + d) % 256 := by simp
  omega
/-! ### pnum.Char -/
def allF (v : Nat) (l : List UInt8) : Nat := l.foldl (fun v b => (v * 256 % 4294967296) ||| b.toNat) v
noncomputable def cvI (l : List UInt8) : Int := if 1 < l.length then wrap .i64 (wrap .i32 (Int.ofNat (allF 0 l))) else wrap .i64 (wrap .i8 (Int.ofNat (l.headD 0).toNat))
noncomputable def charL (s : List UInt8) : Option (Int × Bool) := match bytL s with
  | none => none
  | some l => if (lettersL s).1 = [117, 56] ∨ ¬ (s.drop (lettersL s).1.length).head? = some 39 ∨ l = [] ∨ 8 < l.length then none else some (wrap .u64 (cvI l), decide ((lettersL s).1 = [117]) || decide ((lettersL s).1 = [85]))
noncomputable def charV (o : Option (Int × Bool)) : AV := match o with
  | some p => .tuple [.agg [.int .u64 p.1, .bool p.2], .bool true]
  | none => noneV
theorem gc2 (a b : AV) (t : Tm) : getCells (tlist [a, b] 0 t) 2 0 = [a, b] := by
  rw [getCells_eq]
  have h0 : tget (tlist [a, b] 0 t) 0 = a := by rw [tget_tlist]; simp
  have h1 : tget (tlist [a, b] 0 t) 1 = b := by rw [tget_tlist]; simp
  show [tget (tlist [a, b] 0 t) (0 + 0), tget (tlist [a, b] 0 t) (0 + 1)] = _
  rw [h0, h1]
theorem b25v (n : Int) (b : Bool) (h : H) : exBuild env (env.ty 25) [(0, (.int .u64 n)), (1, (.bool b))] h = some (.agg [.int .u64 n, .bool b], h) := by kernel_rfl
theorem eq117 (s : List UInt8) : strEq s.length (enc s) 1 117 = decide (s = [117]) := strEq_enc (t := [117])
theorem eq85 (s : List UInt8) : strEq s.length (enc s) 1 85 = decide (s = [85]) := strEq_enc (t := [85])
theorem equ8 (s : List UInt8) : strEq s.length (enc s) 2 14453 = decide (s = [117, 56]) := strEq_enc (t := [117, 56])
theorem c11_2 {p : P} {h : H} {t : Tm} {L : List UInt8} {n : Int} {m : Nat} {k : KV} (ha : h.at p = .row t 2 0 25 true) (hk : ∀ h', k (.tuple [.agg [.int .u64 (wrap .u64 n), .bool (decide (L = [117]) || decide (L = [85]))], .bool true]) h') : (r11 W1 k (m + 1)).a2 (.ptr p 0) L.length (enc L) n h := by
  refine j11_2 ?_
  unfold s11_2
  rw [fI_eq]
  refine or_b ?_
  rw [eq117, eq85, b25v, oK_some]
  refine stn_i ha (Nat.le_refl _) rfl (by decide) (by decide) ?_
  refine ldn_i (at_put_same _ _ _) (by decide) ?_
  rw [gc2]
  exact hk _
theorem shl8 {v : Nat} {K : Int → Prop} : shlI .u32 (Int.ofNat v) (Int.ofNat 8) K = K (Int.ofNat (v * 256 % 4294967296)) := by
  show fI (wrap .u32 (Int.ofNat v * 2 ^ (min 8 (IntKind.bits .u32)))) K = _
  have e : wrap .u32 (Int.ofNat v * 2 ^ (min 8 (IntKind.bits .u32))) = Int.ofNat (v * 256 % 4294967296) := by
    rw [wrap_eq]
    have : (2 : Int) ^ (min 8 (IntKind.bits .u32)) = 256 := by decide
    rw [this]
    show IntKind.wrap .u32 ((v : Int) * 256) = ((v * 256 % 4294967296 : Nat) : Int)
    simp [IntKind.wrap, IntKind.bits, IntKind.signed]
  rw [e, fI_eq]
theorem wrap32 {n : Nat} (h : n < 4294967296) : wrap .u32 (Int.ofNat n) = Int.ofNat n := by
  rw [wrap_eq]
  simp [IntKind.wrap, IntKind.bits, IntKind.signed]
  omega
theorem lor32 {a b : Nat} {K : Int → Prop} (ha : a < 4294967296) (hb : b < 4294967296) : bitI Nat.lor .u32 (Int.ofNat a) (Int.ofNat b) K = K (Int.ofNat (a ||| b)) := by
  show (Bool.rec False (fN (Nat.lor a b) (fun n => K (.ofNat n))) (band (Nat.ble a (intMax .u32)) (Nat.ble b (intMax .u32))) : Prop) = _
  rw [Nat.ble_eq_true_of_le (show a ≤ intMax .u32 by show a ≤ 4294967295; omega), Nat.ble_eq_true_of_le (show b ≤ intMax .u32 by show b ≤ 4294967295; omega)]
  rfl
theorem c11_1 {p : P} {h : H} {t : Tm} {L l : List UInt8} {k : KV} {e : Nat} (ha : h.at p = .row t 2 0 25 true) (hl : l.length ≤ 1000) : ∀ (n i v : Nat), l.length - i + e + 1 ≤ n → i ≤ l.length → (∀ n', e ≤ n' → (r11 W1 k n').a2 (.ptr p 0) L.length (enc L) (wrap .i64 (wrap .i32 (Int.ofNat (allF v (l.drop i))))) h) →
    (r11 W1 k n).a1 (.ptr p 0) l.length (enc l) L.length (enc L) (Int.ofNat v) (Int.ofNat l.length) (Int.ofNat i) h
  | 0, _, _, hn, _, _ => absurd hn (by omega)
  | n + 1, i, v, hn, hi, hk => by
    refine j11_1 ?_
    unfold s11_1
    rw [ilt]
    refine cnd_i (fun e' => ?_) (fun e' => ?_)
    · have e' : i < l.length := of_decide_eq_true e'
      have hd : l.drop i = l[i] :: l.drop (i + 1) := List.drop_eq_getElem_cons e'
      have hx := (l[i]).toNat_lt
      rw [shl8, natI_eq]
      refine idxS_i e' ?_
      rw [wrap32 (by omega), fI_eq, lor32 (Nat.mod_lt _ (by decide)) (by omega), iadd1 (by omega), fI_eq]
      refine c11_1 (e := e) ha hl n (i + 1) _ (by omega) e' ?_
      intro n' hn'
      have := hk n' hn'
      rw [hd] at this
      exact this
    · have hd : l.drop i = [] := by
        have : ¬ i < l.length := of_decide_eq_false e'
        rw [List.drop_eq_nil_iff]; omega
      have := hk n (by omega)
      rw [hd] at this
      rw [fI_eq, fI_eq]
      exact this
theorem c11 (s : List UInt8) (hl : s.length ≤ 549755813888) : Pure PP G h0 11 [S s] (charV (charL s)) := by
  refine w11 (n := 1015) sw_ok (g11 ?_)
  unfold s11_0
  refine newK_i ?_
  have ha : (h0.new ob25).at h0.next = .row (tlist [.int .u64 (Int.ofNat 0), .bool false] 0 .e) 2 0 25 true := at_new_same _ _
  refine use2 (c13 s hl) ?_ rfl (by cases bytL s <;> rfl)
  have bad : ∀ {h : H}, h.at h0.next = .row (tlist [.int .u64 (Int.ofNat 0), .bool false] 0 .e) 2 0 25 true → charL s = none → (oK (exBuild env (env.ty 25) [] h) fun v30 h31 =>
      stn 2 (.ptr h0.next 0) v30 h31 fun h32 =>
      ldn 2 (.ptr h0.next 0) h32 fun v33 =>
      (fun v (_ : H) => v = charV (charL s) : KV) (.tuple [v33, (.bool false)]) h32) := by
    intro h ha e
    rw [b25, oK_some]
    refine stn_i ha (Nat.le_refl _) rfl (by decide) (by decide) ?_
    refine ldn_i (at_put_same _ _ _) (by decide) ?_
    rw [gc2]
    show AV.tuple _ = _
    rw [e]; rfl
  cases hb : bytL s with
  | none =>
    rw [show bytV none = .tuple [S [], .bool false] from rfl, ext_0, asS_s, ext_1, asB_b]
    refine use2 (c29 s) ?_
    rw [ext_0, asS_s, ext_1, asB_b]
    refine or_i (fun e => by cases e) (fun _ => ?_)
    refine or_i (fun e => by cases e) (fun _ => ?_)
    refine or_i (fun e => by cases e) (fun _ => ?_)
    refine or_i (fun e => by cases e) (fun _ => ?_)
    refine cnd_t rfl ?_
    exact bad ha (by unfold charL; rw [hb])
  | some l =>
    have hlet : (lettersL s).2 = true := by
      unfold bytL at hb
      by_cases h : (lettersL s).2 = true
      · exact h
      · rw [if_neg h] at hb; cases hb
    have hq : quoteAt (s.drop (lettersL s).1.length) = true := (lettersF_ok s prefs hlet).2
    have hlt : (lettersL s).1.length < s.length := by
      have hle := lettersL_le s
      rcases Nat.lt_or_ge (lettersL s).1.length s.length with h | h
      · exact h
      · have : s.drop (lettersL s).1.length = [] := by rw [List.drop_eq_nil_iff]; exact h
        rw [this] at hq; cases hq
    have hhead : (s.drop (lettersL s).1.length).head? = some (s[(lettersL s).1.length]) := by rw [List.drop_eq_getElem_cons hlt]; rfl
    have ec : charL s = if (lettersL s).1 = [117, 56] ∨ ¬ some (s[(lettersL s).1.length]) = some 39 ∨ l = [] ∨ 8 < l.length then none else some (wrap .u64 (cvI l), decide ((lettersL s).1 = [117]) || decide ((lettersL s).1 = [85])) := by
      unfold charL; rw [hb, hhead]
    rw [show bytV (some l) = .tuple [S l, .bool true] from rfl, ext_0, asS_s, ext_1, asB_b]
    refine use2 (c29 s) ?_
    rw [ext_0, asS_s, ext_1, asB_b]
    refine or_b ?_
    rw [equ8]
    refine or_i (fun e => ?_) (fun e => ?_)
    · refine idxS_i hlt ?_
      rw [toNat_eq _ 39 (by decide), bnot_eq]
      refine or_b ?_
      rw [strEq_nil]
      refine or_b ?_
      rw [ilt]
      have e1 : ¬ (lettersL s).1 = [117, 56] := by simpa using e
      refine cnd_i (fun e2 => ?_) (fun e2 => ?_)
      · refine bad ha ?_
        rw [ec]
        refine if_pos ?_
        simp only [Bool.or_eq_true, Bool.not_eq_true', decide_eq_true_eq, decide_eq_false_iff_not] at e2
        rcases e2 with (e2 | e2) | e2
        · exact .inr (.inl fun h => e2 (Option.some.inj h))
        · exact .inr (.inr (.inl e2))
        · exact .inr (.inr (.inr e2))
      · simp only [Bool.or_eq_false_iff, Bool.not_eq_false', decide_eq_false_iff_not, decide_eq_true_eq] at e2
        obtain ⟨⟨e2, e3⟩, e4⟩ := e2
        have ec : charL s = some (wrap .u64 (cvI l), decide ((lettersL s).1 = [117]) || decide ((lettersL s).1 = [85])) := by
          rw [ec, if_neg]
          rintro (h | h | h | h)
          · exact e1 h
          · exact h (congrArg some e2)
          · exact e3 h
          · exact e4 h
        have hpos : 0 < l.length := by
          cases l with
          | nil => exact absurd rfl e3
          | cons _ _ => simp
        refine idxS_i hpos ?_
        rw [fI_eq, fI_eq, ilt]
        refine cnd_i (fun e5 => ?_) (fun e5 => ?_)
        · have e5 : 1 < l.length := of_decide_eq_true e5
          refine c11_1 (e := 1) ha (by omega) 1014 0 0 (by omega) (Nat.zero_le _) ?_
          intro n' hn'
          obtain ⟨n', rfl⟩ : ∃ m, n' = m + 1 := ⟨n' - 1, by omega⟩
          refine c11_2 ha fun h' => ?_
          show AV.tuple _ = _
          rw [ec]
          show AV.tuple _ = AV.tuple _
          unfold cvI
          rw [if_pos e5, List.drop_zero]
        · have e5 : ¬ 1 < l.length := of_decide_eq_false e5
          refine c11_2 ha fun h' => ?_
          show AV.tuple _ = _
          rw [ec]
          show AV.tuple _ = AV.tuple _
          unfold cvI
          rw [if_neg e5]
          have : l.headD 0 = l[0] := by
            cases l with
            | nil => exact absurd rfl e3
            | cons _ _ => rfl
          rw [this]
    · refine or_i (fun e => by cases e) (fun _ => ?_)
      refine or_i (fun e => by cases e) (fun _ => ?_)
      refine cnd_t rfl ?_
      refine bad ha ?_
      rw [ec]
      exact if_pos (.inl (by simpa using e))
end Go.Den
