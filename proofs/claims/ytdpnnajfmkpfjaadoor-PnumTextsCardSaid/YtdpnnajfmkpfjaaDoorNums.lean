/-
  A part of the proof: numbers, read.
-/
import Derived.Test.YtdpnnajfmkpfjaaDoorBytc
import Derived.Test.YtdpnnajfmkpfjaaDoorPerr
namespace Go.Den
open Go.RowKit
set_option maxRecDepth 100000
theorem g60 {c : Caller Prop FT} {k : KV} {n : Nat} {l_0 : Nat} {c_0 : Nat} {l_1 : Nat} {c_1 : Nat} {h : H} (hg : s60_0 c k (r60 c k n) l_0 c_0 l_1 c_1 h) : f60 (r60 c k (n + 1)) 0 (finit [.str l_0 c_0, .str l_1 c_1]) h := hg
theorem g75 {c : Caller Prop FT} {k : KV} {n : Nat} {l_0 : Nat} {c_0 : Nat} {h : H} (hg : s75_0 c k (r75 c k n) l_0 c_0 h) : f75 (r75 c k (n + 1)) 0 (finit [.str l_0 c_0]) h := hg
/-! ### A memory in which strconv.ErrRange stands -/
noncomputable def cE : Nat → AV := fun _ => .iface 105 (.ptr (pOf 9) 0)
noncomputable def oE : Ob FT := .ext cE 1
noncomputable def obs1 : List (Ob FT) := [.dead, oE, .dead, .dead, .dead, .dead, .dead, .dead, .dead, .dead]
noncomputable abbrev h1 : H := initH obs1
def HasE (h : H) : Prop := h.at (pOf 1) = oE ∧ 10 ≤ h.next.nat
theorem h1_at : h1.at (pOf 1) = oE := by rw [at_init, nat_pOf]; rfl
theorem h1_next : h1.next.nat = 10 := by show (pOf 10).nat = 10; rw [nat_pOf]
theorem hasE_h1 : HasE h1 := ⟨h1_at, by rw [h1_next]; exact Nat.le_refl _⟩
theorem HasE.keep {h h' : H} (he : HasE h) (hn : h.next.nat ≤ h'.next.nat) (hk : ∀ c, c.nat < h.next.nat → h'.at c = h.at c) : HasE h' :=
  ⟨by rw [hk (pOf 1) (by rw [nat_pOf]; have := he.2; omega)]; exact he.1, Nat.le_trans he.2 hn⟩
theorem HasE.new {h : H} {o : Ob FT} (he : HasE h) : HasE (h.new o) := he.keep (by rw [next_new]; omega) fun _ hc => at_new_o hc
theorem obs1_at (b : P) (hb : h1.at b ≠ .dead) : b = pOf 1 := by
  rw [at_init] at hb
  have : b.nat = 1 := by
    match hn : b.nat with
    | 0 => rw [hn] at hb; exact absurd rfl hb
    | 1 => rfl
    | n + 2 =>
      rw [hn] at hb
      exfalso
      apply hb
      match n with
      | 0 | 1 | 2 | 3 | 4 | 5 | 6 | 7 => rfl
      | _ + 8 => rfl
  rw [← this, pOf_nat]
theorem pure_use1 {F : FuncId} {args : List AV} {r : AV} (hp : Pure PP G h1 F args r) (ha : plains args = true) (hr : plain r = true) {h : H} (he : HasE h) {k : KV} (hk : k r h) : W1 (.func F) args h k := fun μ w fn' vargs s gl hf hv => by
  have hdead : h.at (pOf 1) ≠ .dead := by rw [he.1]; unfold oE; simp
  obtain ⟨l, hl, hob⟩ := s.ob (pOf 1) hdead
  rw [he.1] at hob
  let μ0 : Mu := fun b => if b.nat < 10 then μ b else none
  have hin : ∀ b, b.nat < 10 → μ0 b = μ b := fun b hb => if_pos hb
  have s0 : Sim μ0 h1 w := by
    refine ⟨fun b c hc => ?_, fun b hb => ?_, fun b hb => ?_, fun b b' c c' ho => ?_⟩
    · have hc : (if b.nat < 10 then μ b else none) = some c := hc
      by_cases hb : b.nat < 10
      · rw [h1_next]; exact hb
      · rw [if_neg hb] at hc; cases hc
    · rw [h1_next] at hb
      by_cases e : h1.at b = .dead
      · exact e
      · have := obs1_at b e
        subst this
        rw [nat_pOf] at hb; omega
    · have := obs1_at b hb
      subst this
      refine ⟨l, by rw [hin _ (by rw [nat_pOf]; decide)]; exact hl, ?_⟩
      rw [h1_at]
      obtain ⟨cs, e, fz, h1', h2, h3, h4⟩ := hob
      refine ⟨cs, e, fz, h1', h2, h3, fun i hi => ?_⟩
      obtain ⟨v, hv, hvr, ho⟩ := h4 i hi
      refine ⟨v, hv, ?_, ho⟩
      obtain ⟨y, rfl, q, hq, rfl⟩ := hvr
      exact ⟨_, rfl, q, by rw [hin _ (by rw [nat_pOf]; decide)]; exact hq, rfl⟩
    · by_cases e : h1.at b = .dead
      · rw [e] at ho; cases ho
      · have := obs1_at b e
        subst this
        rw [h1_at] at ho; cases ho
  have g0 : Globs μ0 G := fun g hg => by
    obtain ⟨c, h2, h3⟩ := gl g hg
    have hg : g < 9 := hg
    exact ⟨c, by rw [hin _ (by rw [nat_pOf]; omega)]; exact h2, h3⟩
  have own0 : ∀ b, (h1.at b).own = false := fun b => by
    by_cases e : h1.at b = .dead
    · rw [e]; rfl
    · rw [obs1_at b e, h1_at]; rfl
  obtain ⟨f, e, hh⟩ := hp μ0 w fn' vargs s0 g0 (show FnR μ0 (.func F) fn' by cases fn' <;> exact hf) (VRs.plain _ _ ha hv)
  refine ⟨f, e, ?_⟩
  rcases hh with ⟨v, w', μ', av, h', h1, h2, h3, h4, h5⟩ | ⟨h1, h2⟩
  · subst h5
    have b := below_of_ext h3 own0
    exact .inl ⟨v, w', μ, av, h, h1, s.below b, .below b, VR.plain _ _ hr h4, hk⟩
  · refine .inr ⟨h1, h2.mono fun e w' he => ?_⟩
    obtain ⟨v, μ', av, h', h3, h4, h5, h6, h7⟩ := he
    subst h7
    have b := below_of_ext h5 own0
    exact ⟨v, μ, av, h, h3, s.below b, .below b, VR.plain _ _ hr h6, hk⟩
/-! ### strconv's errors -/
theorem ld1e {h : H} {b : P} {c : Nat → AV} {n o : Nat} {K : AV → Prop} (ha : h.at b = .ext c n) (ho : o < n) (hk : K (c o)) : ld1 (.ptr b o) h K := by
  show h.read1K b o bad0 K
  unfold Hp.read1K
  rw [ha]
  show rd1Ext o bad0 K c n
  unfold rd1Ext
  rw [show Nat.ble (Nat.add o 1) n = true from Nat.ble_eq_true_of_le ho]
  show forceV (c o) K
  rw [forceV_eq]; exact hk
theorem mk37 (n : Nat) (h : H) : withElem env 37 (fun e ei => exMakeSlice (natOf (.int .i64 (Int.ofNat n))) (natOf (.int .i64 (Int.ofNat n))) h e ei) = (Bool.rec none (some (.slice h.next 0 n 1 (Nat.beq n n), h.new (.row (tlist (repl [.int .u8 (.ofNat 0)] n) 0 .e) (Nat.mul n 1) 0 TB true)))
    (band (Nat.ble n n) (band (band true true) (band (Nat.ble n 1099511627776) (Nat.ble (Nat.mul n 1) 140737488355328)))) : Option (AV × H)) := by kernel_rfl
theorem cp9 (x y : AV) (h : H) : builtinA env .copy [37, 9] [x, y] h = exCopy x y h TB ei8 := by kernel_rfl
theorem elem0 {b : P} {n : Nat} {t : Bool} {K : AV → Prop} (h : 1 ≤ n) : elemA 1 0 (.slice b 0 n 1 t) K = K (.ptr b 0) := by
  show (Bool.rec bad0 (fN (Nat.add 0 (Nat.mul 0 1)) fun q => K (.ptr b q)) (band (Nat.ble (Nat.add 0 1) n) (Nat.beq 1 1)) : Prop) = _
  rw [Nat.ble_eq_true_of_le (show Nat.add 0 1 ≤ n by show 0 + 1 ≤ n; omega)]
  rfl
theorem asG_a {l : List AV} {K : List AV → Prop} : asG (.agg l) K = K l := rfl
theorem chk_t {K : Prop} : chk true K = K := rfl
theorem c75 (s : List UInt8) (hl : s.length ≤ 1099511627776) : Pure PP G h0 75 [S s] (S s) := by
  refine w75 (n := 1) sw_ok (g75 ?_)
  unfold s75_0
  rw [ieqN]
  refine cnd_i (fun e => ?_) (fun e => ?_)
  · have e : s.length = 0 := of_decide_eq_true e
    have : s = [] := List.eq_nil_of_length_eq_zero e
    subst this; rfl
  · have e : ¬ s.length = 0 := of_decide_eq_false e
    rw [mk37, Nat.ble_eq_true_of_le (Nat.le_refl _), Nat.ble_eq_true_of_le hl, Nat.ble_eq_true_of_le (show Nat.mul s.length 1 ≤ 140737488355328 by show s.length * 1 ≤ _; omega)]
    show oK (some (.slice h0.next 0 s.length 1 (Nat.beq s.length s.length), h0.new (.row (tlist (repl [.int .u8 (.ofNat 0)] s.length) 0 .e) (Nat.mul s.length 1) 0 TB true))) _
    rw [oK_some, cp9]
    have ha : (h0.new (.row (tlist (repl [.int .u8 (.ofNat 0)] s.length) 0 .e) (Nat.mul s.length 1) 0 TB true)).at h0.next = .row (tlist (repl [.int .u8 (.ofNat 0)] s.length) 0 .e) (Nat.mul s.length 1) 0 TB true := at_new_same _ _
    generalize h0.new (.row (tlist (repl [.int .u8 (.ofNat 0)] s.length) 0 .e) (Nat.mul s.length 1) 0 TB true) = h at ha ⊢
    generalize tlist (repl [.int .u8 (.ofNat 0)] s.length) 0 .e = t at ha
    have ec : exCopy (.slice h0.next 0 s.length 1 (Nat.beq s.length s.length)) (S s) h TB ei8 = some (.int .i64 (.ofNat s.length), h.put h0.next (.row (tlist (ubs s) 0 t) (Nat.mul s.length 1) 0 TB true)) := by
      show (Option.rec none (fun p => Bool.rec none (Bool.rec (intH s.length (h.write h0.next 0 (takeL (Nat.mul s.length 1) p.2))) (intH p.1 (h.write h0.next 0 p.2)) (Nat.ble p.1 s.length)) (Nat.beq 1 1)) (cellsOfArg h 1 (S s)) : Option (AV × H)) = _
      rw [cells_str]
      show (Bool.rec (intH s.length (h.write h0.next 0 (takeL (Nat.mul s.length 1) (ubs s)))) (intH s.length (h.write h0.next 0 (ubs s))) (Nat.ble s.length s.length) : Option (AV × H)) = _
      rw [Nat.ble_eq_true_of_le (Nat.le_refl _)]
      show intH s.length (h.write h0.next 0 (ubs s)) = _
      have hw : h.write h0.next 0 (ubs s) = some (h.put h0.next (.row (tlist (ubs s) 0 t) (Nat.mul s.length 1) 0 TB true)) := by
        unfold Hp.write Hp.writeK
        rw [ha]
        show wrRow h h0.next 0 (ubs s) none some t (Nat.mul s.length 1) 0 TB true = _
        unfold wrRow
        rw [len_eq, show (ubs s).length = s.length by simp [ubs], show Nat.ble (Nat.add 0 s.length) (Nat.mul s.length 1) = true from Nat.ble_eq_true_of_le (by show 0 + s.length ≤ s.length * 1; omega)]
        show forceT (tlist (ubs s) 0 t) (fun t => h.putK h0.next (.row t (Nat.mul s.length 1) 0 TB true) some) = _
        rw [forceT_eq, putK_eq]
      rw [hw]; rfl
    rw [ec, oK_some, asI_k]
    rw [elem0 (by omega), lenV_sl, us76]
    have e2 : biString env (.ptr h0.next 0) (natOf (.int .i64 (Int.ofNat s.length))) (h.put h0.next (.row (tlist (ubs s) 0 t) (Nat.mul s.length 1) 0 TB true)) = (Bool.rec (usRow env h0.next 0 s.length (h.put h0.next (.row (tlist (ubs s) 0 t) (Nat.mul s.length 1) 0 TB true)) (asRow ((h.put h0.next (.row (tlist (ubs s) 0 t) (Nat.mul s.length 1) 0 TB true)).at h0.next))) (some (.str 0 0, h.put h0.next (.row (tlist (ubs s) 0 t) (Nat.mul s.length 1) 0 TB true))) (Nat.beq s.length 0) : Option (AV × H)) := rfl
    have e3 : Nat.beq s.length 0 = false := by rw [natbeq]; exact decide_eq_false e
    rw [e2, e3, at_put_same]
    show oK (Bool.rec none (strAns _ (cellBytes (getCells (tlist (ubs s) 0 t) s.length 0))) (band (isByte env TB) (band (Nat.ble (Nat.add 0 s.length) (Nat.mul s.length 1)) (Nat.ble s.length (intMax .i64)))) : Option (AV × H)) _
    rw [isB, Nat.ble_eq_true_of_le (show Nat.add 0 s.length ≤ Nat.mul s.length 1 by show 0 + s.length ≤ s.length * 1; omega), Nat.ble_eq_true_of_le (show s.length ≤ intMax .i64 by show s.length ≤ 9223372036854775807; omega), (CellsAre.new s t).get]
    show oK (strAns _ (cellBytes (ubs s))) _
    rw [strAns_ub, oK_some, asS_s]
theorem b98 (l c l' c' : Nat) (h : H) : exBuild env (env.ty 98) [(0, (.str l c)), (1, (.str l' c')), (2, cE 0)] h = some (.agg [.str l c, .str l' c', cE 0], h) := by kernel_rfl
theorem c60 {fn s : List UInt8} {h : H} {k : KV} (he : HasE h) (hl : s.length ≤ 1099511627776) (hk : ∀ h' p, h.next.nat ≤ h'.next.nat → (∀ c, c.nat < h.next.nat → h'.at c = h.at c) → k (.ptr p 0) h') : W1 (.func 60) [S fn, S s] h k := by
  refine w60 (n := 1) sw_ok (g60 ?_)
  unfold s60_0
  show ld1 (.ptr (pOf 1) 0) h _
  refine ld1e he.1 (by decide) ?_
  refine use2 (c75 s hl) ?_
  rw [asS_s]
  show ld1 (.ptr (pOf 1) 0) h _
  refine ld1e he.1 (by decide) ?_
  rw [show ∀ A : Prop, eqC (cE 0) (cE 0) A = A from fun A => by kernel_rfl, b98, oK_some]
  rw [asG_a, show Nat.ble 1 (len [S fn, S s, cE 0]) = true from rfl, chk_t]
  refine newK_i ?_
  exact hk _ _ (by rw [next_new]; omega) fun c hc => at_new_o hc
theorem enter_of {F : FuncId} {fn : Func} {c : Code} (hf : PP.funcs[F]? = some fn) (hb : fn.body = some c) (hname : (fn.name == "runtime.NumGoroutine") = false) (vargs : Array Value) (w : World) : (callFunc F vargs).run PP w = .ok (.enter F vargs) w := by
  unfold callFunc
  rw [run_bind_ok (show program.run PP w = .ok PP w from rfl), hf]
  simp only [hname, hb, Bool.false_eq_true, if_false]
  rfl
theorem c44 {fn s : List UInt8} {base bits : Int} {h : H} {k : KV} (hg : W1 (.func 60) [S fn, S s] h fun v h' => ∃ p, v = .ptr p 0 ∧ k (.iface 85 (.ptr p 0)) h') : W1 (.func 44) [S fn, S s, .int .i64 base, .int .i64 bits, .iface 83 (.int .i64 1)] h k := by
  intro μ w fn' vargs sim gl hfn hv
  have hfn' : fn' = .func 44 := by cases fn' <;> simp only [FnR] at hfn <;> first | (cases hfn; rfl) | cases hfn
  obtain ⟨v0, vs0, e0, ⟨f0, rfl, hf0⟩, v1, vs1, rfl, ⟨f1, rfl, hf1⟩, v2, vs2, rfl, hv2, v3, vs3, rfl, hv3, v4, vs4, rfl, ⟨y, rfl, hy⟩, h5⟩ := hv
  have hv2 : v2 = .int .i64 base := hv2
  have hv3 : v3 = .int .i64 bits := hv3
  have hy : y = .int .i64 1 := hy
  have h5 : vs4 = [] := h5
  subst hv2 hv3 hy h5
  have hva : vargs = #[.string f0, .string f1, .int .i64 base, .int .i64 bits, .iface 83 (.int .i64 1)] := by apply Array.ext'; simpa using e0
  subst hva
  refine ⟨44, hfn', .inr ⟨enter_of Proofs.Tryd.func44 rfl (by kernel_rfl) _ _, ?_⟩⟩
  obtain ⟨f, hf, hh⟩ := hg μ w (.func 60) #[.string f0, .string f1] sim gl rfl ⟨_, _, rfl, ⟨f0, rfl, hf0⟩, _, _, rfl, ⟨f1, rfl, hf1⟩, rfl⟩
  cases hf
  have he := enter_of Proofs.Tryd.func60 rfl (by kernel_rfl) #[.string f0, .string f1] w
  rcases hh with ⟨v, w', μ', av, h', h1, _⟩ | ⟨_, h2⟩
  · rw [he] at h1; cases h1
  · refine (Proofs.Tryd.toErr (Q := fun a w' => ∃ μ' p h', Sim μ' h' w' ∧ Ext' μ h w μ' h' w' ∧ VR μ' (.ptr p 0) (.pointer (some a)) ∧ k (.iface 85 (.ptr p 0)) h') f0 f1 base bits w (h2.mono ?_)).mono ?_
    · rintro e w' ⟨v, μ', av, h', rfl, h3, h4, h5, p, rfl, h6⟩
      have h5' := h5
      obtain ⟨l, hl, rfl⟩ := h5
      exact ⟨_, rfl, μ', p, h', h3, h4, h5', h6⟩
    · rintro e w' ⟨a, rfl, μ', p, h', h3, h4, h5, h6⟩
      exact ⟨_, μ', .iface 85 (.ptr p 0), h', rfl, h3, h4, ⟨_, rfl, h5⟩, h6⟩
end Go.Den
namespace Go.Den
open Go.RowKit
set_option maxRecDepth 100000
/-! ### strconv.ParseUint, of digits -/
def digN (c : UInt8) : Nat := if c.toNat ≤ 57 then c.toNat - 48 else if c.toNat ≤ 70 then c.toNat - 55 else c.toNat - 87
def valN (B v : Nat) (l : List UInt8) : Nat := l.foldl (fun v c => v * B + digN c) v
theorem valN_ge {B : Nat} (hB : 1 ≤ B) : ∀ (l : List UInt8) (v : Nat), v ≤ valN B v l
  | [], _ => Nat.le_refl _
  | c :: l, v => Nat.le_trans (Nat.le_trans (Nat.le_mul_of_pos_right v hB) (Nat.le_add_right _ _)) (valN_ge hB l (v * B + digN c))
theorem asI_u {x : UInt8} {K : Int → Prop} : asI .u8 (ub x) K = K (Int.ofNat x.toNat) := rfl
theorem wrap64u (n : Nat) : wrap .u64 (Int.ofNat n) = Int.ofNat (n % 18446744073709551616) := by
  rw [wrap_eq]
  simp [IntKind.wrap, IntKind.bits, IntKind.signed]
theorem wrap64l {n : Nat} (h : n < 18446744073709551616) : wrap .u64 (Int.ofNat n) = Int.ofNat n := by rw [wrap64u, Nat.mod_eq_of_lt h]
theorem c57 (x : UInt8) : Pure PP G h0 57 [.int .u8 (Int.ofNat x.toNat)] (.int .u8 (Int.ofNat (x.toNat ||| 32))) := by
  refine w57 (n := 1) sw_ok (g57 ?_)
  unfold s57_0
  show (Bool.rec False (fN (Nat.lor x.toNat 32) (fun n => _)) (band (Nat.ble x.toNat (intMax .u8)) (Nat.ble 32 (intMax .u8))) : Prop)
  rw [Nat.ble_eq_true_of_le (show x.toNat ≤ intMax .u8 by have := x.toNat_lt; show x.toNat ≤ 255; omega)]
  show fN (Nat.lor x.toNat 32) _
  rw [fN_eq]; rfl
/-- a hex digit that is no decimal one -/
theorem hex_let : ∀ x ∈ hexL, 57 < x.toNat → 97 ≤ (x.toNat ||| 32) ∧ (x.toNat ||| 32) ≤ 122 ∧ digN x = (x.toNat ||| 32) - 87 ∧ 48 ≤ x.toNat := by decide
theorem hex_48 : ∀ x ∈ hexL, 48 ≤ x.toNat ∧ x.toNat ≠ 95 ∧ digN x < 16 := by decide
theorem dec_10 : ∀ x ∈ decL, digN x < 10 := by decide
theorem oct_8 : ∀ x ∈ octL, digN x < 8 := by decide
noncomputable def puV (v : Nat) : AV := if v < 18446744073709551616 then .tuple [.int .u64 (Int.ofNat v), .nili] else .tuple [.int .u64 (Int.ofNat 18446744073709551615), .iface 83 (.int .i64 (Int.ofNat 1))]
noncomputable abbrev M64 : Nat := 18446744073709551615
def Frame (h h' : H) : Prop := h.next.nat ≤ h'.next.nat ∧ ∀ c, c.nat < h.next.nat → h'.at c = h.at c
theorem wrap8u (n : Nat) : wrap .u8 (Int.ofNat n) = Int.ofNat (n % 256) := by
  rw [wrap_eq]
  simp [IntKind.wrap, IntKind.bits, IntKind.signed]
theorem isubN {a b : Nat} (h : b ≤ a) : isub (Int.ofNat a) (Int.ofNat b) = Int.ofNat (a - b) := by
  rw [isub_eq]; show (a : Int) - (b : Int) = ((a - b : Nat) : Int); omega
theorem iaddN (a b : Nat) : iadd (Int.ofNat a) (Int.ofNat b) = Int.ofNat (a + b) := by rw [iadd_eq]; rfl
/-- a row's byte -/
theorem row_get {h : H} {q : P} {t : Tm} {m z n : Nat} {e : TypeId} {w ti : Bool} {l : List UInt8} (ha : h.at q = .row t m z e w) (hm : l.length ≤ m) (hc : CellsAre t l) {i : Nat} (hi : i < l.length) (hn : n = l.length) {K : AV → Prop} (hk : K (ub l[i])) : elemA 1 i (.slice q 0 n 1 ti) fun v' => ld1 v' h K := by
  subst hn
  show (Bool.rec bad0 (fN (Nat.add 0 (Nat.mul i 1)) (fun q' => ld1 (.ptr q q') h K)) (band (Nat.ble (Nat.add i 1) l.length) (Nat.beq 1 1)) : Prop)
  rw [Nat.ble_eq_true_of_le (show Nat.add i 1 ≤ l.length from hi)]
  have e1 : Nat.add 0 (Nat.mul i 1) = i := by show 0 + i * 1 = i; omega
  rw [e1]
  show ld1 (.ptr q i) h K
  refine ld1_i ha (by omega) ?_
  rw [hc i hi]; exact hk
section
variable {B : Nat} {s s0 : List UInt8} {set : List UInt8} {q : P} {t : Tm} {h : H} {k : KV}
theorem c43_1 (hB : 2 ≤ B ∧ B ≤ 16) (hset : ∀ x ∈ s, x ∈ hexL ∧ digN x < B) (hl : s.length ≤ 1099511627776) (ha : h.at q = .row t s.length 0 TB false) (hc : CellsAre t s) : ∀ (n i v : Nat), 2 * (s.length - i) + 1 ≤ n → i ≤ s.length → v ≤ M64 → k (puV (valN B v (s.drop i))) h →
    (r43 W1 k n).a1 (Int.ofNat B) false s0.length (enc s0) (Int.ofNat (M64 / B + 1)) (Int.ofNat M64) false (Int.ofNat v) (.slice q 0 s.length 1 false) (Int.ofNat s.length) (Int.ofNat i) h
  | 0, _, _, hn, _, _, _ => absurd hn (by omega)
  | n + 1, i, v, hn, hi, hv, hk => by
    refine j43_1 ?_
    unfold s43_1
    rw [ilt]
    by_cases e : i < s.length
    · refine cnd_t (decide_eq_true e) ?_
      have hd : s.drop i = s[i] :: s.drop (i + 1) := List.drop_eq_getElem_cons e
      obtain ⟨hx, hdg⟩ := hset _ (List.getElem_mem e)
      obtain ⟨h48, h95, h16⟩ := hex_48 _ hx
      have h256 := (s[i]).toNat_lt
      have step : ∀ (h2 : h = h), (r43 W1 k n).a2 (Int.ofNat B) false s0.length (enc s0) (Int.ofNat (M64 / B + 1)) (Int.ofNat M64) false (Int.ofNat v) (Int.ofNat (digN s[i])) (.slice q 0 s.length 1 false) (Int.ofNat s.length) (Int.ofNat i) h := by
        intro _
        obtain ⟨n, rfl⟩ : ∃ n', n = n' + 1 := ⟨n - 1, by omega⟩
        refine j43_2 ?_
        unfold s43_2
        rw [wrap8 (show B < 256 by omega), fI_eq, ile]
        refine cnd_f (decide_eq_false (by omega)) ?_
        rw [ile]
        have hq := Nat.div_add_mod M64 B
        have hqm := Nat.mod_lt M64 (show 0 < B by omega)
        refine cnd_i (fun e1 => ?_) (fun e1 => ?_)
        · have e1 : M64 / B + 1 ≤ v := of_decide_eq_true e1
          have h1 : M64 < v * B := by
            have : (M64 / B + 1) * B ≤ v * B := Nat.mul_le_mul_right B e1
            rw [Nat.add_mul, Nat.one_mul] at this
            rw [Nat.mul_comm] at hq
            omega
          rw [hd] at hk
          have h2 : v * B + digN s[i] ≤ valN B v (s[i] :: s.drop (i + 1)) := valN_ge (by omega) _ _
          unfold puV at hk
          rw [if_neg (by show ¬ _ < M64 + 1; omega)] at hk
          exact hk
        · have e1 : ¬ M64 / B + 1 ≤ v := of_decide_eq_false e1
          have h1 : v * B ≤ M64 := by
            have : v * B ≤ M64 / B * B := Nat.mul_le_mul_right B (by omega)
            rw [Nat.mul_comm] at hq
            omega
          have hB64 : B < 18446744073709551616 := by omega
          rw [wrap64l hB64, fI_eq, show Int.ofNat v * Int.ofNat B = Int.ofNat (v * B) from rfl, wrap64l (show v * B < M64 + 1 by omega), fI_eq, wrap64l (show digN s[i] < M64 + 1 by show _ < 18446744073709551616; omega), fI_eq, iaddN, wrap64u, fI_eq, ilt]
          refine or_b ?_
          rw [ilt]
          refine cnd_i (fun e2 => ?_) (fun e2 => ?_)
          · have h3 : M64 < v * B + digN s[i] := by
              simp only [Bool.or_eq_true, decide_eq_true_eq] at e2
              rcases e2 with e2 | e2
              · rcases Nat.lt_or_ge M64 (v * B + digN s[i]) with h | h
                · exact h
                · rw [Nat.mod_eq_of_lt (show _ < M64 + 1 by omega)] at e2; omega
              · have := Nat.mod_lt (v * B + digN s[i]) (show 0 < 18446744073709551616 by decide)
                have e2 : M64 < (v * B + digN s[i]) % 18446744073709551616 := e2
                have : (v * B + digN s[i]) % 18446744073709551616 < M64 + 1 := this
                omega
            rw [hd] at hk
            have h2 : v * B + digN s[i] ≤ valN B v (s[i] :: s.drop (i + 1)) := valN_ge (by omega) _ _
            unfold puV at hk
            rw [if_neg (by show ¬ _ < M64 + 1; omega)] at hk
            exact hk
          · have h3 : v * B + digN s[i] ≤ M64 := by
              simp only [Bool.or_eq_false_iff, decide_eq_false_iff_not] at e2
              rcases Nat.lt_or_ge M64 (v * B + digN s[i]) with h | h
              · exfalso
                have e3 : (v * B + digN s[i]) % 18446744073709551616 = v * B + digN s[i] - 18446744073709551616 := by
                  rw [Nat.mod_eq_sub_mod (show 18446744073709551616 ≤ v * B + digN s[i] from h), Nat.mod_eq_of_lt (by have : v * B ≤ 18446744073709551615 := h1; omega)]
                rw [e3] at e2
                have : v * B ≤ 18446744073709551615 := h1
                omega
              · exact h
            rw [iadd1 (by omega), fI_eq, Nat.mod_eq_of_lt (show _ < M64 + 1 by omega)]
            refine c43_1 hB hset hl ha hc n (i + 1) _ (by omega) e h3 ?_
            rw [hd] at hk
            exact hk
      rw [natI_eq]
      refine row_get ha (Nat.le_refl _) hc e rfl ?_
      rw [asI_u]
      refine and_b ?_
      refine cnd_f (by rw [Bool.and_false]) ?_
      refine and_b ?_
      rw [ile, ile]
      by_cases e1 : (s[i]).toNat ≤ 57
      · refine cnd_t (by rw [decide_eq_true h48, decide_eq_true e1]; rfl) ?_
        rw [isubN h48, wrap8 (by omega), fI_eq]
        have : (s[i]).toNat - 48 = digN s[i] := by unfold digN; rw [if_pos e1]
        rw [this]
        exact step rfl
      · refine cnd_f (by rw [decide_eq_false e1, Bool.and_false]) ?_
        obtain ⟨g1, g2, g3, _⟩ := hex_let _ hx (by omega)
        refine use2 (c57 s[i]) ?_
        rw [asI_k, ile]
        refine and_q (b := true) (fun k' hk' => ?_) ?_
        · refine use2 (c57 s[i]) ?_
          rw [asI_k, ile, decide_eq_true g2]; exact hk'
        refine cnd_t (by rw [decide_eq_true g1]; rfl) ?_
        refine use2 (c57 s[i]) ?_
        rw [asI_k, isubN g1, wrap8 (by omega), fI_eq, iaddN, wrap8 (by omega), fI_eq]
        rw [show ((s[i]).toNat ||| 32) - 97 + 10 = digN s[i] by rw [g3]; omega]
        exact step rfl
    · refine cnd_f (decide_eq_false e) ?_
      have hd : s.drop i = [] := by rw [List.drop_eq_nil_iff]; omega
      rw [hd] at hk
      have hk : k (puV v) h := hk
      unfold puV at hk
      rw [if_pos (show v < M64 + 1 by omega)] at hk
      refine and_i (fun e => by cases e) (fun _ => ?_)
      exact cnd_f rfl hk
end
theorem cv9 (l c : Nat) (h : H) : convA env h 9 37 (.str l c) = some (.slice h.next 0 l 1 false, h.new (.row (tlist (byteCells l c) 0 .e) l 0 TB false)) := by kernel_rfl
theorem bytes_enc : ∀ l : List UInt8, byteCells l.length (enc l) = ubs l
  | [] => rfl
  | x :: l => by
    obtain ⟨h1, h2⟩ := enc_split x l
    show (.int .u8 (.ofNat (Nat.mod (enc (x :: l)) 256)) :: byteCells l.length (Nat.div (enc (x :: l)) 256) : List AV) = _
    rw [h1, h2, bytes_enc l]; rfl
theorem shl64 {K : Int → Prop} : shlI .u64 (Int.ofNat 1) (Int.ofNat 64) K = K (Int.ofNat 0) := by
  have e : wrap .u64 (Int.ofNat 1 * 2 ^ (min 64 (IntKind.bits .u64))) = Int.ofNat 0 := by kernel_rfl
  show fI (wrap .u64 (Int.ofNat 1 * 2 ^ (min 64 (IntKind.bits .u64)))) K = _
  rw [e, fI_eq]
theorem quo88 {K : Int → Prop} : quoI .u64 (Int.ofNat 18446744073709551615) (Int.ofNat 8) K = K (Int.ofNat (M64 / 8)) := by
  have e : wrap .u64 ((Int.ofNat 18446744073709551615).tdiv (Int.ofNat 8)) = Int.ofNat (M64 / 8) := by kernel_rfl
  show fI (wrap .u64 ((Int.ofNat 18446744073709551615).tdiv (Int.ofNat 8))) K = _
  rw [e, fI_eq]
theorem c43 {B : Nat} {s : List UInt8} {h : H} {k : KV} (hB : B = 8 ∨ B = 10 ∨ B = 16) (hne : s ≠ []) (hset : ∀ x ∈ s, x ∈ hexL ∧ digN x < B) (hl : s.length ≤ 1099511627776) (hk : ∀ h', Frame h h' → k (puV (valN B 0 s)) h') : W1 (.func 43) [S s, .int .i64 (Int.ofNat B), .int .i64 (Int.ofNat 64)] h k := by
  refine w43 (n := 2 * s.length + 20) sw_ok (g43 ?_)
  unfold s43_0
  have e0 : strEq s.length (enc s) 0 0 = false := by rw [strEq_nil]; exact decide_eq_false hne
  refine cnd_f e0 ?_
  refine and_b ?_
  have hB2 : 2 ≤ B ∧ B ≤ 16 := by omega
  refine cnd_t (by rw [ile, ile, decide_eq_true (show 2 ≤ B by omega), decide_eq_true (show B ≤ 36 by omega)]; rfl) ?_
  rw [ieqN, decide_eq_false (show ¬ B = 0 by omega)]
  refine j43_5 ?_
  unfold s43_5
  refine cnd_f rfl ?_
  refine or_b ?_
  refine cnd_f rfl ?_
  refine j43_4 ?_
  unfold s43_4
  have main : ∀ n, 2 * s.length + 2 ≤ n → (r43 W1 k n).a3 s.length (enc s) (Int.ofNat B) (Int.ofNat 64) false s.length (enc s) (Int.ofNat (M64 / B + 1)) h := by
    intro n hn
    obtain ⟨n, rfl⟩ : ∃ n', n = n' + 1 := ⟨n - 1, by omega⟩
    refine j43_3 ?_
    unfold s43_3
    rw [show wrap .u64 (Int.ofNat 64) = Int.ofNat 64 by kernel_rfl, fI_eq]
    rw [shl64, show wrap .u64 (isub (Int.ofNat 0) (Int.ofNat 1)) = Int.ofNat M64 by kernel_rfl, fI_eq, cv9, oK_some, lenV_sl, bytes_enc]
    refine c43_1 hB2 hset hl (at_new_same _ _) (CellsAre.new s .e) n 0 0 (by omega) (Nat.zero_le _) (Nat.zero_le _) ?_
    rw [List.drop_zero]
    exact hk _ ⟨by rw [next_new]; omega, fun c hc => at_new_o hc⟩
  rcases hB with rfl | rfl | rfl
  · refine cnd_f rfl ?_
    refine cnd_f rfl ?_
    rw [show wrap .u64 (Int.ofNat 8) = Int.ofNat 8 by kernel_rfl, fI_eq]
    rw [quo88, show wrap .u64 (iadd (Int.ofNat (M64 / 8)) (Int.ofNat 1)) = Int.ofNat (M64 / 8 + 1) by kernel_rfl, fI_eq]
    exact main _ (by omega)
  · refine cnd_t rfl ?_
    exact main _ (by omega)
  · refine cnd_f rfl ?_
    refine cnd_t rfl ?_
    exact main _ (by omega)
theorem neq50i (t : TypeId) (v : AV) : binA env .neq 50 (.iface t v) .nili = some (.bool true) := by kernel_rfl
theorem neq50n : binA env .neq 50 .nili .nili = some (.bool false) := by kernel_rfl
/-- the public one -/
theorem c25 {B : Nat} {s : List UInt8} {h : H} {k : KV} (he : HasE h) (hB : B = 8 ∨ B = 10 ∨ B = 16) (hne : s ≠ []) (hset : ∀ x ∈ s, x ∈ hexL ∧ digN x < B) (hl : s.length ≤ 1099511627776)
    (hk1 : valN B 0 s < 18446744073709551616 → ∀ h', Frame h h' → k (.tuple [.int .u64 (Int.ofNat (valN B 0 s)), .nili]) h') (hk2 : ¬ valN B 0 s < 18446744073709551616 → ∀ h' p, Frame h h' → k (.tuple [.int .u64 (Int.ofNat 18446744073709551615), .iface 85 (.ptr p 0)]) h') : W1 (.func 25) [S s, .int .i64 (Int.ofNat B), .int .i64 (Int.ofNat 64)] h k := by
  refine w25 (n := 1) sw_ok (g25 ?_)
  unfold s25_0
  refine c43 hB hne hset hl fun h' hf => ?_
  unfold puV
  by_cases e : valN B 0 s < 18446744073709551616
  · rw [if_pos e, ext_0, asI_k, ext_1, neq50n, oV_some, asB_b]
    refine cnd_f rfl ?_
    exact hk1 e h' hf
  · rw [if_neg e, ext_0, asI_k, ext_1, neq50i, oV_some, asB_b]
    refine cnd_t rfl ?_
    refine c44 (fn := [80, 97, 114, 115, 101, 85, 105, 110, 116]) ?_
    refine c60 (he.keep hf.1 hf.2) hl fun h2 p hn2 hf2 => ⟨p, rfl, ?_⟩
    exact hk2 e h2 p ⟨Nat.le_trans hf.1 hn2, fun c hc => by rw [hf2 c (Nat.lt_of_lt_of_le hc hf.1), hf.2 c hc]⟩
end Go.Den
namespace Go.Den
open Go.RowKit
set_option maxRecDepth 100000
/-! ### pnum.Number -/
def sufE (r : List UInt8) : Bool := decide (r = []) || decide (r = [108]) || decide (r = [76]) || decide (r = [108, 108]) || decide (r = [76, 76])
def isUu (c : UInt8) : Bool := decide (c = 117) || decide (c = 85)
def lastUu (s : List UInt8) : Bool := match s.getLast? with
  | some c => isUu c
  | none => false
def sufP (s : List UInt8) : Bool × Bool := match s with
  | [] => (false, true)
  | c :: t => if isUu c then (true, sufE t) else if lastUu (c :: t) then (true, sufE (c :: t).dropLast) else (false, sufE (c :: t))
theorem eqll (s : List UInt8) : strEq s.length (enc s) 2 27756 = decide (s = [108, 108]) := strEq_enc (t := [108, 108])
theorem eqLL (s : List UInt8) : strEq s.length (enc s) 2 19532 = decide (s = [76, 76]) := strEq_enc (t := [76, 76])
theorem c21_1 {r : List UInt8} {u : Bool} {h : H} {k : KV} {n : Nat} (hk : k (.tuple [.bool u, .bool (sufE r)]) h) : (r21 W1 k (n + 1)).a1 r.length (enc r) u h := by
  refine j21_1 ?_
  unfold s21_1
  refine or_b ?_
  refine or_b ?_
  refine or_b ?_
  refine or_b ?_
  rw [strEq_nil, eq108, eq76, eqll, eqLL]
  exact hk
theorem c21 (s : List UInt8) (hl : s.length ≤ 1099511627776) : Pure PP G h0 21 [S s] (.tuple [.bool (sufP s).1, .bool (sufP s).2]) := by
  refine w21 (n := 2) sw_ok (g21 ?_)
  unfold s21_0
  cases s with
  | nil =>
    refine cnd_t rfl ?_
    exact c21_1 (r := []) rfl
  | cons c t =>
    refine cnd_f (strEq_cons c t) ?_
    refine idxS_i (s := c :: t) (Nat.zero_lt_succ _) ?_
    refine or_q (b := decide (c = 85)) (fun k' hk' => ?_) ?_
    · refine idxS_i (s := c :: t) (Nat.zero_lt_succ _) ?_
      rw [List.getElem_cons_zero, toNat_eq _ 85 (by decide)]; exact hk'
    rw [List.getElem_cons_zero, toNat_eq _ 117 (by decide)]
    refine cnd_i (fun e => ?_) (fun e => ?_)
    · have e : isUu c = true := e
      refine cutS_d (s := c :: t) (Nat.le_add_left 1 _) ?_
      refine c21_1 (r := t) ?_
      show AV.tuple _ = AV.tuple _
      have : sufP (c :: t) = (true, sufE t) := if_pos e
      rw [this]
    · have e : ¬ isUu c = true := fun h => by rw [show isUu c = false from e] at h; cases h
      have h1 : 1 ≤ (c :: t).length := Nat.le_add_left 1 _
      have h2 : (c :: t).length - 1 < (c :: t).length := by omega
      have hlast : (c :: t).getLast? = some ((c :: t)[(c :: t).length - 1]) := by rw [List.getLast?_eq_getElem?, List.getElem?_eq_getElem h2]
      have hlu : lastUu (c :: t) = isUu ((c :: t)[(c :: t).length - 1]) := by unfold lastUu; rw [hlast]
      rw [isub1 h1 (by omega), fI_eq, natI_eq]
      refine idxS_i h2 ?_
      refine or_q (b := decide ((c :: t)[(c :: t).length - 1] = 85)) (fun k' hk' => ?_) ?_
      · rw [fI_eq, natI_eq]
        refine idxS_i h2 ?_
        rw [toNat_eq _ 85 (by decide)]; exact hk'
      rw [toNat_eq _ 117 (by decide)]
      refine cnd_i (fun e2 => ?_) (fun e2 => ?_)
      · have e2 : isUu ((c :: t)[(c :: t).length - 1]) = true := e2
        rw [fI_eq, natI_eq]
        refine cutS_t (by omega) ?_
        refine c21_1 ?_
        show AV.tuple _ = AV.tuple _
        have : sufP (c :: t) = (true, sufE (c :: t).dropLast) := by
          show (if isUu c then (true, sufE t) else if lastUu (c :: t) then (true, sufE (c :: t).dropLast) else (false, sufE (c :: t))) = _
          rw [if_neg e, hlu, if_pos e2]
        rw [this, List.dropLast_eq_take]
      · have e2 : ¬ isUu ((c :: t)[(c :: t).length - 1]) = true := fun h => by rw [show isUu ((c :: t)[(c :: t).length - 1]) = false from e2] at h; cases h
        refine c21_1 ?_
        show AV.tuple _ = AV.tuple _
        have : sufP (c :: t) = (false, sufE (c :: t)) := by
          show (if isUu c then (true, sufE t) else if lastUu (c :: t) then (true, sufE (c :: t).dropLast) else (false, sufE (c :: t))) = _
          rw [if_neg e, hlu, if_neg e2]
        rw [this]
def num2 (u ok : Bool) (B : Nat) (set dd : List UInt8) : Option (Nat × Bool) :=
  if (!ok || decide (dd = []) || !decide (runL dd set = dd.length)) = true then none else if valN B 0 dd < 18446744073709551616 then some (valN B 0 dd, u || decide (9223372036854775807 < valN B 0 dd)) else none
def numL (s : List UInt8) : Option (Nat × Bool) :=
  if hexedL (rtrim s sufL) = true then num2 (sufP (s.drop (rtrim s sufL).length)).1 (sufP (s.drop (rtrim s sufL).length)).2 16 hexL ((rtrim s sufL).drop 2)
  else if (rtrim s sufL).take 1 = [48] then num2 (sufP (s.drop (rtrim s sufL).length)).1 (sufP (s.drop (rtrim s sufL).length)).2 8 octL (rtrim s sufL)
  else num2 (sufP (s.drop (rtrim s sufL).length)).1 (sufP (s.drop (rtrim s sufL).length)).2 10 decL (rtrim s sufL)
noncomputable def numV (o : Option (Nat × Bool)) : AV := match o with
  | some p => .tuple [.agg [.int .u64 (Int.ofNat p.1), .bool p.2], .bool true]
  | none => noneV
theorem plain_numV (o : Option (Nat × Bool)) : plain (numV o) = true := by cases o <;> rfl
theorem c9_1' {p : P} {h : H} {t : Tm} {u ok : Bool} {B n : Nat} {set dd : List UInt8} {k : KV} (he : HasE h) (ha : h.at p = .row t 2 0 25 true) (hp : p.nat < h.next.nat) (hs : okSet set) (h2 : 2 ≤ set.length) (hset : ∀ x ∈ set, x ∈ hexL ∧ digN x < B) (hB : B = 8 ∨ B = 10 ∨ B = 16) (hl : dd.length ≤ 1099511627776)
    (hk : ∀ h', k (numV (num2 u ok B set dd)) h') : (r9 W1 k (n + 1)).a1 (.ptr p 0) dd.length (enc dd) u ok (Int.ofNat B) set.length (enc set) h := by
  refine j9_1 ?_
  unfold s9_1
  have bad : num2 u ok B set dd = none → ∀ h : H, h.at p = .row t 2 0 25 true → (oK (exBuild env (env.ty 25) [] h) fun v32 h33 =>
      stn 2 (.ptr p 0) v32 h33 fun h34 =>
      ldn 2 (.ptr p 0) h34 fun v35 =>
      k (.tuple [v35, (.bool false)]) h34) := by
    intro e h ha
    rw [b25, oK_some]
    refine stn_i ha (Nat.le_refl _) rfl (by decide) (by decide) ?_
    refine ldn_i (at_put_same _ _ _) (by decide) ?_
    rw [gc2]
    have := hk (h.put p (.row (tlist [.int .u64 (Int.ofNat 0), .bool false] 0 t) 2 0 25 true))
    rw [e] at this
    exact this
  refine or_b ?_
  rw [strEq_nil, bnot_eq]
  refine or_q (b := !decide (runL dd set = dd.length)) (fun k' hk' => ?_) ?_
  · refine use2 (c24 hs h2 dd (by omega)) ?_
    rw [asI_k, ieqN, bnot_eq]; exact hk'
  refine cnd_i (fun e => ?_) (fun e => ?_)
  · exact bad (if_pos e) h ha
  · have en : num2 u ok B set dd = if valN B 0 dd < 18446744073709551616 then some (valN B 0 dd, u || decide (9223372036854775807 < valN B 0 dd)) else none := if_neg (by rw [e]; simp)
    simp only [Bool.or_eq_false_iff, Bool.not_eq_false', decide_eq_true_eq, decide_eq_false_iff_not] at e
    obtain ⟨⟨_, e1⟩, e2⟩ := e
    have hall : ∀ x ∈ dd, x ∈ hexL ∧ digN x < B := fun x hx => hset x (run_mem (s := dd) (set := set) (n := dd.length) (by omega) (by rw [List.take_length]; exact hx))
    refine c25 he hB e1 hall hl (fun hv h' hf => ?_) (fun hv h' q hf => ?_)
    · rw [if_pos hv] at en
      have ha' : h'.at p = .row t 2 0 25 true := by rw [hf.2 p hp]; exact ha
      rw [ext_0, asI_k, ext_1, neq50n, oV_some, asB_b]
      refine cnd_f rfl ?_
      refine or_b ?_
      rw [ilt, b25v, oK_some]
      refine stn_i ha' (Nat.le_refl _) rfl (by decide) (by decide) ?_
      refine ldn_i (at_put_same _ _ _) (by decide) ?_
      rw [gc2]
      have := hk (h'.put p (.row (tlist [.int .u64 (Int.ofNat (valN B 0 dd)), .bool (u || decide (9223372036854775807 < valN B 0 dd))] 0 t) 2 0 25 true))
      rw [en] at this
      exact this
    · rw [if_neg hv] at en
      have ha' : h'.at p = .row t 2 0 25 true := by rw [hf.2 p hp]; exact ha
      rw [ext_0, asI_k, ext_1, neq50i, oV_some, asB_b]
      refine cnd_t rfl ?_
      exact bad en h' ha'
theorem rtrim_le (s set : List UInt8) : (rtrim s set).length ≤ s.length := by
  unfold rtrim
  rw [List.length_reverse]
  have := (List.dropWhile_sublist (l := s.reverse) (· ∈ set)).length_le
  rw [List.length_reverse] at this; exact this
theorem set_hex : ∀ x ∈ hexL, x ∈ hexL ∧ digN x < 16 := by decide
theorem set_oct : ∀ x ∈ octL, x ∈ hexL ∧ digN x < 8 := by decide
theorem set_dec : ∀ x ∈ decL, x ∈ hexL ∧ digN x < 10 := by decide
theorem c9 (s : List UInt8) (hl : s.length ≤ 1099511627776) : Pure PP G h1 9 [S s] (numV (numL s)) := by
  refine w9 (n := 2) sw_ok (g9 ?_)
  unfold s9_0
  refine newK_i ?_
  have he : HasE (h1.new ob25) := hasE_h1.new
  have ha : (h1.new ob25).at h1.next = .row (tlist [.int .u64 (Int.ofNat 0), .bool false] 0 .e) 2 0 25 true := at_new_same _ _
  have hp : h1.next.nat < (h1.new ob25).next.nat := by rw [next_new]; omega
  refine use2 (c20 suf_ok (by decide) s (by omega)) ?_
  rw [asS_s]
  have hd := rtrim_le s sufL
  refine cutS_d hd ?_
  refine use2 (c21 (s.drop (rtrim s sufL).length) (by rw [List.length_drop]; omega)) ?_
  rw [ext_0, asB_b, ext_1, asB_b]
  refine use2 (c22 (rtrim s sufL)) ?_
  rw [asB_b]
  refine cnd_i (fun e => ?_) (fun e => ?_)
  · have h2 : 2 ≤ (rtrim s sufL).length := by
      have e := e
      unfold hexedL at e
      rw [Bool.or_eq_true, decide_eq_true_eq, decide_eq_true_eq] at e
      rcases e with e | e <;> (have := congrArg List.length e; simp [hx1, hx2] at this; omega)
    refine cutS_d h2 ?_
    refine c9_1' (B := 16) (set := hexL) he ha hp hex_ok (by decide) set_hex (by decide) (by rw [List.length_drop]; omega) fun h' => ?_
    show numV _ = numV _
    unfold numL; rw [if_pos e]
  · have e : ¬ hexedL (rtrim s sufL) = true := by rw [e]; simp
    refine use2 (c23 (rtrim s sufL) [48]) ?_
    rw [asB_b]
    refine cnd_i (fun e2 => ?_) (fun e2 => ?_)
    · have e2 : (rtrim s sufL).take 1 = [48] := of_decide_eq_true e2
      refine c9_1' (B := 8) (set := octL) he ha hp oct_ok (by decide) set_oct (by decide) (by omega) fun h' => ?_
      show numV _ = numV _
      unfold numL; rw [if_neg e, if_pos e2]
    · have e2 : ¬ (rtrim s sufL).take 1 = [48] := of_decide_eq_false e2
      refine c9_1' (B := 10) (set := decL) he ha hp dec_ok (by decide) set_dec (by decide) (by omega) fun h' => ?_
      show numV _ = numV _
      unfold numL; rw [if_neg e, if_neg e2]
end Go.Den
