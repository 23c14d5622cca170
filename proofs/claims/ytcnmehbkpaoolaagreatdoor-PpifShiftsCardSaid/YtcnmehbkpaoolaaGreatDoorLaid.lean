/-
  A part of the proof.
-/
import Derived.Test.YtcnmehbkpaoolaaGreatDoorByts
import Derived.KernelRfl
import Derived.Test.YtcnmehbkpaoolaaGreatDoorProg
import Derived.Lib.Walk
import Derived.Lib.IfaceEq
import Derived.WalkKit
import Derived.BigCall
namespace Go.Den
open Go.RowKit
set_option maxRecDepth 100000
theorem A6l (s : List UInt8) : Pure PP G h0 114 [S s] (.bool (Nn s)) := by
  refine A74 (n := 1) Ca (Bhw ?_)
  unfold Adq
  refine Ek (A6k s hx1) ?_
  rw [Ay]
  refine Wa (fun e => Ek (A6k s hx2) ?_) (fun e => ?_)
  · show AV.bool _ = AV.bool _
    unfold Nn
    have e : decide (s.take 2 = hx1) = false := e
    rw [e]; rfl
  · show AV.bool _ = AV.bool _
    unfold Nn
    have e : decide (s.take 2 = hx1) = true := e
    rw [e]; rfl
end Go.Den
namespace Go.Den
open Go.RowKit
set_option maxRecDepth 100000
theorem Ba4 (s : List UInt8) : Bm s.length (enc s) 1 108 = decide (s = [108]) := En (t := [108])
theorem Bib (s : List UInt8) : Bm s.length (enc s) 1 76 = decide (s = [76]) := En (t := [76])
end Go.Den
namespace Go.Den
open Go.RowKit
set_option maxRecDepth 100000
theorem Bjc {set : List UInt8} (hs : Vm set) (h2 : 2 ≤ set.length) (s : List UInt8) (hl : s.length ≤ 4611686018427387904) : Pure PP G h0 112 [S s, S set] (S (Dw s set)) := by
  refine A76 (n := 1) Ca (Bhy ?_)
  unfold Adt
  have e0 : Bm set.length (enc set) 0 0 = false := Xp (t := []) (fun h => by subst h; simp at h2)
  rw [e0]
  have e1 : Bm s.length (enc s) 0 0 = decide (s = []) := En (t := [])
  rw [e1]
  refine Fk ?_
  refine Bk (fun e => ?_) (fun e => ?_)
  · have e : s = [] := by simpa using e
    subst e; rfl
  · refine Lp (fun e => ?_) (fun _ => ?_)
    · rw [Ez, beq_iff_eq] at e
      have : set.length = 1 := by have := Int.ofNat.inj e; exact this
      omega
    · refine Am rfl ?_
      refine Ek hs ?_
      rw [Ic, Ib, Ay]
      refine Dk ?_
      refine Agn (zs := List.replicate 256 (.bool false)) (by simp) (Wj _) (by omega) ?_
      intro h' ha
      refine Bo rfl ?_
      refine A7n (n := s.length + 2) Ca (Bhf ?_)
      unfold Ac0
      refine Ate (set := set) ha (fun x => ?_) _ s hl (by omega) ?_
      · rw [Bl, if_pos ⟨Nat.zero_le _, by rw [Wj]; have := x.toNat_lt; omega⟩, Nat.sub_zero]
        exact Aki set x
      · exact Di.mpr rfl
theorem b25 (h : H) : Bt env (env.ty 55) [] h = some (.agg [.int .u64 (Int.ofNat 0), .bool false], h) := by kernel_rfl
def A95 : AV := .tuple [.agg [.int .u64 (Int.ofNat 0), .bool false], .bool false]
end Go.Den
namespace Go.Den
set_option maxRecDepth 100000
theorem Awv {x : UInt8} (h : x ∈ Lb) : x ∈ On := by
  simp only [Lb, On, List.mem_cons, List.not_mem_nil, or_false] at h ⊢
  rcases h with h | h | h | h | h | h | h | h | h | h <;> simp [h]
end Go.Den
namespace Go.Proofs
open Go.RowKit
set_option maxHeartbeats 4000000 in
set_option maxRecDepth 100000 in
theorem Tryz.A8t {Q : Addr → World → Prop} (fn s : ByteArray) (base bits : Int) (w : World)
    (hr : Calls Tryz.prog 224 #[.string fn, .string s] w fun e w' => ∃ a, e = .returned (.pointer (some a)) ∧ Q a w') :
    Calls Tryz.prog 174 #[.string fn, .string s, .int .i64 base, .int .i64 bits, .iface 304 (.int .i64 1)] w fun e w' => ∃ a, e = .returned (.iface 306 (.pointer (some a))) ∧ Q a w' := by
  have hq12 : ∀ W, (binOp .eql 151 (.iface 304 (.int .i64 1)) (.iface 304 (.int .i64 2))).run Tryz.prog W = .ok (.bool false) W := fun W => Lib.run_eql_iface_int W 1 2 Tryz.underlying151 (by kernel_rfl) Tryz.underlying304
  have hq11 : ∀ W, (binOp .eql 151 (.iface 304 (.int .i64 1)) (.iface 304 (.int .i64 1))).run Tryz.prog W = .ok (.bool true) W := fun W => Lib.run_eql_iface_int W 1 1 Tryz.underlying151 (by kernel_rfl) Tryz.underlying304
  go_enter Tryz.func174, Tryz.ntmps174
  go_wp2_with (go_at_call 224; refine hr.mono ?_; rintro e w2 ⟨a, rfl, hQ⟩)
  go_wp2
  go_ret
  exact ⟨a, rfl, hQ⟩
end Go.Proofs
noncomputable section
namespace Go.Den
open Go.RowKit
set_option maxRecDepth 100000
def cE : Nat → AV := fun _ => .iface 414 (.ptr (pOf 12) 0)
def oE : Ob FT := .ext cE 1
def oA : Ob FT := .dead
def A91 : List (Ob FT) := [oA, .dead, .dead, .dead, .dead, .dead, oE, .dead, .dead, .dead, .dead, .dead, .dead]
abbrev h1 : H := Vq A91
def Jk (h : H) : Prop := h.at (pOf 0) = oA ∧ h.at (pOf 6) = oE ∧ 13 ≤ h.next.nat
theorem Zf : h1.at (pOf 0) = oA := by rw [Qz, Ei]; rfl
theorem Ag9 : h1.at (pOf 6) = oE := by rw [Qz, Ei]; rfl
theorem Aed : h1.next.nat = 13 := by show (pOf 13).nat = 13; rw [Ei]
theorem No : Jk h1 := ⟨Zf, Ag9, by rw [Aed]; exact Nat.le_refl _⟩
theorem Jk.keep {h h' : H} (he : Jk h) (hn : h.next.nat ≤ h'.next.nat) (hk : ∀ c, c.nat < h.next.nat → h'.at c = h.at c) : Jk h' :=
  ⟨by rw [hk (pOf 0) (by rw [Ei]; have := he.2.2; omega)]; exact he.1, by rw [hk (pOf 6) (by rw [Ei]; have := he.2.2; omega)]; exact he.2.1, Nat.le_trans he.2.2 hn⟩
theorem Jk.new {h : H} {o : Ob FT} (he : Jk h) : Jk (h.new o) := he.keep (by rw [Bq]; omega) fun _ hc => Gl hc
theorem Wu (b : P) (hb : h1.at b ≠ .dead) : b = pOf 0 ∨ b = pOf 6 := by
  rw [Qz] at hb
  have : b.nat = 0 ∨ b.nat = 6 := by
    match hn : b.nat with
    | 0 => exact .inl rfl
    | 6 => exact .inr rfl
    | 1 | 2 | 3 | 4 | 5 | 7 | 8 | 9 | 10 | 11 | 12 => rw [hn] at hb; exact absurd rfl hb
    | n + 13 => rw [hn] at hb; exact absurd rfl hb
  rcases this with e | e
  · left; rw [← e, Ad0]
  · right; rw [← e, Ad0]
theorem Aa5 {F : FuncId} {args : List AV} {r : AV} (hp : Pure PP G h1 F args r) (ha : Na args = true) (hr : plain r = true) {h : H} (he : Jk h) {k : KV} (hk : k r h) : W1 (.func F) args h k := fun μ w fn' vargs s gl hf hv => by
  let μ0 : Mu := fun b => if b.nat < 13 then μ b else none
  have hin : ∀ b, b.nat < 13 → μ0 b = μ b := fun b hb => if_pos hb
  have hat : ∀ b, h1.at b ≠ .dead → h.at b = h1.at b ∧ b.nat < 13 := fun b hb => by
    rcases Wu b hb with rfl | rfl
    · exact ⟨by rw [he.1, Zf], by rw [Ei]; decide⟩
    · exact ⟨by rw [he.2.1, Ag9], by rw [Ei]; decide⟩
  have s0 : Sim μ0 h1 w := by
    refine ⟨fun b c hc => ?_, fun b hb => ?_, fun b l hb hl => ?_, fun b b' c c' ho => ?_⟩
    · have hc : (if b.nat < 13 then μ b else none) = some c := hc
      by_cases hb : b.nat < 13
      · rw [Aed]; exact hb
      · rw [if_neg hb] at hc; cases hc
    · rw [Aed] at hb
      by_cases e : h1.at b = .dead
      · exact e
      · have := (hat b e).2; omega
    · obtain ⟨e1, e2⟩ := hat b hb
      rw [hin _ e2] at hl
      have hob := s.ob b l (by rw [e1]; exact hb) hl
      rw [e1] at hob
      rcases Wu b hb with rfl | rfl
      · exact absurd Zf hb
      · rw [Ag9] at hob ⊢
        obtain ⟨cs, e, fz, h1', h2, h3, h4⟩ := hob
        refine ⟨cs, e, fz, h1', h2, h3, fun i hi => ?_⟩
        obtain ⟨v, hv, hvr, ho⟩ := h4 i hi
        refine ⟨v, hv, ?_, ho⟩
        obtain ⟨y, rfl, q, hq, rfl⟩ := hvr
        exact ⟨_, rfl, q, by rw [hin _ (by rw [Ei]; decide)]; exact hq, rfl⟩
    · by_cases e : h1.at b = .dead
      · rw [e] at ho; cases ho
      · rcases Wu b e with rfl | rfl
        · rw [Zf] at ho; cases ho
        · rw [Ag9] at ho; cases ho
  have g0 : Fp μ0 G := fun g hg => by
    obtain ⟨c, h2, h3⟩ := gl g hg
    have hg : g < 12 := hg
    exact ⟨c, by rw [hin _ (by rw [Ei]; omega)]; exact h2, h3⟩
  have own0 : ∀ b, (h1.at b).own = false := fun b => by
    by_cases e : h1.at b = .dead
    · rw [e]; rfl
    · rcases Wu b e with rfl | rfl
      · rw [Zf]; rfl
      · rw [Ag9]; rfl
  rcases hp μ0 w fn' vargs s0 g0 (show FnR μ0 (.func F) fn' by cases fn' <;> exact hf) (VRs.plain _ _ ha hv) with ⟨f, e, hh⟩ | ⟨l, F', tmps, qs, bd, e, _⟩
  case inr => subst e; exact hf.elim
  refine .inl ⟨f, e, ?_⟩
  rcases hh with ⟨v, w', μ', av, h', h1, h2, h3, h4, h5⟩ | ⟨h1, h2⟩
  · subst h5
    have b := Ih h3 own0
    exact .inl ⟨v, w', μ, av, h, h1, s.below b, .below b, VR.plain _ _ hr h4, hk⟩
  · refine .inr ⟨h1, h2.mono fun e w' he => ?_⟩
    obtain ⟨v, μ', av, h', h3, h4, h5, h6, h7⟩ := he
    subst h7
    have b := Ih h5 own0
    exact ⟨v, μ, av, h, h3, s.below b, .below b, VR.plain _ _ hr h6, hk⟩
theorem Baa {h : H} {b : P} {c : Nat → AV} {n o : Nat} {K : AV → Prop} (ha : h.at b = .ext c n) (ho : o < n) (hk : K (c o)) : ld1 (.ptr b o) h K := by
  show h.Hy b o Ai K
  unfold Hp.Hy
  rw [ha]
  show Yc o Ai K c n
  unfold Yc
  rw [show Nat.ble (Nat.add o 1) n = true from Nat.ble_eq_true_of_le ho]
  show Bu (c o) K
  rw [By]; exact hk
theorem Bf8 (n : Nat) (h : H) : Ak env 115 (fun e ei => Ef (Bn (.int .i64 (Int.ofNat n))) (Bn (.int .i64 (Int.ofNat n))) h e ei) = (Bool.rec none (some (.slice h.next 0 n 1 (Nat.beq n n), h.new (.row (Aq (Gf [.int .u8 (.ofNat 0)] n) 0 .e) (Nat.mul n 1) 0 TB true)))
    (Ah (Nat.ble n n) (Ah (Ah true true) (Ah (Nat.ble n 1099511627776) (Nat.ble (Nat.mul n 1) 140737488355328)))) : Option (AV × H)) := by kernel_rfl
theorem cp9 (x y : AV) (h : H) : Bw env .copy [115, 9] [x, y] h = Aen x y h TB ei8 := by kernel_rfl
theorem Ba6 {b : P} {n : Nat} {t : Bool} {K : AV → Prop} (h : 1 ≤ n) : Cc 1 0 (.slice b 0 n 1 t) K = K (.ptr b 0) := by
  show (Bool.rec Ai (fN (Nat.add 0 (Nat.mul 0 1)) fun q => K (.ptr b q)) (Ah (Nat.ble (Nat.add 0 1) n) (Nat.beq 1 1)) : Prop) = _
  rw [Nat.ble_eq_true_of_le (show Nat.add 0 1 ≤ n by show 0 + 1 ≤ n; omega)]
  rfl
theorem Abr {l : List AV} {K : List AV → Prop} : asG (.agg l) K = K l := rfl
theorem Bcg {K : Prop} : chk true K = K := rfl
theorem Bin (s : List UInt8) (hl : s.length ≤ 1099511627776) : Pure PP G h0 265 [S s] (S s) := by
  refine A67 (n := 1) Ca (Bgz ?_)
  unfold Ab8
  rw [Nl]
  refine Bk (fun e => ?_) (fun e => ?_)
  · have e : s.length = 0 := of_decide_eq_true e
    have : s = [] := List.eq_nil_of_length_eq_zero e
    subst this; rfl
  · have e : ¬ s.length = 0 := of_decide_eq_false e
    rw [Bf8, Nat.ble_eq_true_of_le (Nat.le_refl _), Nat.ble_eq_true_of_le hl, Nat.ble_eq_true_of_le (show Nat.mul s.length 1 ≤ 140737488355328 by show s.length * 1 ≤ _; omega)]
    show oK (some (.slice h0.next 0 s.length 1 (Nat.beq s.length s.length), h0.new (.row (Aq (Gf [.int .u8 (.ofNat 0)] s.length) 0 .e) (Nat.mul s.length 1) 0 TB true))) _
    rw [Ag, cp9]
    have ha : (h0.new (.row (Aq (Gf [.int .u8 (.ofNat 0)] s.length) 0 .e) (Nat.mul s.length 1) 0 TB true)).at h0.next = .row (Aq (Gf [.int .u8 (.ofNat 0)] s.length) 0 .e) (Nat.mul s.length 1) 0 TB true := Cm _ _
    generalize h0.new (.row (Aq (Gf [.int .u8 (.ofNat 0)] s.length) 0 .e) (Nat.mul s.length 1) 0 TB true) = h at ha ⊢
    generalize Aq (Gf [.int .u8 (.ofNat 0)] s.length) 0 .e = t at ha
    have ec : Aen (.slice h0.next 0 s.length 1 (Nat.beq s.length s.length)) (S s) h TB ei8 = some (.int .i64 (.ofNat s.length), h.put h0.next (.row (Aq (ubs s) 0 t) (Nat.mul s.length 1) 0 TB true)) := by
      show (Option.rec none (fun p => Bool.rec none (Bool.rec (Ag6 s.length (h.write h0.next 0 (Lu (Nat.mul s.length 1) p.2))) (Ag6 p.1 (h.write h0.next 0 p.2)) (Nat.ble p.1 s.length)) (Nat.beq 1 1)) (Dp h 1 (S s)) : Option (AV × H)) = _
      rw [An9]
      show (Bool.rec (Ag6 s.length (h.write h0.next 0 (Lu (Nat.mul s.length 1) (ubs s)))) (Ag6 s.length (h.write h0.next 0 (ubs s))) (Nat.ble s.length s.length) : Option (AV × H)) = _
      rw [Nat.ble_eq_true_of_le (Nat.le_refl _)]
      show Ag6 s.length (h.write h0.next 0 (ubs s)) = _
      have hw : h.write h0.next 0 (ubs s) = some (h.put h0.next (.row (Aq (ubs s) 0 t) (Nat.mul s.length 1) 0 TB true)) := by
        unfold Hp.write Hp.Gs
        rw [ha]
        show Vj h h0.next 0 (ubs s) none some t (Nat.mul s.length 1) 0 TB true = _
        unfold Vj
        rw [Df, show (ubs s).length = s.length by simp [ubs], show Nat.ble (Nat.add 0 s.length) (Nat.mul s.length 1) = true from Nat.ble_eq_true_of_le (by show 0 + s.length ≤ s.length * 1; omega)]
        show Jv (Aq (ubs s) 0 t) (fun t => h.Sg h0.next (.row t (Nat.mul s.length 1) 0 TB true) some) = _
        rw [Iw, Qm]
      rw [hw]; rfl
    rw [ec, Ag, Ar]
    rw [Ba6 (by omega), Nh, Bfq]
    have e2 : Up env (.ptr h0.next 0) (Bn (.int .i64 (Int.ofNat s.length))) (h.put h0.next (.row (Aq (ubs s) 0 t) (Nat.mul s.length 1) 0 TB true)) = (Bool.rec (Akf env h0.next 0 s.length (h.put h0.next (.row (Aq (ubs s) 0 t) (Nat.mul s.length 1) 0 TB true)) (Ex ((h.put h0.next (.row (Aq (ubs s) 0 t) (Nat.mul s.length 1) 0 TB true)).at h0.next))) (some (.str 0 0, h.put h0.next (.row (Aq (ubs s) 0 t) (Nat.mul s.length 1) 0 TB true))) (Nat.beq s.length 0) : Option (AV × H)) := rfl
    have e3 : Nat.beq s.length 0 = false := by rw [Fv]; exact decide_eq_false e
    rw [e2, e3, Du]
    show oK (Bool.rec none (Ry _ (Ff (Bf (Aq (ubs s) 0 t) s.length 0))) (Ah (isByte env TB) (Ah (Nat.ble (Nat.add 0 s.length) (Nat.mul s.length 1)) (Nat.ble s.length (intMax .i64)))) : Option (AV × H)) _
    rw [isB, Nat.ble_eq_true_of_le (show Nat.add 0 s.length ≤ Nat.mul s.length 1 by show 0 + s.length ≤ s.length * 1; omega), Nat.ble_eq_true_of_le (show s.length ≤ intMax .i64 by show s.length ≤ 9223372036854775807; omega), (Eu.new s t).get]
    show oK (Ry _ (Ff (ubs s))) _
    rw [Aax, Ag, Di]
theorem b98 (l c l' c' : Nat) (h : H) : Bt env (env.ty 365) [(0, (.str l c)), (1, (.str l' c')), (2, cE 0)] h = some (.agg [.str l c, .str l' c', cE 0], h) := by kernel_rfl
theorem Bio {fn s : List UInt8} {h : H} {k : KV} (he : Jk h) (hl : s.length ≤ 1099511627776) (hk : ∀ h' p, h.next.nat ≤ h'.next.nat → (∀ c, c.nat < h.next.nat → h'.at c = h.at c) → k (.ptr p 0) h') : W1 (.func 224) [S fn, S s] h k := by
  refine A69 (n := 1) Ca (Bg1 ?_)
  unfold Acb
  show ld1 (.ptr (pOf 6) 0) h _
  refine Baa he.2.1 (by decide) ?_
  refine Ek (Bin s hl) ?_
  rw [Di]
  show ld1 (.ptr (pOf 6) 0) h _
  refine Baa he.2.1 (by decide) ?_
  rw [show ∀ A : Prop, eqC (cE 0) (cE 0) A = A from fun A => by kernel_rfl, b98, Ag]
  rw [Abr, show Nat.ble 1 (len [S fn, S s, cE 0]) = true from rfl, Bcg]
  refine Dk ?_
  exact hk _ _ (by rw [Bq]; omega) fun c hc => Gl hc
theorem Ahp {F : FuncId} {fn : Func} {c : Code} (hf : PP.funcs[F]? = some fn) (hb : fn.body = some c) (hname : (fn.name == "runtime.NumGoroutine") = false) (vargs : Array Value) (w : World) : (callFunc F vargs).run PP w = .ok (.enter F vargs) w := by
  unfold callFunc
  rw [Aa (show program.run PP w = .ok PP w from rfl), hf]
  simp only [hname, hb, Bool.false_eq_true, if_false]
  rfl
theorem Biy {fn s : List UInt8} {base bits : Int} {h : H} {k : KV} (hg : W1 (.func 224) [S fn, S s] h fun v h' => ∃ p, v = .ptr p 0 ∧ k (.iface 306 (.ptr p 0)) h') : W1 (.func 174) [S fn, S s, .int .i64 base, .int .i64 bits, .iface 304 (.int .i64 1)] h k := by
  intro μ w fn' vargs sim gl hfn hv
  have hfn' : fn' = .func 174 := by cases fn' <;> simp only [FnR] at hfn <;> first | (cases hfn; rfl) | cases hfn
  obtain ⟨v0, vs0, e0, ⟨f0, rfl, hf0⟩, v1, vs1, rfl, ⟨f1, rfl, hf1⟩, v2, vs2, rfl, hv2, v3, vs3, rfl, hv3, v4, vs4, rfl, ⟨y, rfl, hy⟩, h5⟩ := hv
  have hv2 : v2 = .int .i64 base := hv2
  have hv3 : v3 = .int .i64 bits := hv3
  have hy : y = .int .i64 1 := hy
  have h5 : vs4 = [] := h5
  subst hv2 hv3 hy h5
  have hva : vargs = #[.string f0, .string f1, .int .i64 base, .int .i64 bits, .iface 304 (.int .i64 1)] := by apply Array.ext'; simpa using e0
  subst hva
  refine .inl ⟨174, hfn', .inr ⟨Ahp Proofs.Tryz.func174 rfl (by kernel_rfl) _ _, ?_⟩⟩
  rcases hg μ w (.func 224) #[.string f0, .string f1] sim gl rfl ⟨_, _, rfl, ⟨f0, rfl, hf0⟩, _, _, rfl, ⟨f1, rfl, hf1⟩, rfl⟩ with ⟨f, hf, hh⟩ | ⟨l, F', tmps, qs, bd, e, _⟩
  case inr => cases e
  cases hf
  have he := Ahp Proofs.Tryz.func224 rfl (by kernel_rfl) #[.string f0, .string f1] w
  rcases hh with ⟨v, w', μ', av, h', h1, _⟩ | ⟨_, h2⟩
  · rw [he] at h1; cases h1
  · refine (Proofs.Tryz.A8t (Q := fun a w' => ∃ μ' p h', Sim μ' h' w' ∧ Cv μ h w μ' h' w' ∧ VR μ' (.ptr p 0) (.pointer (some a)) ∧ k (.iface 306 (.ptr p 0)) h') f0 f1 base bits w (h2.mono ?_)).mono ?_
    · rintro e w' ⟨v, μ', av, h', rfl, h3, h4, h5, p, rfl, h6⟩
      have h5' := h5
      obtain ⟨l, hl, rfl⟩ := h5
      exact ⟨_, rfl, μ', p, h', h3, h4, h5', h6⟩
    · rintro e w' ⟨a, rfl, μ', p, h', h3, h4, h5, h6⟩
      exact ⟨_, μ', .iface 306 (.ptr p 0), h', rfl, h3, h4, ⟨_, rfl, h5⟩, h6⟩
end Go.Den
