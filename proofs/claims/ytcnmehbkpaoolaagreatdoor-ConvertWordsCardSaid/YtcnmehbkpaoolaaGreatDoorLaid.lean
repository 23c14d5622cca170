/-
 A part of the proof.
-/
import Derived.Test.YtcnmehbkpaoolaaGreatDoorFltp
import Derived.Test.YtcnmehbkpaoolaaGreatDoorPerr
noncomputable section
namespace Go.Den
open Go.RowKit
set_option maxRecDepth 100000
def cE : Nat → AV := fun _ => .iface 414 (.ptr (pOf 12) 0)
def oE : Ob FT := .ext cE 1
def Akb (i : Nat) : Nat := Bool.rec (Bool.rec 0 1 (Ai (Nat.ble 9 i) (Nat.ble i 13))) 1 (Nat.beq i 32)
def cA : Nat → AV := fun i => .int .u8 (.ofNat (Akb i))
def oA : Ob FT := .ext cA 256
def Bcm : List (Ob FT) := [oA, .dead, .dead, .dead, .dead, .dead, oE, .dead, .dead, .dead, .dead, .dead, .dead]
abbrev h1 : H := Uq Bcm
def Kl (h : H) : Prop := h.at (pOf 0) = oA ∧ h.at (pOf 6) = oE ∧ 13 ≤ h.next.nat
theorem Aak : h1.at (pOf 0) = oA := by rw [Kj, Dg]; rfl
theorem Aiq : h1.at (pOf 6) = oE := by rw [Kj, Dg]; rfl
theorem Afu : h1.next.nat = 13 := by show (pOf 13).nat = 13; rw [Dg]
theorem Aob : Kl h1 := ⟨Aak, Aiq, by rw [Afu]; exact Nat.le_refl _⟩
theorem Kl.keep {h h' : H} (he : Kl h) (hn : h.next.nat ≤ h'.next.nat) (hk : ∀ c, c.nat < h.next.nat → h'.at c = h.at c) : Kl h' :=
 ⟨by rw [hk (pOf 0) (by rw [Dg]; have := he.2.2; omega)]; exact he.1, by rw [hk (pOf 6) (by rw [Dg]; have := he.2.2; omega)]; exact he.2.1, Nat.le_trans he.2.2 hn⟩
theorem Kl.new {h : H} {o : Ob FT} (he : Kl h) : Kl (h.new o) := he.keep (by rw [Bg]; omega) fun _ hc => Df hc
theorem Xw (b : P) (hb : h1.at b ≠ .dead) : b = pOf 0 ∨ b = pOf 6 := by
 rw [Kj] at hb
 have : b.nat = 0 ∨ b.nat = 6 := by
  match hn : b.nat with
  | 0 => exact .inl rfl
  | 6 => exact .inr rfl
  | 1 | 2 | 3 | 4 | 5 | 7 | 8 | 9 | 10 | 11 | 12 => rw [hn] at hb; exact absurd rfl hb
  | n + 13 => rw [hn] at hb; exact absurd rfl hb
 rcases this with e | e
 · left; rw [← e, Ty]
 · right; rw [← e, Ty]
theorem Wa {F : FuncId} {args : List AV} {r : AV} (hp : Pure PP G h1 F args r) (ha : Nf args = true) (hr : plain r = true) {h : H} (he : Kl h) {k : KV} (hk : k r h) : W1 (.func F) args h k := fun μ w fn' vargs s gl hf hv => by
 let μ0 : Mu := fun b => if b.nat < 13 then μ b else none
 have hin : ∀ b, b.nat < 13 → μ0 b = μ b := fun b hb => if_pos hb
 have hat : ∀ b, h1.at b ≠ .dead → h.at b = h1.at b ∧ b.nat < 13 := fun b hb => by
  rcases Xw b hb with rfl | rfl
  · exact ⟨by rw [he.1, Aak], by rw [Dg]; decide⟩
  · exact ⟨by rw [he.2.1, Aiq], by rw [Dg]; decide⟩
 have s0 : Sim μ0 h1 w := by
  refine ⟨fun b c hc => ?_, fun b hb => ?_, fun b l hb hl => ?_, fun b b' c c' ho => ?_⟩
  · have hc : (if b.nat < 13 then μ b else none) = some c := hc
    by_cases hb : b.nat < 13
    · rw [Afu]; exact hb
    · rw [if_neg hb] at hc; cases hc
  · rw [Afu] at hb
    by_cases e : h1.at b = .dead
    · exact e
    · have := (hat b e).2; omega
  · obtain ⟨e1, e2⟩ := hat b hb
    rw [hin _ e2] at hl
    have hob := s.ob b l (by rw [e1]; exact hb) hl
    rw [e1] at hob
    rcases Xw b hb with rfl | rfl
    · rw [Aak] at hob ⊢
      obtain ⟨cs, e, fz, h1', h2, h3, h4⟩ := hob
      refine ⟨cs, e, fz, h1', h2, h3, fun i hi => ?_⟩
      obtain ⟨v, hv, hvr, ho⟩ := h4 i hi
      exact ⟨v, hv, hvr, ho⟩
    · rw [Aiq] at hob ⊢
      obtain ⟨cs, e, fz, h1', h2, h3, h4⟩ := hob
      refine ⟨cs, e, fz, h1', h2, h3, fun i hi => ?_⟩
      obtain ⟨v, hv, hvr, ho⟩ := h4 i hi
      refine ⟨v, hv, ?_, ho⟩
      obtain ⟨y, rfl, q, hq, rfl⟩ := hvr
      exact ⟨_, rfl, q, by rw [hin _ (by rw [Dg]; decide)]; exact hq, rfl⟩
  · by_cases e : h1.at b = .dead
    · rw [e] at ho; cases ho
    · rcases Xw b e with rfl | rfl
      · rw [Aak] at ho; cases ho
      · rw [Aiq] at ho; cases ho
 have g0 : Ft μ0 G := fun g hg => by
  obtain ⟨c, h2, h3⟩ := gl g hg
  have hg : g < 12 := hg
  exact ⟨c, by rw [hin _ (by rw [Dg]; omega)]; exact h2, h3⟩
 have own0 : ∀ b, (h1.at b).own = false := fun b => by
  by_cases e : h1.at b = .dead
  · rw [e]; rfl
  · rcases Xw b e with rfl | rfl
    · rw [Aak]; rfl
    · rw [Aiq]; rfl
 rcases hp μ0 w fn' vargs s0 g0 (show FnR μ0 (.func F) fn' by cases fn' <;> exact hf) (VRs.plain _ _ ha hv) with ⟨f, e, hh⟩ | ⟨l, F', tmps, qs, bd, e, _⟩
 case inr => subst e; exact hf.elim
 refine .inl ⟨f, e, ?_⟩
 rcases hh with ⟨v, w', μ', av, h', h1, h2, h3, h4, h5⟩ | ⟨h1, h2⟩
 · subst h5
   have b := Ik h3 own0
   exact .inl ⟨v, w', μ, av, h, h1, s.below b, .below b, VR.plain _ _ hr h4, hk⟩
 · refine .inr ⟨h1, h2.mono fun e w' he => ?_⟩
   obtain ⟨v, μ', av, h', h3, h4, h5, h6, h7⟩ := he
   subst h7
   have b := Ik h5 own0
   exact ⟨v, μ, av, h, h3, s.below b, .below b, VR.plain _ _ hr h6, hk⟩
theorem Bc0 {h : H} {b : P} {c : Nat → AV} {n o : Nat} {K : AV → Prop} (ha : h.at b = .ext c n) (ho : o < n) (hk : K (c o)) : ld1 (.ptr b o) h K := by
 show h.Gx b o Aj K
 unfold Hp.Gx
 rw [ha]
 show Zg o Aj K c n
 unfold Zg
 rw [show Nat.ble (Nat.add o 1) n = true from Nat.ble_eq_true_of_le ho]
 show Bw (c o) K
 rw [By]; exact hk
theorem Bi9 (n : Nat) (h : H) : An env 115 (fun e ei => Dp (Bc (.int .i64 (Int.ofNat n))) (Bc (.int .i64 (Int.ofNat n))) h e ei) = (Bool.rec none (some (.slice h.next 0 n 1 (Nat.beq n n), h.new (.row (Ah (Je [.int .u8 (.ofNat 0)] n) 0 .e) (Nat.mul n 1) 0 TB true)))
 (Ai (Nat.ble n n) (Ai (Ai true true) (Ai (Nat.ble n 1099511627776) (Nat.ble (Nat.mul n 1) 140737488355328)))) : Option (AV × H)) := by kernel_rfl
theorem cp9 (x y : AV) (h : H) : Aq env .copy [115, 9] [x, y] h = Sw x y h TB ei8 := by kernel_rfl
theorem Bd7 {b : P} {n : Nat} {t : Bool} {K : AV → Prop} (h : 1 ≤ n) : Cc 1 0 (.slice b 0 n 1 t) K = K (.ptr b 0) := by
 show (Bool.rec Aj (fN (Nat.add 0 (Nat.mul 0 1)) fun q => K (.ptr b q)) (Ai (Nat.ble (Nat.add 0 1) n) (Nat.beq 1 1)) : Prop) = _
 rw [Nat.ble_eq_true_of_le (show Nat.add 0 1 ≤ n by show 0 + 1 ≤ n; omega)]
 rfl
theorem Vr {l : List AV} {K : List AV → Prop} : asG (.agg l) K = K l := rfl
theorem Bft {K : Prop} : chk true K = K := rfl
theorem Blk (s : List UInt8) (hl : s.length ≤ 1099511627776) : Pure PP G h0 265 [S s] (S s) := by
 refine A88 (n := 1) Bj (Bjo ?_)
 unfold Adk
 rw [Sr]
 refine Bb (fun e => ?_) (fun e => ?_)
 · have e : s.length = 0 := of_decide_eq_true e
   have : s = [] := List.eq_nil_of_length_eq_zero e
   subst this; rfl
 · have e : ¬ s.length = 0 := of_decide_eq_false e
   rw [Bi9, Nat.ble_eq_true_of_le (Nat.le_refl _), Nat.ble_eq_true_of_le hl, Nat.ble_eq_true_of_le (show Nat.mul s.length 1 ≤ 140737488355328 by show s.length * 1 ≤ _; omega)]
   show oK (some (.slice h0.next 0 s.length 1 (Nat.beq s.length s.length), h0.new (.row (Ah (Je [.int .u8 (.ofNat 0)] s.length) 0 .e) (Nat.mul s.length 1) 0 TB true))) _
   rw [Ae, cp9]
   have ha : (h0.new (.row (Ah (Je [.int .u8 (.ofNat 0)] s.length) 0 .e) (Nat.mul s.length 1) 0 TB true)).at h0.next = .row (Ah (Je [.int .u8 (.ofNat 0)] s.length) 0 .e) (Nat.mul s.length 1) 0 TB true := Ax _ _
   generalize h0.new (.row (Ah (Je [.int .u8 (.ofNat 0)] s.length) 0 .e) (Nat.mul s.length 1) 0 TB true) = h at ha ⊢
   generalize Ah (Je [.int .u8 (.ofNat 0)] s.length) 0 .e = t at ha
   have ec : Sw (.slice h0.next 0 s.length 1 (Nat.beq s.length s.length)) (S s) h TB ei8 = some (.int .i64 (.ofNat s.length), h.put h0.next (.row (Ah (ubs s) 0 t) (Nat.mul s.length 1) 0 TB true)) := by
    show (Option.rec none (fun p => Bool.rec none (Bool.rec (Up s.length (h.write h0.next 0 (Ib (Nat.mul s.length 1) p.2))) (Up p.1 (h.write h0.next 0 p.2)) (Nat.ble p.1 s.length)) (Nat.beq 1 1)) (Bs h 1 (S s)) : Option (AV × H)) = _
    rw [Re]
    show (Bool.rec (Up s.length (h.write h0.next 0 (Ib (Nat.mul s.length 1) (ubs s)))) (Up s.length (h.write h0.next 0 (ubs s))) (Nat.ble s.length s.length) : Option (AV × H)) = _
    rw [Nat.ble_eq_true_of_le (Nat.le_refl _)]
    show Up s.length (h.write h0.next 0 (ubs s)) = _
    have hw : h.write h0.next 0 (ubs s) = some (h.put h0.next (.row (Ah (ubs s) 0 t) (Nat.mul s.length 1) 0 TB true)) := by
     unfold Hp.write Hp.Gj
     rw [ha]
     show Rq h h0.next 0 (ubs s) none some t (Nat.mul s.length 1) 0 TB true = _
     unfold Rq
     rw [Cz, show (ubs s).length = s.length by simp [ubs], show Nat.ble (Nat.add 0 s.length) (Nat.mul s.length 1) = true from Nat.ble_eq_true_of_le (by show 0 + s.length ≤ s.length * 1; omega)]
     show Iw (Ah (ubs s) 0 t) (fun t => h.Pm h0.next (.row t (Nat.mul s.length 1) 0 TB true) some) = _
     rw [Hw, Li]
    rw [hw]; rfl
   rw [ec, Ae, Au]
   rw [Bd7 (by omega), Ih, Aq5]
   have e2 : Jo env (.ptr h0.next 0) (Bc (.int .i64 (Int.ofNat s.length))) (h.put h0.next (.row (Ah (ubs s) 0 t) (Nat.mul s.length 1) 0 TB true)) = (Bool.rec (Aby env h0.next 0 s.length (h.put h0.next (.row (Ah (ubs s) 0 t) (Nat.mul s.length 1) 0 TB true)) (Dv ((h.put h0.next (.row (Ah (ubs s) 0 t) (Nat.mul s.length 1) 0 TB true)).at h0.next))) (some (.str 0 0, h.put h0.next (.row (Ah (ubs s) 0 t) (Nat.mul s.length 1) 0 TB true))) (Nat.beq s.length 0) : Option (AV × H)) := rfl
   have e3 : Nat.beq s.length 0 = false := by rw [Eo]; exact decide_eq_false e
   rw [e2, e3, Bn]
   show oK (Bool.rec none (My _ (Ej (Cb (Ah (ubs s) 0 t) s.length 0))) (Ai (isByte env TB) (Ai (Nat.ble (Nat.add 0 s.length) (Nat.mul s.length 1)) (Nat.ble s.length (intMax .i64)))) : Option (AV × H)) _
   rw [isB, Nat.ble_eq_true_of_le (show Nat.add 0 s.length ≤ Nat.mul s.length 1 by show 0 + s.length ≤ s.length * 1; omega), Nat.ble_eq_true_of_le (show s.length ≤ intMax .i64 by show s.length ≤ 9223372036854775807; omega), (Ds.new s t).get]
   show oK (My _ (Ej (ubs s))) _
   rw [Ab0, Ae, Ce]
theorem b98 (l c l' c' : Nat) (h : H) : Bm env (env.ty 365) [(0, (.str l c)), (1, (.str l' c')), (2, cE 0)] h = some (.agg [.str l c, .str l' c', cE 0], h) := by kernel_rfl
theorem Bln {fn s : List UInt8} {h : H} {k : KV} (he : Kl h) (hl : s.length ≤ 1099511627776) (hk : ∀ h' p, h.next.nat ≤ h'.next.nat → (∀ c, c.nat < h.next.nat → h'.at c = h.at c) → k (.ptr p 0) h') : W1 (.func 224) [S fn, S s] h k := by
 refine A9a (n := 1) Bj (Bjq ?_)
 unfold Adm
 show ld1 (.ptr (pOf 6) 0) h _
 refine Bc0 he.2.1 (by decide) ?_
 refine Dn (Blk s hl) ?_
 rw [Ce]
 show ld1 (.ptr (pOf 6) 0) h _
 refine Bc0 he.2.1 (by decide) ?_
 rw [show ∀ A : Prop, eqC (cE 0) (cE 0) A = A from fun A => by kernel_rfl, b98, Ae]
 rw [Vr, show Nat.ble 1 (len [S fn, S s, cE 0]) = true from rfl, Bft]
 refine Ec ?_
 exact hk _ _ (by rw [Bg]; omega) fun c hc => Df hc
theorem Ajb {F : FuncId} {fn : Func} {c : Code} (hf : PP.funcs[F]? = some fn) (hb : fn.body = some c) (hname : (fn.name == "runtime.NumGoroutine") = false) (vargs : Array Value) (w : World) : (callFunc F vargs).run PP w = .ok (.enter F vargs) w := by
 unfold callFunc
 rw [Aa (show program.run PP w = .ok PP w from rfl), hf]
 simp only [hname, hb, Bool.false_eq_true, if_false]
 rfl
theorem Bls {fn s : List UInt8} {base bits : Int} {h : H} {k : KV} (hg : W1 (.func 224) [S fn, S s] h fun v h' => ∃ p, v = .ptr p 0 ∧ k (.iface 306 (.ptr p 0)) h') : W1 (.func 174) [S fn, S s, .int .i64 base, .int .i64 bits, .iface 304 (.int .i64 1)] h k := by
 intro μ w fn' vargs sim gl hfn hv
 have hfn' : fn' = .func 174 := by cases fn' <;> simp only [FnR] at hfn <;> first | (cases hfn; rfl) | cases hfn
 obtain ⟨v0, vs0, e0, ⟨f0, rfl, hf0⟩, v1, vs1, rfl, ⟨f1, rfl, hf1⟩, v2, vs2, rfl, hv2, v3, vs3, rfl, hv3, v4, vs4, rfl, ⟨y, rfl, hy⟩, h5⟩ := hv
 have hv2 : v2 = .int .i64 base := hv2
 have hv3 : v3 = .int .i64 bits := hv3
 have hy : y = .int .i64 1 := hy
 have h5 : vs4 = [] := h5
 subst hv2 hv3 hy h5
 have hva : vargs = #[.string f0, .string f1, .int .i64 base, .int .i64 bits, .iface 304 (.int .i64 1)] := by apply Array.ext'; simpa using e0
 subst hva
 refine .inl ⟨174, hfn', .inr ⟨Ajb Proofs.Tryz.func174 rfl (by kernel_rfl) _ _, ?_⟩⟩
 rcases hg μ w (.func 224) #[.string f0, .string f1] sim gl rfl ⟨_, _, rfl, ⟨f0, rfl, hf0⟩, _, _, rfl, ⟨f1, rfl, hf1⟩, rfl⟩ with ⟨f, hf, hh⟩ | ⟨l, F', tmps, qs, bd, e, _⟩
 case inr => cases e
 cases hf
 have he := Ajb Proofs.Tryz.func224 rfl (by kernel_rfl) #[.string f0, .string f1] w
 rcases hh with ⟨v, w', μ', av, h', h1, _⟩ | ⟨_, h2⟩
 · rw [he] at h1; cases h1
 · refine (Proofs.Tryz.Bbc (Q := fun a w' => ∃ μ' p h', Sim μ' h' w' ∧ Cl μ h w μ' h' w' ∧ VR μ' (.ptr p 0) (.pointer (some a)) ∧ k (.iface 306 (.ptr p 0)) h') f0 f1 base bits w (h2.mono ?_)).mono ?_
   · rintro e w' ⟨v, μ', av, h', rfl, h3, h4, h5, p, rfl, h6⟩
     have h5' := h5
     obtain ⟨l, hl, rfl⟩ := h5
     exact ⟨_, rfl, μ', p, h', h3, h4, h5', h6⟩
   · rintro e w' ⟨a, rfl, μ', p, h', h3, h4, h5, h6⟩
     exact ⟨_, μ', .iface 306 (.ptr p 0), h', rfl, h3, h4, ⟨_, rfl, h5⟩, h6⟩
end Go.Den
