/-
  A part of the proof: DenPe, DenPf, DenPg, DenK, DenL, DenN, DenH, DenH2.
-/
import Derived.Test.YtdpnnajfmkpfjaaGreatDoorDenD
import Derived.Calls
import Derived.Test.YtdpnnajfmkpfjaaGreatDoorDenA
import Derived.Laws.Externs
import Derived.Below
import Derived.ProofKit
import Derived.WalkKit
import Derived.Lay
import Derived.MakeChecks
import Derived.SevenTiedAt
/-
  Code that is cut at marked places is sound; so are functions.
-/
namespace Go.Den
open Go.RowKit

section
variable {P : Program} {Q : Exit → Act → World → Prop} {a : Act} {w : World}
def LoopWp (P : Program) (c : Code) (Q : Exit → Act → World → Prop) (a : Act) (w : World) : Prop :=
  ∀ (b : Frame) (k : List Item) (cs : List Frame), ∃ e a' w', Q e a' w' ∧ Arrives P (lone (b.at a (.code c :: .inLoop c :: k)) cs w) b k cs e a' w'
def CWp (P : Program) (c : Code) (Q : Exit → Act → World → Prop) (a : Act) (w : World) : Prop := match c with
  | .loop c => LoopWp P c Q a w
  | c => c.wp P Q a w
theorem LoopWp.wp {c : Code} (h : LoopWp P c Q a w) : (Code.loop c).wp P Q a w := by
  intro b k cs
  obtain ⟨e, a', w', hq, harr⟩ := h b k cs
  exact ⟨e, a', w', hq, .of_steps (.one step_loop) harr⟩
theorem CWp.wp {c : Code} (h : CWp P c Q a w) : c.wp P Q a w := by
  cases c <;> first | exact h | exact LoopWp.wp h
theorem LoopWp.of {c : Code} (h : c.wp P (Exit.then (LoopWp P c Q) Q) a w) : LoopWp P c Q a w := by
  intro b k cs
  obtain ⟨e, a₁, w₁, hq, harr⟩ := h b (.inLoop c :: k) cs
  cases e with
  | normal =>
    obtain ⟨e₂, a₂, w₂, hq₂, harr₂⟩ := hq b k cs
    exact ⟨e₂, a₂, w₂, hq₂, .of_steps (Steps.trans harr (.one step_inLoop)) harr₂⟩
  | exit id => exact ⟨_, a₁, w₁, hq, .pass (x := .inLoop c) rfl (fun _ _ => .inl (by simp)) harr⟩
  | goto l => exact ⟨_, a₁, w₁, hq, .pass (x := .inLoop c) rfl (fun _ _ => .inl (by simp)) harr⟩
  | ret => exact ⟨_, a₁, w₁, hq, .pass (x := .inLoop c) rfl (fun _ _ => .inl (by simp)) harr⟩
  | panic ch => exact ⟨_, a₁, w₁, hq, .pass (x := .inLoop c) rfl (fun _ _ => .inl (by simp)) harr⟩
  | outgrown => exact ⟨_, a₁, w₁, hq, .pass (x := .inLoop c) rfl (fun _ _ => .inl (by simp)) harr⟩
def ScopeWp (P : Program) (body c : Code) (Q : Exit → Act → World → Prop) (a : Act) (w : World) : Prop :=
  ∀ (b : Frame) (k : List Item) (cs : List Frame), ∃ e a' w', Q e a' w' ∧ Arrives P (lone (b.at a (.code c :: .inScope body :: k)) cs w) b k cs e a' w'
def Exit.inScope (P : Program) (body : Code) (Q : Exit → Act → World → Prop) : Exit → Act → World → Prop
  | .goto l, a, w => match findLabel body l with
    | some rest => ScopeWp P body rest Q a w
    | none => Q (.goto l) a w
  | e, a, w => Q e a w
theorem ScopeWp.of {body c : Code} (h : c.wp P (Exit.inScope P body Q) a w) : ScopeWp P body c Q a w := by
  intro b k cs
  obtain ⟨e, a₁, w₁, hq, harr⟩ := h b (.inScope body :: k) cs
  cases e with
  | normal => exact ⟨.normal, a₁, w₁, hq, Steps.trans harr (.one step_inScope)⟩
  | exit id => exact ⟨.exit id, a₁, w₁, hq, fun k' hk => harr k' (by simp [exitTo, hk])⟩
  | goto l =>
    simp only [Exit.inScope] at hq
    cases hf : findLabel body l with
    | none =>
      rw [hf] at hq
      exact ⟨.goto l, a₁, w₁, hq, fun k' hk => harr k' (by simp [gotoIn, hf, hk])⟩
    | some rest =>
      rw [hf] at hq
      obtain ⟨e₂, a₂, w₂, hq₂, harr₂⟩ := hq b k cs
      exact ⟨e₂, a₂, w₂, hq₂, .of_steps (harr _ (by simp [gotoIn, hf])) harr₂⟩
  | ret => exact ⟨_, a₁, w₁, hq, harr⟩
  | panic ch => exact ⟨_, a₁, w₁, hq, harr⟩
  | outgrown => exact ⟨_, a₁, w₁, hq, harr⟩
theorem ScopeWp.wp {c : Code} (h : ScopeWp P c c Q a w) : (Code.scope c).wp P Q a w := by
  intro b k cs
  obtain ⟨e, a', w', hq, harr⟩ := h b k cs
  exact ⟨e, a', w', hq, .of_steps (.one step_scope) harr⟩
end
theorem wp_weaken {P : Program} {c : Code} {Q Q' : Exit → Act → World → Prop} {a : Act} {w : World} (h : c.wp P Q a w) (hq : ∀ e a w, Q e a w → Q' e a w) : c.wp P Q' a w := by
  intro b k cs
  obtain ⟨e, a', w', h1, h2⟩ := h b k cs
  exact ⟨e, a', w', hq _ _ _ h1, h2⟩
def exitOf (x : AX) : Exit := match x with
  | .normal => .normal
  | .exit id => .exit id
  | .goto l => .goto l
  | .ret => .ret

abbrev QT := Exit → Act → World → Prop
section
variable {P : Program} {E : Env} {pls : Plans} {N G : Nat}
noncomputable def okReg (P : Program) (E : Env) (pls : Plans) (N G : Nat) (id : Nat) (ops : List Oper) (d : Bool) : Bool := Bool.rec (Option.rec (Option.rec true (fun its => okIts P E N G ops its none [] []) (itsOf ops)) (fun _ => true) (planAt pls id)) (Option.rec true (fun pl => List.rec true (fun _ _ _ => okDraw P E N G ops pl) pl) (planAt pls id)) d
noncomputable def okCode (P : Program) (E : Env) (pls : Plans) (N G : Nat) (c : Code) : Bool := Code.rec (motive := fun _ => Bool)
  true (fun id ops d => okReg P E pls N G id ops.toList d) (fun _ _ x y => band x y) (fun c _ _ x y => band (okOpnd G c) (band x y)) (fun _ _ x => x) (fun _ x => x)
  (fun _ _ _ _ _ _ => true) (fun _ => true) (fun _ x => x) (fun _ => true) (fun _ => true) true (fun _ => true) c
theorem okCode_findLabel {l : Nat} : ∀ {c r : Code}, okCode P E pls N G c = true → findLabel c l = some r → okCode P E pls N G r = true
  | .seq x y, r, h, hf => by
    obtain ⟨h1, h2⟩ := band_inv (show band (okCode P E pls N G x) (okCode P E pls N G y) = true from h)
    unfold findLabel at hf
    cases hx : findLabel x l with
    | some rest =>
      rw [hx] at hf
      cases hf
      have := okCode_findLabel h1 hx
      show band (okCode P E pls N G rest) (okCode P E pls N G y) = true
      rw [this, h2]; rfl
    | none => rw [hx] at hf; exact okCode_findLabel h2 hf
  | .label l', r, h, hf => by
    unfold findLabel at hf
    split at hf
    · cases hf; rfl
    · cases hf
  | .skip, r, h, hf => by cases hf
  | .region .., r, h, hf => by cases hf
  | .cond .., r, h, hf => by cases hf
  | .block .., r, h, hf => by cases hf
  | .loop .., r, h, hf => by cases hf
  | .rangeFunc .., r, h, hf => by cases hf
  | .exit .., r, h, hf => by cases hf
  | .scope .., r, h, hf => by cases hf
  | .goto .., r, h, hf => by cases hf
  | .ret, r, h, hf => by cases hf
  | .refuse .., r, h, hf => by cases hf

/-- the code at a place, and what is wanted behind it -/
def semL (P : Program) (c : Code) (Q : QT) : Option (Code × QT) := match c with
  | .seq a b => some (a, Exit.then (CWp P b Q) Q)
  | .cond _ a _ => some (a, Q)
  | .block id a => some (a, Exit.inBlock id Q)
  | .loop a => some (a, Exit.then (LoopWp P a Q) Q)
  | .scope a => some (a, Exit.inScope P a Q)
  | _ => none
def semR (c : Code) (Q : QT) : Option (Code × QT) := match c with
  | .seq _ b => some (b, Q)
  | .cond _ _ b => some (b, Q)
  | _ => none
def semLab (P : Program) (n : Nat) (c : Code) (Q : QT) : Option (Code × QT) := match c with
  | .scope a => match findLabel a n with
    | some r => some (r, Exit.inScope P a Q)
    | none => none
  | _ => none
def semA (P : Program) (c0 : Code) (Q0 : QT) : Pos → Option (Code × QT)
  | .root => some (c0, Q0)
  | .l p => match semA P c0 Q0 p with
    | some q => semL P q.1 q.2
    | none => none
  | .r p => match semA P c0 Q0 p with
    | some q => semR q.1 q.2
    | none => none
  | .lab p n => match semA P c0 Q0 p with
    | some q => semLab P n q.1 q.2
    | none => none
theorem okCode_sem {c0 : Code} {Q0 : QT} (h0 : okCode P E pls N G c0 = true) : ∀ {p : Pos} {c : Code} {Q : QT}, semA P c0 Q0 p = some (c, Q) → okCode P E pls N G c = true
  | .root, c, Q, h => by cases h; exact h0
  | .l p, c, Q, h => by
    simp only [semA] at h
    cases hp : semA P c0 Q0 p with
    | none => rw [hp] at h; cases h
    | some q =>
      rw [hp] at h
      obtain ⟨c', Q'⟩ := q
      have hc := okCode_sem h0 hp
      cases c' <;> simp only [semL] at h <;> cases h
      · exact (band_inv hc).1
      · exact (band_inv (band_inv hc).2).1
      · exact hc
      · exact hc
      · exact hc
  | .r p, c, Q, h => by
    simp only [semA] at h
    cases hp : semA P c0 Q0 p with
    | none => rw [hp] at h; cases h
    | some q =>
      rw [hp] at h
      obtain ⟨c', Q'⟩ := q
      have hc := okCode_sem h0 hp
      cases c' <;> simp only [semR] at h <;> cases h
      · exact (band_inv hc).2
      · exact (band_inv (band_inv hc).2).2
  | .lab p n, c, Q, h => by
    simp only [semA] at h
    cases hp : semA P c0 Q0 p with
    | none => rw [hp] at h; cases h
    | some q =>
      rw [hp] at h
      obtain ⟨c', Q'⟩ := q
      have hc := okCode_sem h0 hp
      cases c' <;> simp only [semLab] at h <;> try cases h
      rename_i a
      cases hf : findLabel a n with
      | none => rw [hf] at h; cases h
      | some r => rw [hf] at h; cases h; exact okCode_findLabel (show okCode P E pls N G a = true from hc) hf

theorem Pos.beq_eq : ∀ {p q : Pos}, Pos.beq p q = true → p = q
  | .root, q, h => by cases q <;> first | rfl | cases h
  | .l p, q, h => by cases q <;> first | (rw [Pos.beq_eq (show Pos.beq p _ = true from h)]) | cases h
  | .r p, q, h => by cases q <;> first | (rw [Pos.beq_eq (show Pos.beq p _ = true from h)]) | cases h
  | .lab p n, q, h => by
    cases q <;> try cases h
    rename_i q m
    obtain ⟨h1, h2⟩ := band_inv (show band (Nat.beq n m) (Pos.beq p q) = true from h)
    rw [beq_inv h1, Pos.beq_eq h2]
theorem cutAt_mem {cs : Cuts} {p : Pos} {L : Nat} (h : cutAt cs p = some L) : (p, L) ∈ cs := by
  induction cs with
  | nil => cases h
  | cons c cs ih =>
    have h : (Bool.rec (cutAt cs p) (some c.2) (Pos.beq c.1 p) : Option Nat) = some L := h
    cases hb : Pos.beq c.1 p with
    | true =>
      rw [hb] at h
      have h : c.2 = L := Option.some.inj h
      have := Pos.beq_eq hb
      subst h; subst this
      simp
    | false => rw [hb] at h; exact List.mem_cons_of_mem _ (ih h)

variable {call : Caller Prop FT} {cuts : Cuts} {J : Jump} {c0 : Code} {Q0 : QT} {μ0 : Mu} {h0 : H} {w0 : World}
/-- a state that the function's run may come to -/
structure At (G N : Nat) (μ0 : Mu) (h0 : H) (w0 : World) (μ : Mu) (f : FT) (h : H) (a : Act) (w : World) : Prop where
  fr : FR μ N f a
  sim : Sim μ h w
  ext : Ext' μ0 h0 w0 μ h w
  gl : Globs μ G
def KOk (G N : Nat) (μ0 : Mu) (h0 : H) (w0 : World) (K : KX') (Q : QT) : Prop := ∀ x μ f h a w, At G N μ0 h0 w0 μ f h a w → K x f h → Q (exitOf x) a w
def JOk (P : Program) (cuts : Cuts) (c0 : Code) (Q0 : QT) (G N : Nat) (μ0 : Mu) (h0 : H) (w0 : World) (J : Jump) : Prop :=
  ∀ p L c Q, (p, L) ∈ cuts → semA P c0 Q0 p = some (c, Q) → ∀ μ f h a w, At G N μ0 h0 w0 μ f h a w → J L f h → CWp P c Q a w
theorem enter_inv {p : Pos} {f : FT} {h : H} {A : Prop} (hg : enter cuts J p f h A) : (∃ L, (p, L) ∈ cuts ∧ J L f h) ∨ A := by
  unfold enter at hg
  cases hc : cutAt cuts p with
  | none => rw [hc] at hg; exact .inr hg
  | some L => rw [hc] at hg; exact .inl ⟨L, cutAt_mem hc, hg⟩
theorem jump_ok (hj : JOk P cuts c0 Q0 G N μ0 h0 w0 J) {p : Pos} {c : Code} {Q : QT} (hs : semA P c0 Q0 p = some (c, Q)) {μ : Mu} {f : FT} {h : H} {a : Act} {w : World} (s : At G N μ0 h0 w0 μ f h a w) (hg : enter cuts J p f h False) : CWp P c Q a w := by
  rcases enter_inv hg with ⟨L, hm, hL⟩ | hF
  · exact hj p L c Q hm hs μ f h a w s hL
  · exact hF.elim
theorem loopA_ok {B : FT → H → Prop} {K : KX'} {c : Code} {Q : QT} (hb : ∀ μ f h a w, At G N μ0 h0 w0 μ f h a w → B f h → LoopWp P c Q a w) (kq : KOk G N μ0 h0 w0 K Q) : KOk G N μ0 h0 w0 (loopA B K) (Exit.then (LoopWp P c Q) Q) := by
  intro x μ f h a w s hg
  cases x with
  | normal => exact hb μ f h a w s hg
  | exit id => exact kq (.exit id) _ _ _ _ _ s hg
  | goto l => exact kq (.goto l) _ _ _ _ _ s hg
  | ret => exact kq .ret _ _ _ _ _ s hg
theorem seqA_ok {B : FT → H → KX' → Prop} {K : KX'} {c : Code} {Q : QT} (hb : ∀ μ f h a w, At G N μ0 h0 w0 μ f h a w → B f h K → CWp P c Q a w) (kq : KOk G N μ0 h0 w0 K Q) : KOk G N μ0 h0 w0 (seqA B K) (Exit.then (CWp P c Q) Q) := by
  intro x μ f h a w s hg
  cases x with
  | normal => exact hb μ f h a w s hg
  | exit id => exact kq (.exit id) _ _ _ _ _ s hg
  | goto l => exact kq (.goto l) _ _ _ _ _ s hg
  | ret => exact kq .ret _ _ _ _ _ s hg
theorem blockA_ok {id : Nat} {K : KX'} {Q : QT} (kq : KOk G N μ0 h0 w0 K Q) : KOk G N μ0 h0 w0 (blockA id K) (Exit.inBlock id Q) := by
  intro x μ f h a w s hg
  cases x with
  | normal => exact kq .normal _ _ _ _ _ s hg
  | exit j =>
    have hg : (Bool.rec (K (.exit j) f h) (K .normal f h) (Nat.beq j id) : Prop) := hg
    show (if j = id then Q .normal a w else Q (.exit j) a w)
    cases hj : Nat.beq j id with
    | true => rw [hj] at hg; rw [if_pos (beq_inv hj)]; exact kq .normal _ _ _ _ _ s hg
    | false =>
      rw [hj] at hg
      rw [if_neg (fun e => by subst e; rw [Nat.beq_refl] at hj; cases hj)]
      exact kq (.exit j) _ _ _ _ _ s hg
  | goto l => exact kq (.goto l) _ _ _ _ _ s hg
  | ret => exact kq .ret _ _ _ _ _ s hg
theorem scopeA_ok {c : Code} {B : Nat → FT → H → Prop} {K : KX'} {Q : QT} (hb : ∀ l r, findLabel c l = some r → ∀ μ f h a w, At G N μ0 h0 w0 μ f h a w → B l f h → CWp P r (Exit.inScope P c Q) a w) (kq : KOk G N μ0 h0 w0 K Q) : KOk G N μ0 h0 w0 (scopeA c B K) (Exit.inScope P c Q) := by
  intro x μ f h a w s hg
  cases x with
  | normal => exact kq .normal _ _ _ _ _ s hg
  | exit j => exact kq (.exit j) _ _ _ _ _ s hg
  | ret => exact kq .ret _ _ _ _ _ s hg
  | goto l =>
    have hg : (Option.rec (K (.goto l) f h) (fun _ => B l f h) (findLabel c l) : Prop) := hg
    show Exit.inScope P c Q (.goto l) a w
    simp only [Exit.inScope]
    cases hf : findLabel c l with
    | none => rw [hf] at hg; exact kq (.goto l) _ _ _ _ _ s hg
    | some r => rw [hf] at hg; exact ScopeWp.of (CWp.wp (hb l r hf _ _ _ _ _ s hg))
section
variable (hm : P.follows .mixedOrders = true) (ok : EnvOk P E) (hcall : CallOk P (CP E) G (fun p => p) call) (hj : JOk P cuts c0 Q0 G N μ0 h0 w0 J) (hk : okCode P E pls N G c0 = true)
include hm ok hcall
theorem reg_ok {ops : Array Oper} {d : Bool} {id : Nat} {Q : QT} {μ : Mu} {f : FT} {h : H} {a : Act} {w : World} {K : KX'} (hkk : okReg P E pls N G id ops.toList d = true) (s : At G N μ0 h0 w0 μ f h a w) (hg : regA E call pls id ops.toList d f h (fun f h => K .normal f h)) (kq : KOk G N μ0 h0 w0 K Q) : (Code.region id ops d).wp P Q a w := by
  cases d with
  | true =>
    obtain ⟨pl, hpl, hg⟩ := oV_inv (show oV (planAt pls id) (fun pl => (List.rec False (fun _ _ _ => oV (drOf E ops.toList pl) (fun its => runDr E call its f h (fun f h => K .normal f h))) pl : Prop)) from hg)
    cases pl with
    | nil => exact hg.elim
    | cons p0 pl =>
      have hkk : okDraw P E N G ops.toList (p0 :: pl) = true := by
        have hkk : (Option.rec true (fun pl => List.rec true (fun _ _ _ => okDraw P E N G ops.toList pl) pl) (planAt pls id) : Bool) = true := hkk
        rw [hpl] at hkk; exact hkk
      exact draw_ok hm ok hcall hkk s.fr s.sim s.gl hg fun μ' f' h' a' w' fr' s' x' gl' hK => kq .normal _ _ _ _ _ ⟨fr', s', s.ext.trans x', gl'⟩ hK
  | false =>
    have hpl : planAt pls id = none := by
      cases hp : planAt pls id with
      | none => rfl
      | some q =>
        have hg : (Option.rec (oV (itsOf ops.toList) (fun its => runIts E call its f h (fun f h => K .normal f h))) (fun _ => False) (planAt pls id) : Prop) := hg
        rw [hp] at hg; exact hg.elim
    have hg : (Option.rec (oV (itsOf ops.toList) (fun its => runIts E call its f h (fun f h => K .normal f h))) (fun _ => False) (planAt pls id) : Prop) := hg
    rw [hpl] at hg
    obtain ⟨its, hi, hg⟩ := oV_inv (show oV (itsOf ops.toList) (fun its => runIts E call its f h (fun f h => K .normal f h)) from hg)
    have hkk : okIts P E N G ops.toList its none [] [] = true := by
      unfold okReg at hkk
      rw [hpl, hi] at hkk
      exact hkk
    have := its_ok (Q := Q) (rest := []) ok hcall its (gs := []) hkk s.fr s.sim s.gl (fun g hg => by simp at hg) hg ?_
    · rw [List.append_nil, itsOf_flat hi] at this
      exact wp_region_list this
    · intro μ' f' h' a' w' fr' s' x' _ _ hK
      exact kq .normal _ _ _ _ _ ⟨fr', s', s.ext.trans x', s.gl.mono x'.le⟩ hK
include hj hk
theorem runA_ok : ∀ (c : Code) (p : Pos) (Q : QT), semA P c0 Q0 p = some (c, Q) → ∀ μ f h a w K, At G N μ0 h0 w0 μ f h a w → runA E call pls cuts J c p f h K → KOk G N μ0 h0 w0 K Q → CWp P c Q a w
  | .skip, p, Q, hs, μ, f, h, a, w, K, s, hg, kq => by
    rcases enter_inv hg with ⟨L, hm, hL⟩ | hg
    · exact hj p L _ Q hm hs μ f h a w s hL
    · exact wp_skip (kq .normal _ _ _ _ _ s hg)
  | .label l, p, Q, hs, μ, f, h, a, w, K, s, hg, kq => by
    rcases enter_inv hg with ⟨L, hm, hL⟩ | hg
    · exact hj p L _ Q hm hs μ f h a w s hL
    · exact wp_label (kq .normal _ _ _ _ _ s hg)
  | .exit id, p, Q, hs, μ, f, h, a, w, K, s, hg, kq => by
    rcases enter_inv hg with ⟨L, hm, hL⟩ | hg
    · exact hj p L _ Q hm hs μ f h a w s hL
    · exact wp_exit (kq (.exit id) _ _ _ _ _ s hg)
  | .goto l, p, Q, hs, μ, f, h, a, w, K, s, hg, kq => by
    rcases enter_inv hg with ⟨L, hm, hL⟩ | hg
    · exact hj p L _ Q hm hs μ f h a w s hL
    · exact wp_goto (kq (.goto l) _ _ _ _ _ s hg)
  | .ret, p, Q, hs, μ, f, h, a, w, K, s, hg, kq => by
    rcases enter_inv hg with ⟨L, hm, hL⟩ | hg
    · exact hj p L _ Q hm hs μ f h a w s hL
    · exact wp_ret (kq .ret _ _ _ _ _ s hg)
  | .refuse why, p, Q, hs, μ, f, h, a, w, K, s, hg, kq => hg.elim
  | .rangeFunc .., p, Q, hs, μ, f, h, a, w, K, s, hg, kq => hg.elim
  | .region id ops d, p, Q, hs, μ, f, h, a, w, K, s, hg, kq => by
    rcases enter_inv hg with ⟨L, hm, hL⟩ | hg
    · exact hj p L _ Q hm hs μ f h a w s hL
    · exact reg_ok hm ok hcall (okCode_sem hk hs) s hg kq
  | .seq x y, p, Q, hs, μ, f, h, a, w, K, s, hg, kq => by
    rcases enter_inv hg with ⟨L, hm, hL⟩ | hg
    · exact hj p L _ Q hm hs μ f h a w s hL
    · have hl : semA P c0 Q0 (.l p) = some (x, Exit.then (CWp P y Q) Q) := by simp only [semA, hs]; rfl
      have hr : semA P c0 Q0 (.r p) = some (y, Q) := by simp only [semA, hs]; rfl
      have := CWp.wp (runA_ok x (.l p) _ hl μ f h a w _ s hg (seqA_ok (c := y) (fun μ f h a w s hg => runA_ok y (.r p) Q hr μ f h a w K s hg kq) kq))
      exact wp_seq (wp_weaken this fun e a w he => by cases e <;> first | exact CWp.wp he | exact he)
  | .cond c x y, p, Q, hs, μ, f, h, a, w, K, s, hg, kq => by
    rcases enter_inv hg with ⟨L, hm, hL⟩ | hg
    · exact hj p L _ Q hm hs μ f h a w s hL
    · have hl : semA P c0 Q0 (.l p) = some (x, Q) := by simp only [semA, hs]; rfl
      have hr : semA P c0 Q0 (.r p) = some (y, Q) := by simp only [semA, hs]; rfl
      have hkc := (band_inv (show band (okOpnd G c) _ = true from okCode_sem hk hs)).1
      obtain ⟨b, hb, hg⟩ := asB_inv hg
      have hv := s.fr.eval (E := E) s.gl hkc
      rw [hb] at hv
      refine wp_cond (t := b) hv ?_
      cases b with
      | true => exact CWp.wp (runA_ok x (.l p) Q hl μ f h a w K s hg kq)
      | false => exact CWp.wp (runA_ok y (.r p) Q hr μ f h a w K s hg kq)
  | .block id x, p, Q, hs, μ, f, h, a, w, K, s, hg, kq => by
    rcases enter_inv hg with ⟨L, hm, hL⟩ | hg
    · exact hj p L _ Q hm hs μ f h a w s hL
    · have hl : semA P c0 Q0 (.l p) = some (x, Exit.inBlock id Q) := by simp only [semA, hs]; rfl
      exact wp_block (CWp.wp (runA_ok x (.l p) _ hl μ f h a w _ s hg (blockA_ok kq)))
  | .loop x, p, Q, hs, μ, f, h, a, w, K, s, hg, kq => by
    rcases enter_inv hg with ⟨L, hm, hL⟩ | hg
    · exact hj p L _ Q hm hs μ f h a w s hL
    · have hl : semA P c0 Q0 (.l p) = some (x, Exit.then (LoopWp P x Q) Q) := by simp only [semA, hs]; rfl
      exact LoopWp.of (CWp.wp (runA_ok x (.l p) _ hl μ f h a w _ s hg (loopA_ok (fun μ f h a w s hg => jump_ok hj hs s hg) kq)))
  | .scope x, p, Q, hs, μ, f, h, a, w, K, s, hg, kq => by
    rcases enter_inv hg with ⟨L, hm, hL⟩ | hg
    · exact hj p L _ Q hm hs μ f h a w s hL
    · have hl : semA P c0 Q0 (.l p) = some (x, Exit.inScope P x Q) := by simp only [semA, hs]; rfl
      refine ScopeWp.wp (ScopeWp.of (CWp.wp (runA_ok x (.l p) _ hl μ f h a w _ s hg (scopeA_ok (fun l r hf μ f h a w s hg => ?_) kq))))
      have hll : semA P c0 Q0 (.lab p l) = some (r, Exit.inScope P x Q) := by simp only [semA, hs, semLab, hf]
      exact jump_ok hj hll s hg
end
end
end Go.Den
/-
  Functions, and those without a body.
-/
namespace Go.Den
open Go.RowKit

section
variable {P : Program} {N G : Nat}
def resM (tmps : Array Value) (r : ResultVar) : Sem Value := match r with
  | .tmp t => pure (tmps.getD t undef)
  | .cell a t => do loadVar t (← asAddr (tmps.getD a undef))
def wrapV (vs : List Value) : Value := match vs with
  | [v] => v
  | vs => .tuple vs.toArray
theorem run_results {fn : Func} {tmps : Array Value} {w : World} {vs : List Value} (h : (fn.results.toList.mapM (resM tmps)).run P w = .ok vs w) :
    (results fn tmps).run P w = .ok (wrapV vs) w := by
  unfold results
  have h' : (fn.results.mapM (resM tmps)).run P w = .ok vs.toArray w := by
    rw [Array.mapM_eq_mapM_toList, map_eq_pure_bind, run_bind_ok h]; rfl
  refine Eq.trans (run_bind_ok (a := vs.toArray) (w' := w) h') ?_
  match vs with
  | [] => rfl
  | [v] => rfl
  | v :: u :: vs => 
    rw [dif_neg (by simp)]; rfl
end
section
variable {P : Program}
/-- functions without a body, as the model has them -/
def extM (e : Ext) (args : Array Value) : Sem Value := match e with
  | .noEscape => Extern.AbiNoEscape.same args
  | .nothing => pure (.tuple #[])
  | .address => match args[0]? with
    | some (Value.pointer (some _)) => pure (.tuple #[])
    | _ => stuck "internal/race: an address expected"
  | .indexByte => Extern.BytealgIndexByte.indexByte args
  | .count => Extern.BytealgCount.count args
  | .clone => Extern.MapsClone.clone args
theorem toNat_ofNat8 {n : Nat} (h : n ≤ 255) : (n.toUInt8).toNat = n := by
  show (UInt8.ofNat n).toNat = n
  simp; omega
theorem beq8 (x : UInt8) {n : Nat} (h : n ≤ 255) : Nat.beq x.toNat n = (x == n.toUInt8) := by
  rw [natbeq, Bool.eq_iff_iff]
  simp only [decide_eq_true_eq, beq_iff_eq]
  constructor
  · intro e; apply UInt8.toNat_inj.1; rw [toNat_ofNat8 h, e]
  · intro e; rw [e, toNat_ofNat8 h]
theorem enc_split (x : UInt8) (l : List UInt8) : Nat.mod (enc (x :: l)) 256 = x.toNat ∧ Nat.div (enc (x :: l)) 256 = enc l := by
  have hx := x.toNat_lt
  constructor
  · show enc (x :: l) % 256 = _; simp only [enc]; omega
  · show enc (x :: l) / 256 = _; simp only [enc]; omega
theorem idxByte_eq {b : Nat} (hb : b ≤ 255) : ∀ (l : List UInt8) (i : Nat), idxByte b l.length (enc l) i = match l.findIdx? (· == b.toUInt8) with
    | some j => ((i + j : Nat) : Int)
    | none => -1
  | [], i => rfl
  | x :: l, i => by
    obtain ⟨h1, h2⟩ := enc_split x l
    show (Bool.rec (idxByte b l.length (Nat.div (enc (x :: l)) 256) (Nat.add i 1)) (.ofNat i) (Nat.beq (Nat.mod (enc (x :: l)) 256) b) : Int) = _
    rw [h1, h2, beq8 x hb, List.findIdx?_cons]
    cases hx : x == b.toUInt8 with
    | true => simp
    | false =>
      simp only [Bool.false_eq_true, if_false]
      rw [idxByte_eq hb l (Nat.add i 1)]
      cases l.findIdx? (· == b.toUInt8) with
      | none => rfl
      | some j => simp only [Option.map_some]; show ((i + 1 + j : Nat) : Int) = _; congr 1; omega
theorem cntByte_eq {b : Nat} (hb : b ≤ 255) : ∀ (l : List UInt8) (acc : Nat), cntByte b l.length (enc l) acc = l.foldl (fun n x => if x == b.toUInt8 then n + 1 else n) (acc : Int)
  | [], acc => rfl
  | x :: l, acc => by
    obtain ⟨h1, h2⟩ := enc_split x l
    show (Bool.rec (cntByte b l.length (Nat.div (enc (x :: l)) 256) acc) (cntByte b l.length (Nat.div (enc (x :: l)) 256) (Nat.add acc 1)) (Nat.beq (Nat.mod (enc (x :: l)) 256) b) : Int) = _
    rw [h1, h2, beq8 x hb, List.foldl_cons]
    cases hx : x == b.toUInt8 with
    | true => exact cntByte_eq hb l (acc + 1)
    | false => exact cntByte_eq hb l acc
theorem find_range (s : ByteArray) (c : UInt8) : (List.range s.size).find? (fun i => s[i]! == c) = s.data.toList.findIdx? (· == c) := by
  have key : ∀ (l : List UInt8) (f : Nat → UInt8) (k : Nat), (∀ (i : Nat) (h : i < l.length), f (k + i) = l[i]) → (List.range' k l.length).find? (fun i => f i == c) = (l.findIdx? (· == c)).map (k + ·) := by
    intro l
    induction l with
    | nil => intro f k _; rfl
    | cons x l ih =>
      intro f k hf
      have h0 : f k = x := hf 0 (by simp)
      rw [List.length_cons, List.range'_succ, List.find?_cons, List.findIdx?_cons, h0]
      cases hx : x == c with
      | true => simp
      | false =>
        simp only [Bool.false_eq_true, if_false]
        rw [ih f (k + 1) (fun i h => by have := hf (i + 1) (by simpa using h); rw [show k + 1 + i = k + (i + 1) from by omega, this]; rfl)]
        cases l.findIdx? (· == c) with
        | none => rfl
        | some j => simp only [Option.map_some]; congr 1; omega
  have := key s.data.toList (fun i => s[i]!) 0 (fun i h => by
    have h' : i < s.size := h
    rw [Nat.zero_add]
    show s[i]! = _
    rw [getElem!_pos s i h']; rfl)
  rw [List.range_eq_range']
  refine (this.trans ?_)
  cases s.data.toList.findIdx? (· == c) <;> simp
theorem foldl_bytes (s : ByteArray) (c : UInt8) (i : Int) : s.foldl (fun n x => if x == c then n + 1 else n) i = s.data.toList.foldl (fun n x => if x == c then n + 1 else n) i := by
  have key : ∀ (n j : Nat) (b : Int) (h : s.size ≤ s.size), n + j = s.size → (ByteArray.foldlM.loop (fun (x1 : Int) x2 => (pure (if x2 == c then x1 + 1 else x1) : _root_.Id Int)) s s.size h n j b : _root_.Id Int).run = (s.data.toList.drop j).foldl (fun n x => if x == c then n + 1 else n) b := by
    intro n
    induction n with
    | zero =>
      intro j b h hj
      unfold ByteArray.foldlM.loop
      rw [dif_neg (by omega), List.drop_eq_nil_of_le (by show s.data.toList.length ≤ j; have : s.data.toList.length = s.size := rfl; omega)]
      rfl
    | succ n ih =>
      intro j b h hj
      unfold ByteArray.foldlM.loop
      have hlt : j < s.size := by omega
      rw [dif_pos hlt, List.drop_eq_getElem_cons (show j < s.data.toList.length from hlt), List.foldl_cons]
      exact ih (j + 1) _ h (by omega)
  have := key s.size 0 i (Nat.le_refl _) (by omega)
  rw [List.drop_zero] at this
  rw [← this]
  unfold ByteArray.foldl ByteArray.foldlM
  rw [dif_pos (Nat.le_refl _)]
  rfl
theorem args1 {μ : Mu} {args : List AV} {vs : Array Value} (hv : VRs μ args vs.toList) (hn : args.length = 1) : ∃ x v, args = [x] ∧ vs = #[v] ∧ VR μ x v := by
  match args, hv with
  | [x], hv =>
    obtain ⟨v, l, e, h1, h2⟩ := hv
    cases (show l = [] from h2)
    exact ⟨x, v, rfl, by apply Array.ext'; simpa using e, h1⟩
theorem args2 {μ : Mu} {args : List AV} {vs : Array Value} (hv : VRs μ args vs.toList) (hn : args.length = 2) : ∃ x y v u, args = [x, y] ∧ vs = #[v, u] ∧ VR μ x v ∧ VR μ y u := by
  match args, hv with
  | [x, y], hv =>
    obtain ⟨v, l, e, h1, u, l', e', h2, h3⟩ := hv
    cases (show l' = [] from h3)
    subst e'
    exact ⟨x, y, v, u, rfl, by apply Array.ext'; simpa using e, h1, h2⟩
theorem extA_ok {T : Type} {μ : Mu} {h : Hp T} {w : World} (s : Sim μ h w) {e : Ext} {args : List AV} {vargs : Array Value} (hv : VRs μ args vargs.toList) (hn : ∀ n, extN e = some n → args.length = n) {r : AV × Hp T} (hr : extA e args h = some r) :
    Does P μ h w (extM e vargs) r.1 r.2 := by
  have str1 : ∀ (g : Nat → Nat → Nat → Int), exStr1 g (arg0 args) (arg1 args) h = some r → args.length = 2 → ∃ str b l c, vargs = #[.string str, .int .u8 (Int.ofNat b)] ∧ StrIs l c str ∧ b ≤ 255 ∧ r = (.int .i64 (g l c b), h) := by
    intro g hr hn
    obtain ⟨x, y, v, u, rfl, rfl, h1, h2⟩ := args2 hv hn
    simp only [arg0, arg1] at hr
    cases x <;> simp only [exStr1] at hr <;> try cases hr
    obtain ⟨b, hb, hr⟩ := opt_inv hr
    obtain ⟨hle, hr⟩ := bool_inv hr
    cases hr
    have := byteOfCell_inv hb
    subst this
    obtain ⟨str, rfl, hstr⟩ := h1
    have h2 : u = .int .u8 (Int.ofNat b) := h2
    subst h2
    exact ⟨str, b, _, _, rfl, hstr, ble_inv hle, rfl⟩
  cases e
  case noEscape =>
    obtain ⟨x, v, rfl, rfl, h1⟩ := args1 hv (hn 1 rfl)
    cases hr
    exact .here s rfl h1
  case nothing => cases hr; exact .here s (v := .tuple #[]) rfl (VR.undef μ)
  case address =>
    cases args with
    | nil => cases hr
    | cons x l =>
      obtain ⟨v, vs, e, h1, _⟩ := hv
      cases x <;> simp only [extA, arg0] at hr <;> cases hr
      obtain ⟨q, hq, rfl⟩ := h1
      refine .here s (v := .tuple #[]) ?_ (VR.undef μ)
      simp only [extM]
      rw [← Array.getElem?_toList, e]; rfl
  case indexByte =>
    obtain ⟨str, b, l, c, rfl, ⟨rfl, rfl⟩, hb, rfl⟩ := str1 _ hr (hn 2 rfl)
    have hi := idxByte_eq hb str.data.toList 0
    refine .here s (v := .int .i64 (idxByte b str.size (enc str.data.toList) 0)) ?_ rfl
    show (Extern.BytealgIndexByte.indexByte #[.string str, .int .u8 (Int.ofNat b)]).run P w = _
    have hdef : Extern.BytealgIndexByte.indexByte #[.string str, .int .u8 (Int.ofNat b)] = (match (List.range str.size).find? fun i => str[i]! == b.toUInt8 with
      | some i => pure (goInt i)
      | none => pure (goInt (-1))) := rfl
    rw [hdef, find_range]
    have hi' : idxByte b str.size (enc str.data.toList) 0 = _ := hi
    rw [hi']
    cases str.data.toList.findIdx? (· == b.toUInt8) with
    | none => rfl
    | some j => simp only [Nat.zero_add]; rfl
  case count =>
    obtain ⟨str, b, l, c, rfl, ⟨rfl, rfl⟩, hb, rfl⟩ := str1 _ hr (hn 2 rfl)
    have hi := cntByte_eq hb str.data.toList 0
    refine .here s (v := .int .i64 (cntByte b str.size (enc str.data.toList) 0)) ?_ rfl
    have hdef : extM .count #[.string str, .int .u8 (Int.ofNat b)] = pure (goInt (str.foldl (fun n x => if x == b.toUInt8 then n + 1 else n) ((0 : Nat) : Int))) := rfl
    have hi' : cntByte b str.size (enc str.data.toList) 0 = _ := hi
    rw [hdef, foldl_bytes, hi']; rfl
  case clone =>
    obtain ⟨x, v, rfl, rfl, h1⟩ := args1 hv (hn 1 rfl)
    have hr : exClone x h = some r := hr
    obtain ⟨t, b, rfl, hr2⟩ : ∃ t b, x = .iface t (.map b) ∧ exClone2 t (esOf (h.at b)) h = some r := by
      cases x with
      | iface t m => cases m with
        | map b => exact ⟨t, b, rfl, hr⟩
        | _ => cases hr
      | _ => cases hr
    obtain ⟨p, hp, hr3⟩ := opt_inv hr2
    clear hr hr2
    cases hr3
    obtain ⟨l, xs, hl, hblk, hes⟩ := s.mapAt (esOf_inv hp)
    obtain ⟨y, rfl, l', hl', rfl⟩ := h1
    rw [hl] at hl'; cases hl'
    obtain ⟨s1, x1⟩ := s.alloc (.map p.1 p.2) (.map xs p.2) 0 0 fun μ' hle => ⟨xs, alloc_new _ _, hes.mono hle⟩
    refine ⟨.iface t (.map (some w.heap.size)), _, _, ?_, s1, x1, ⟨_, rfl, _, Mu.set_same _ _ _, rfl⟩⟩
    have hdef : extM .clone #[.iface t (.map (some l.blk))] = (do
      let .map entries clock ← getObj l.blk | stuck "maps.clone: a map expected"
      pure (.iface t (.map (some (← newObj (.map entries clock)))))) := rfl
    rw [hdef]
    rw [run_bind_ok (run_getObj hblk (by intros; simp))]
    rfl
end
end Go.Den
/-
  A function that is cut into pieces does what its pieces do.
-/
namespace Go.Den
open Go.RowKit

section
variable {P : Program} {E : Env} {N G : Nat} {call : Caller Prop FT} {pls : Plans} {cuts : Cuts} {J : Jump} {c0 : Code} {Q0 : QT} {K0 : KX'} {μ0 : Mu} {h0 : H} {w0 : World}
section
variable (hm : P.follows .mixedOrders = true) (ok : EnvOk P E) (hcall : CallOk P (CP E) G (fun p => p) call) (hj : JOk P cuts c0 Q0 G N μ0 h0 w0 J) (hk : okCode P E pls N G c0 = true)
include hm ok hcall hj hk
theorem stepA_ok (c : Code) (p : Pos) (Q : QT) (hs : semA P c0 Q0 p = some (c, Q)) {μ : Mu} {f : FT} {h : H} {a : Act} {w : World} {K : KX'} (s : At G N μ0 h0 w0 μ f h a w) (hg : stepA E call pls cuts J c p f h K) (kq : KOk G N μ0 h0 w0 K Q) : CWp P c Q a w := by
  cases c with
  | skip => exact wp_skip (kq .normal _ _ _ _ _ s hg)
  | label l => exact wp_label (kq .normal _ _ _ _ _ s hg)
  | exit id => exact wp_exit (kq (.exit id) _ _ _ _ _ s hg)
  | goto l => exact wp_goto (kq (.goto l) _ _ _ _ _ s hg)
  | ret => exact wp_ret (kq .ret _ _ _ _ _ s hg)
  | refuse why => exact hg.elim
  | rangeFunc => exact hg.elim
  | region id ops d => exact reg_ok hm ok hcall (okCode_sem hk hs) s hg kq
  | seq x y =>
    have hl : semA P c0 Q0 (.l p) = some (x, Exit.then (CWp P y Q) Q) := by simp only [semA, hs]; rfl
    have hr : semA P c0 Q0 (.r p) = some (y, Q) := by simp only [semA, hs]; rfl
    have := CWp.wp (runA_ok hm ok hcall hj hk x (.l p) _ hl μ f h a w _ s hg (seqA_ok (c := y) (fun μ f h a w s hg => runA_ok hm ok hcall hj hk y (.r p) Q hr μ f h a w K s hg kq) kq))
    exact wp_seq (wp_weaken this fun e a w he => by cases e <;> first | exact CWp.wp he | exact he)
  | cond c x y =>
    have hl : semA P c0 Q0 (.l p) = some (x, Q) := by simp only [semA, hs]; rfl
    have hr : semA P c0 Q0 (.r p) = some (y, Q) := by simp only [semA, hs]; rfl
    have hkc := (band_inv (show band (okOpnd G c) _ = true from okCode_sem hk hs)).1
    obtain ⟨b, hb, hg⟩ := asB_inv hg
    have hv := s.fr.eval (E := E) s.gl hkc
    rw [hb] at hv
    refine wp_cond (t := b) hv ?_
    cases b with
    | true => exact CWp.wp (runA_ok hm ok hcall hj hk x (.l p) Q hl μ f h a w K s hg kq)
    | false => exact CWp.wp (runA_ok hm ok hcall hj hk y (.r p) Q hr μ f h a w K s hg kq)
  | block id x =>
    have hl : semA P c0 Q0 (.l p) = some (x, Exit.inBlock id Q) := by simp only [semA, hs]; rfl
    exact wp_block (CWp.wp (runA_ok hm ok hcall hj hk x (.l p) _ hl μ f h a w _ s hg (blockA_ok kq)))
  | loop x =>
    have hl : semA P c0 Q0 (.l p) = some (x, Exit.then (LoopWp P x Q) Q) := by simp only [semA, hs]; rfl
    exact LoopWp.of (CWp.wp (runA_ok hm ok hcall hj hk x (.l p) _ hl μ f h a w _ s hg (loopA_ok (fun μ f h a w s hg => jump_ok hj hs s hg) kq)))
  | scope x =>
    have hl : semA P c0 Q0 (.l p) = some (x, Exit.inScope P x Q) := by simp only [semA, hs]; rfl
    refine ScopeWp.wp (ScopeWp.of (CWp.wp (runA_ok hm ok hcall hj hk x (.l p) _ hl μ f h a w _ s hg (scopeA_ok (fun l r hf μ f h a w s hg => ?_) kq))))
    have hll : semA P c0 Q0 (.lab p l) = some (r, Exit.inScope P x Q) := by simp only [semA, hs, semLab, hf]
    exact jump_ok hj hll s hg
theorem contA_ok (k0 : KOk G N μ0 h0 w0 K0 Q0) : ∀ (p : Pos) {c c' : Code} {Q : QT} {K : KX'}, semA P c0 Q0 p = some (c, Q) → contA E call pls cuts J c0 K0 p = some (c', K) → c' = c ∧ KOk G N μ0 h0 w0 K Q
  | .root, c, c', Q, K, hs, hc => by cases hs; cases hc; exact ⟨rfl, k0⟩
  | .l p, c, c', Q, K, hs, hc => by
    simp only [semA] at hs
    have hc : (Option.rec none (fun q => ckL E call pls cuts J p q.1 q.2) (contA E call pls cuts J c0 K0 p) : CK) = some (c', K) := hc
    cases hsp : semA P c0 Q0 p with
    | none => rw [hsp] at hs; cases hs
    | some q =>
      rw [hsp] at hs
      obtain ⟨d, Qd⟩ := q
      cases hcp : contA E call pls cuts J c0 K0 p with
      | none => rw [hcp] at hc; cases hc
      | some z =>
        rw [hcp] at hc
        obtain ⟨d', Kd⟩ := z
        obtain ⟨rfl, kd⟩ := contA_ok k0 p hsp hcp
        cases d' <;> simp only [semL] at hs <;> try cases hs
        · rename_i x y
          cases hc
          have hr : semA P c0 Q0 (.r p) = some (y, Qd) := by simp only [semA, hsp]; rfl
          exact ⟨rfl, seqA_ok (c := y) (fun μ f h a w s hg => runA_ok hm ok hcall hj hk y (.r p) Qd hr μ f h a w Kd s hg kd) kd⟩
        · cases hc; exact ⟨rfl, kd⟩
        · cases hc; exact ⟨rfl, blockA_ok kd⟩
        · cases hc; exact ⟨rfl, loopA_ok (fun μ f h a w s hg => jump_ok hj hsp s hg) kd⟩
        · rename_i x
          cases hc
          refine ⟨rfl, scopeA_ok (fun l r hf μ f h a w s hg => ?_) kd⟩
          have hll : semA P c0 Q0 (.lab p l) = some (r, Exit.inScope P c Qd) := by simp only [semA, hsp, semLab, hf]
          exact jump_ok hj hll s hg
  | .r p, c, c', Q, K, hs, hc => by
    simp only [semA] at hs
    have hc : (Option.rec none (fun q => ckR q.1 q.2) (contA E call pls cuts J c0 K0 p) : CK) = some (c', K) := hc
    cases hsp : semA P c0 Q0 p with
    | none => rw [hsp] at hs; cases hs
    | some q =>
      rw [hsp] at hs
      obtain ⟨d, Qd⟩ := q
      cases hcp : contA E call pls cuts J c0 K0 p with
      | none => rw [hcp] at hc; cases hc
      | some z =>
        rw [hcp] at hc
        obtain ⟨d', Kd⟩ := z
        obtain ⟨rfl, kd⟩ := contA_ok k0 p hsp hcp
        cases d' <;> simp only [semR] at hs <;> try cases hs
        · cases hc; exact ⟨rfl, kd⟩
        · cases hc; exact ⟨rfl, kd⟩
  | .lab p n, c, c', Q, K, hs, hc => by
    simp only [semA] at hs
    have hc : (Option.rec none (fun q => ckLab cuts J p n q.1 q.2) (contA E call pls cuts J c0 K0 p) : CK) = some (c', K) := hc
    cases hsp : semA P c0 Q0 p with
    | none => rw [hsp] at hs; cases hs
    | some q =>
      rw [hsp] at hs
      obtain ⟨d, Qd⟩ := q
      cases hcp : contA E call pls cuts J c0 K0 p with
      | none => rw [hcp] at hc; cases hc
      | some z =>
        rw [hcp] at hc
        obtain ⟨d', Kd⟩ := z
        obtain ⟨rfl, kd⟩ := contA_ok k0 p hsp hcp
        cases d' <;> simp only [semLab] at hs <;> try cases hs
        rename_i x
        have hc : (Option.rec none (fun r => some (r, scopeA x (fun l f h => enter cuts J (.lab p l) f h False) Kd)) (findLabel x n) : CK) = some (c', K) := hc
        cases hf : findLabel x n with
        | none => rw [hf] at hs; cases hs
        | some r =>
          rw [hf] at hs hc
          cases hs; cases hc
          refine ⟨rfl, scopeA_ok (fun l r hf μ f h a w s hg => ?_) kd⟩
          have hll : semA P c0 Q0 (.lab p l) = some (r, Exit.inScope P x Qd) := by simp only [semA, hsp, semLab, hf]
          exact jump_ok hj hll s hg
end
theorem semA_of_cont {p : Pos} {c : Code} {K : KX'} (hc : contA E call pls cuts J c0 K0 p = some (c, K)) : ∃ Q, semA P c0 Q0 p = some (c, Q) := by
  induction p generalizing c K with
  | root => cases hc; exact ⟨_, rfl⟩
  | l p ih =>
    have hc : (Option.rec none (fun q => ckL E call pls cuts J p q.1 q.2) (contA E call pls cuts J c0 K0 p) : CK) = some (c, K) := hc
    cases hcp : contA E call pls cuts J c0 K0 p with
    | none => rw [hcp] at hc; cases hc
    | some z =>
      rw [hcp] at hc
      obtain ⟨d, Kd⟩ := z
      obtain ⟨Q, hQ⟩ := ih hcp
      simp only [semA, hQ]
      cases d <;> cases hc <;> exact ⟨_, rfl⟩
  | r p ih =>
    have hc : (Option.rec none (fun q => ckR q.1 q.2) (contA E call pls cuts J c0 K0 p) : CK) = some (c, K) := hc
    cases hcp : contA E call pls cuts J c0 K0 p with
    | none => rw [hcp] at hc; cases hc
    | some z =>
      rw [hcp] at hc
      obtain ⟨d, Kd⟩ := z
      obtain ⟨Q, hQ⟩ := ih hcp
      simp only [semA, hQ]
      cases d <;> cases hc <;> exact ⟨_, rfl⟩
  | lab p n ih =>
    have hc : (Option.rec none (fun q => ckLab cuts J p n q.1 q.2) (contA E call pls cuts J c0 K0 p) : CK) = some (c, K) := hc
    cases hcp : contA E call pls cuts J c0 K0 p with
    | none => rw [hcp] at hc; cases hc
    | some z =>
      rw [hcp] at hc
      obtain ⟨d, Kd⟩ := z
      obtain ⟨Q, hQ⟩ := ih hcp
      simp only [semA, hQ, semLab]
      cases d <;> try cases hc
      rename_i x
      have hc : (Option.rec none (fun r => some (r, scopeA x (fun l f h => enter cuts J (.lab p l) f h False) Kd)) (findLabel x n) : CK) = some (c, K) := hc
      cases hf : findLabel x n with
      | none => rw [hf] at hc; cases hc
      | some r => rw [hf] at hc; cases hc; simp only [hf]; exact ⟨_, rfl⟩
/-- pieces that jump to one another do as the code -/
theorem chunks_ok (hm : P.follows .mixedOrders = true) (ok : EnvOk P E) (hcall : CallOk P (CP E) G (fun p => p) call) (hk : okCode P E pls N G c0 = true) (k0 : KOk G N μ0 h0 w0 K0 Q0) (Jn : Nat → Jump) (hz : ∀ L f h, ¬ Jn 0 L f h)
    (hs : ∀ n p L, (p, L) ∈ cuts → ∀ f h, Jn (n + 1) L f h → chunkA E call pls cuts (Jn n) c0 K0 p f h) : ∀ n, JOk P cuts c0 Q0 G N μ0 h0 w0 (Jn n) := by
  intro n
  induction n with
  | zero => intro p L c Q _ _ μ f h a w _ hL; exact (hz L f h hL).elim
  | succ n ih =>
    intro p L c Q hmm hsem μ f h a w s hL
    have hch := hs n p L hmm f h hL
    unfold chunkA at hch
    cases hc : contA E call pls cuts (Jn n) c0 K0 p with
    | none => rw [hc] at hch; exact hch.elim
    | some z =>
      rw [hc] at hch
      obtain ⟨d, K⟩ := z
      obtain ⟨rfl, kk⟩ := contA_ok hm ok hcall ih hk k0 p hsem hc
      exact stepA_ok hm ok hcall ih hk d p Q hsem s hch kk
end

section
variable {P : Program} {E : Env} {G : Nat}
/-- what is known of a call: in the model it returns, and what follows holds of what it leaves -/
def SW (P : Program) (G : Nat) : Caller Prop FT := fun fn args h k => ∀ (μ : Mu) (w : World) (fn' : Fn) (vargs : Array Value), Sim μ h w → Globs μ G → FnR μ fn fn' → VRs μ args vargs.toList → ∃ f, fn' = .func f ∧
    ((∃ v w' μ' av h', (callFunc f vargs).run P w = .ok (.value v) w' ∧ Sim μ' h' w' ∧ Ext' μ h w μ' h' w' ∧ VR μ' av v ∧ k av h') ∨
     ((callFunc f vargs).run P w = .ok (.enter f vargs) w ∧ Calls P f vargs w fun e w' => ∃ v μ' av h', e = .returned v ∧ Sim μ' h' w' ∧ Ext' μ h w μ' h' w' ∧ VR μ' av v ∧ k av h'))
theorem sw_ok : CallOk P (CP E) G (fun p => p) (SW P G) := fun μ _ w _ fn' _ vargs _ s gl hf hv hg => hg μ w fn' vargs s gl hf hv
theorem sw_of {call : Caller Prop FT} (hc : CallOk P (CP E) G (fun p => p) call) {fn : Fn} {args : List AV} {h : H} {k : KV} (hg : call fn args h k) : SW P G fn args h k := fun μ w fn' vargs s gl hf hv => hc μ h w fn fn' args vargs k s gl hf hv hg
theorem sw_mono {fn : Fn} {args : List AV} {h : H} {k k' : KV} (hg : SW P G fn args h k) (hk : ∀ v h', k v h' → k' v h') : SW P G fn args h k' := fun μ w fn' vargs s gl hf hv => by
  obtain ⟨f, e, hh⟩ := hg μ w fn' vargs s gl hf hv
  refine ⟨f, e, ?_⟩
  rcases hh with ⟨v, w', μ', av, h', h1, h2, h3, h4, h5⟩ | ⟨h1, h2⟩
  · exact .inl ⟨v, w', μ', av, h', h1, h2, h3, h4, hk _ _ h5⟩
  · refine .inr ⟨h1, h2.mono fun e w' he => ?_⟩
    obtain ⟨v, μ', av, h', h3, h4, h5, h6, h7⟩ := he
    exact ⟨v, μ', av, h', h3, h4, h5, h6, hk _ _ h7⟩
theorem resA_ok (ok : EnvOk P E) {μ : Mu} {N : Nat} {f : FT} {h : H} {a : Act} {w : World} (fr : FR μ N f a) (s : Sim μ h w) {r : ResultVar} {k : AV → Prop} (hg : resA E f h r k) : ∃ av v, (resM a.tmps r).run P w = .ok v w ∧ VR μ av v ∧ k av := by
  cases r with
  | tmp t => exact ⟨_, _, rfl, fr.get t, hg⟩
  | cell x t =>
    have hl := load2_of (E := E) (h := h) (k := fun v _ => k v) (t := t) (a := f x) hg
    obtain ⟨b, off, hp, hl⟩ := asPtr_inv (good := fun p : Prop => p) (fun h => h) hl
    obtain ⟨i, hi, hl⟩ := inv_opt (good := fun p : Prop => p) (fun h => h) hl
    have hx := fr.get x
    rw [hp] at hx
    obtain ⟨av, v, hr, hv, hg⟩ := ldCell_ok (P := P) (C := CP E) (good := fun p : Prop => p) ok (fun h => h) s hi hl hx
    refine ⟨av, v, ?_, hv, hg⟩
    obtain ⟨l, hl, e⟩ := hx
    unfold Instr.loadAt at hr
    simp only [resM]
    rw [e] at hr ⊢
    exact hr
theorem ressA_ok (ok : EnvOk P E) {μ : Mu} {N : Nat} {f : FT} {h : H} {a : Act} {w : World} (fr : FR μ N f a) (s : Sim μ h w) :
    ∀ {rs : List ResultVar} {k : List AV → Prop}, ressA E f h rs k → ∃ avs vs, (rs.mapM (resM a.tmps)).run P w = .ok vs w ∧ VRs μ avs vs ∧ k avs
  | [], k, hg => ⟨[], [], rfl, (rfl : ([] : List Value) = []), hg⟩
  | r :: rs, k, hg => by
    obtain ⟨av, v, h1, h2, hg⟩ := resA_ok ok fr s (show resA E f h r (fun v => ressA E f h rs (fun l => k (v :: l))) from hg)
    obtain ⟨avs, vs, h3, h4, hg⟩ := ressA_ok ok fr s hg
    refine ⟨av :: avs, v :: vs, ?_, ⟨v, vs, rfl, h2, h4⟩, hg⟩
    rw [List.mapM_cons, run_bind_ok h1, run_bind_ok h3]; rfl
theorem wrapR_ok {μ : Mu} {avs : List AV} {vs : List Value} (h : VRs μ avs vs) : VR μ (wrapR avs) (wrapV vs) := by
  match avs, h with
  | [], h => cases (show vs = [] from h); exact ⟨_, rfl, (rfl : ([] : List Value) = [])⟩
  | [a], h =>
    obtain ⟨v, vs, rfl, h1, h2⟩ := h
    cases (show vs = [] from h2)
    exact h1
  | a :: b :: l, h =>
    obtain ⟨v, vs, rfl, h1, h2⟩ := h
    obtain ⟨u, vs, rfl, h2, h3⟩ := h2
    exact ⟨_, rfl, v, _, rfl, h1, u, vs, rfl, h2, h3⟩
/-- a function's pieces, from its head on -/
theorem fn_ok (hm : P.follows .mixedOrders = true) (ok : EnvOk P E) {call : Caller Prop FT} (hcall : CallOk P (CP E) G (fun p => p) call) (pls : Plans) {fid : FuncId} {fn : Func} {c : Code} (hf : P.funcs[fid]? = some fn) (hb : fn.body = some c) (hname : (fn.name == "runtime.NumGoroutine") = false)
    (hk : okCode P E pls fn.ntmps G c = true) (k : KV) (cuts : Cuts) (Jn : Nat → Jump) (hz : ∀ L f h, ¬ Jn 0 L f h)
    (hs : ∀ n p L, (p, L) ∈ cuts → ∀ f h, Jn (n + 1) L f h → chunkA E call pls cuts (Jn n) c (retA E fn.results.toList k) p f h) (hr : (.root, 0) ∈ cuts) {n : Nat} {args : List AV} {h : H} (hg : Jn n 0 (finit args) h) : SW P G (.func fid) args h k := by
  intro μ w fn' vargs s gl hfn hv
  have hfn' : fn' = .func fid := by cases fn' <;> simp only [FnR] at hfn <;> first | (cases hfn; rfl) | cases hfn
  refine ⟨fid, hfn', .inr ⟨?_, ?_⟩⟩
  · unfold callFunc
    rw [run_bind_ok (show program.run P w = .ok P w from rfl), hf]
    simp only [hname, hb, Bool.false_eq_true, if_false]
    rfl
  · have hlen := hv.length
    simp only [Array.length_toList] at hlen
    have fr : FR μ fn.ntmps (finit args) { tmps := vargs ++ Array.replicate (fn.ntmps - vargs.size) undef, defers := [] } := by
      refine ⟨by simp; omega, fun t => ?_, rfl⟩
      have hi : finit args t = args.getD t .undef := funI_ok.init args t
      rw [hi]
      simp only [Array.getD_eq_getD_getElem?, Array.getElem?_append]
      by_cases ht : t < vargs.size
      · rw [if_pos ht]
        have ha : args[t]? = some (args[t]'(by omega)) := List.getElem?_eq_getElem (by omega)
        obtain ⟨v, hv', hr⟩ := hv.get t _ ha
        rw [List.getD_eq_getElem?_getD, ha, ← Array.getElem?_toList, hv']
        exact hr
      · rw [if_neg ht, List.getD_eq_getElem?_getD, List.getElem?_eq_none (by omega)]
        have : (Array.replicate (fn.ntmps - vargs.size) undef)[t - vargs.size]?.getD undef = undef := by
          rw [Array.getElem?_replicate]; split <;> rfl
        rw [this]
        exact VR.undef μ
    refine calls_of_wp hf hb (CWp.wp ?_)
    have k0 : KOk G fn.ntmps μ h w (retA E fn.results.toList k) (bodyPost P fn fun e w' => ∃ v μ' av h', e = .returned v ∧ Sim μ' h' w' ∧ Ext' μ h w μ' h' w' ∧ VR μ' av v ∧ k av h') := by
      intro x μ' f' h' a' w' st hx
      have fin : ressA E f' h' fn.results.toList (fun l => k (wrapR l) h') → a'.defers = [] ∧ ∃ v, (results fn a'.tmps).run P w' = .ok v w' ∧ ∃ v' μ'' av h'', (Ending.returned v) = .returned v' ∧ Sim μ'' h'' w' ∧ Ext' μ h w μ'' h'' w' ∧ VR μ'' av v' ∧ k av h'' := by
        intro hg
        obtain ⟨avs, vs, h1, h2, hg⟩ := ressA_ok (P := P) ok st.fr st.sim hg
        exact ⟨st.fr.defs, _, run_results h1, _, μ', _, h', rfl, st.sim, st.ext, wrapR_ok h2, hg⟩
      cases x with
      | normal => exact fin hx
      | ret => exact fin hx
      | exit id => exact hx.elim
      | goto l => exact hx.elim
    exact chunks_ok hm ok hcall hk k0 Jn hz hs n .root 0 c _ hr rfl μ _ h _ w ⟨fr, s, .refl _ _ _, gl⟩ hg
/-- a function without a body -/
theorem ext_ok {fid : FuncId} {e : Ext} (he : ∀ (args : Array Value) (w : World), (callFunc fid args).run P w = (do pure (.value (← extM e args)) : Sem Next).run P w) {args : List AV} {h : H} {k : KV} (hn : ∀ n, extN e = some n → args.length = n) (hg : oK (extA e args h) k) : SW P G (.func fid) args h k := by
  intro μ w fn' vargs s gl hfn hv
  have hfn' : fn' = .func fid := by cases fn' <;> simp only [FnR] at hfn <;> first | (cases hfn; rfl) | cases hfn
  obtain ⟨v, h', h1, h2⟩ := oK_inv hg
  obtain ⟨u, w', μ', hr, s', x', hvr⟩ := extA_ok (P := P) s hv hn h1
  refine ⟨fid, hfn', .inl ⟨u, w', μ', v, h', ?_, s', x', hvr, h2⟩⟩
  rw [he, run_bind_ok hr]; rfl
end
end Go.Den
/-
  The tables of a program are what they say, if a check of the program says so.
-/
namespace Go.Den
open Go.RowKit

theorem getN_nlist {α : Type} (d : α) (l : List α) : ∀ (i : Nat) (t : Tr α) (k : Nat), Tr.getN d (nlist d l i t) k = if i ≤ k ∧ k < i + l.length then l.getD (k - i) d else Tr.getN d t k := by
  induction l with
  | nil => intro i t k; rw [if_neg (by simp)]; rfl
  | cons v l ih =>
    intro i t k
    show Tr.getN d (nlist d l (i + 1) (Tr.setN d v t i)) k = _
    rw [ih, Tr.getN_setN]
    by_cases h1 : k = i
    · subst h1
      rw [if_neg (by omega), if_pos rfl, if_pos (by simp)]
      simp
    · rw [if_neg h1]
      by_cases h2 : i + 1 ≤ k ∧ k < i + 1 + l.length
      · rw [if_pos h2, if_pos (by simp only [List.length_cons]; omega)]
        have : k - i = (k - (i + 1)) + 1 := by omega
        rw [this]; rfl
      · rw [if_neg h2, if_neg (by simp only [List.length_cons]; omega)]

/-- may a type's zero value be read, and is it laid out as its type says? -/
noncomputable def okTy (p : Program) (t : TypeId) (i : TypeInfo) : Bool :=
  match p.underlying t, i.zero with
  | some d, some z => z.cells.toList.all okValue && ((z.cells.toList.map ofValue).all AV.one && (match z with | .agg _ => descAgg d | _ => !descAgg d) && (match d with | .struct fs => fs.toList.all (fun f => decide (f.type < p.types.size) && !tupT p f.type) | _ => true))
  | _, _ => false
noncomputable def okTys (p : Program) : Bool := p.types.toList.zipIdx.all fun q => tupT p q.2 || okTy p q.2 q.1

theorem envOf_ty {p : Program} {x : List (Nat × Ext)} {t : TypeId} {i : TI} (h : (envOf p x).ty t = some i) : ∃ ti, p.types[t]? = some ti ∧ i = tiOf p t ti ∧ tupT p t = false := by
  have h : Tr.getN none (nlist none (p.types.toList.zipIdx.map fun q => tiO p q.2 q.1) 0 .e) t = some i := h
  rw [getN_nlist] at h
  split at h
  · rename_i hb
    simp only [Nat.zero_le, Nat.zero_add, List.length_map, List.length_zipIdx, Array.length_toList, true_and] at hb
    rw [Nat.sub_zero, List.getD_eq_getElem?_getD, List.getElem?_map, List.getElem?_zipIdx] at h
    have e : p.types.toList[t]? = some (p.types[t]) := by simp [hb]
    rw [e] at h
    refine ⟨p.types[t], by simp [hb], ?_⟩
    simp at h
    unfold tiO at h
    cases e2 : tupT p t with
    | true => rw [e2] at h; cases h
    | false => rw [e2] at h; cases h; exact ⟨rfl, rfl⟩
  · rw [Tr.getN_e] at h; cases h
theorem envOf_ty_of {p : Program} {x : List (Nat × Ext)} {t : TypeId} (h : t < p.types.size) (hn : tupT p t = false) : ∃ j, (envOf p x).ty t = some j := by
  refine ⟨tiOf p t p.types[t], ?_⟩
  show Tr.getN none (nlist none (p.types.toList.zipIdx.map fun q => tiO p q.2 q.1) 0 .e) t = _
  rw [getN_nlist, if_pos (by simpa using h), Nat.sub_zero, List.getD_eq_getElem?_getD, List.getElem?_map, List.getElem?_zipIdx]
  have e : p.types.toList[t]? = some (p.types[t]) := by simp [h]
  rw [e]; simp [tiO, hn]
theorem envOf_fn {p : Program} {x : List (Nat × Ext)} {f : FuncId} {fn : Func} (h : (envOf p x).fn f = some fn) : p.funcs[f]? = some fn := by
  have h : Tr.getN none (nlist none (p.funcs.toList.map some) 0 .e) f = some fn := h
  rw [getN_nlist] at h
  split at h
  · rename_i hb
    rw [Nat.sub_zero, List.getD_eq_getElem?_getD, List.getElem?_map] at h
    rw [← Array.getElem?_toList]
    cases e : p.funcs.toList[f]? with
    | none => rw [e] at h; cases h
    | some g => rw [e] at h; exact h
  · rw [Tr.getN_e] at h; cases h
theorem okValues {l : List Value} (h : l.all okValue = true) (μ : Mu) : VRs μ (l.map ofValue) l := by
  induction l with
  | nil => exact (rfl : ([] : List Value) = [])
  | cons v l ih =>
    rw [List.all_cons, Bool.and_eq_true] at h
    exact ⟨v, l, rfl, ofValueF_ok μ 3 v h.1, ih h.2⟩
theorem info_of {p : Program} {t : TypeId} {ti : TypeInfo} (h : p.types[t]? = some ti) : p.info? t = some ti := by
  have hl : t < p.types.size := by
    rcases Nat.lt_or_ge t p.types.size with h' | h'
    · exact h'
    · rw [Array.getElem?_eq_none h'] at h; cases h
  unfold Tables.info?
  rw [if_pos hl, h]
theorem envOk_of {p : Program} {x : List (Nat × Ext)} (h : okTys p = true) : EnvOk p (envOf p x) := by
  have key : ∀ t ti, p.types[t]? = some ti → tupT p t = false → okTy p t ti = true := by
    intro t ti ht hn
    rw [okTys, List.all_eq_true] at h
    have := h (ti, t) (by
      rw [List.mem_iff_getElem?]
      refine ⟨t, ?_⟩
      rw [List.getElem?_zipIdx, Array.getElem?_toList, ht]; simp)
    simpa [hn] using this
  refine ⟨fun t i hi => ?_, fun f fn hf => envOf_fn hf, fun t i fs hi hd f hf => ?_⟩
  · obtain ⟨ti, ht, e, hn⟩ := envOf_ty hi
    have k := key t ti ht hn
    unfold okTy at k
    cases hu : p.underlying t with
    | none => rw [hu] at k; simp at k
    | some d =>
      cases hz : ti.zero with
      | none => rw [hu, hz] at k; simp at k
      | some z =>
        rw [hu, hz] at k
        simp only [Bool.and_eq_true] at k
        obtain ⟨k1, ⟨k2, k3⟩, k4⟩ := k
        subst e
        have ezero : (tiOf p t ti).zero = z.cells.toList.map ofValue := by unfold tiOf; rw [hz]
        have edesc : (tiOf p t ti).desc = d := by unfold tiOf; rw [hu]; rfl
        have eagg : (tiOf p t ti).agg = descAgg d := by
          unfold tiOf; simp only [hu]
          cases d <;> rfl
        refine ⟨ti, z, info_of ht, by rw [hu, edesc], rfl, rfl, by rw [eagg, edesc], hz, fun μ => ?_, ?_, fun μ a ha => ?_, fun hp => ?_⟩
        · rw [ezero]; exact okValues k1 μ
        · rw [ezero]; exact k2
        · unfold zeroOf at ha
          rw [eagg, ezero] at ha
          cases z with
          | agg vs =>
            simp only at k3
            rw [k3] at ha
            cases ha
            exact ⟨vs, rfl, okValues k1 μ, k2⟩
          | _ =>
            simp only [Bool.not_eq_true'] at k3
            rw [k3] at ha
            cases ha
            exact ofValueF_ok μ 3 _ (show okValue _ = true by simpa [Value.cells] using k1)
        · have hp : and (not (p.stoodInHeld t)) (not (p.eqGuardType p.depth t)) = true := hp
          simpa using hp
  · obtain ⟨ti, ht, e, hn⟩ := envOf_ty hi
    have k := key t ti ht hn
    unfold okTy at k
    subst e
    cases hu : p.underlying t with
    | none => rw [hu] at k; simp at k
    | some d =>
      have edesc : (tiOf p t ti).desc = d := by unfold tiOf; rw [hu]; rfl
      rw [edesc] at hd
      subst hd
      cases hz : ti.zero with
      | none => rw [hu, hz] at k; simp at k
      | some z =>
        rw [hu, hz] at k
        simp only [Bool.and_eq_true] at k
        have := k.2.2
        rw [List.all_eq_true] at this
        have := this f hf; rw [Bool.and_eq_true, Bool.not_eq_true'] at this; exact envOf_ty_of (of_decide_eq_true this.1) this.2

/-! ### The table of calls -/
theorem cndN {b : Bool} {A B T : Prop} (hA : A → T) (hB : B → T) (h : cnd b A B) : T := by
  cases b with
  | true => exact hA h
  | false => exact hB h
theorem cndL {i j : Nat} {X : Prop} {T : Nat → Prop} (hX : X → T j) (h : cnd (Nat.beq i j) X False) : T i := by
  cases e : Nat.beq i j with
  | true =>
    rw [e] at h
    have : i = j := Nat.eq_of_beq_eq_true e
    rw [this]; exact hX h
  | false => rw [e] at h; exact h.elim
theorem extern_ok {P : Program} {G : Nat} {fid : FuncId} {e : Ext} {n : Nat} (hn : extN e = some n) (he : ∀ (args : Array Value) (w : World), (callFunc fid args).run P w = ((extM e args).run P w).andThen fun v w' => .ok (.value v) w') {args : List AV} {h : H} {k : KV} (hg : cnd (Nat.beq (len args) n) (oK (extA e args h) k) False) : SW P G (.func fid) args h k := by
  cases el : Nat.beq (len args) n with
  | false => rw [el] at hg; exact hg.elim
  | true =>
    rw [el] at hg
    refine ext_ok (fun a w => ?_) (fun m hm => ?_) hg
    · rw [he, Sem.run_bind]; rfl
    · rw [hn] at hm; cases hm
      rw [← len_eq]; exact Nat.eq_of_beq_eq_true el
end Go.Den
/-
  A run from the start: what a call begins with, and what it leaves.
-/
namespace Go.Den
open Go.RowKit

/-- the memory that a call begins with: rows that are not the run's own -/
noncomputable def initH (l : List (Ob FT)) : H := ⟨Tr.ofList .dead l .z .e, pOf l.length⟩
noncomputable def mu0 (L : List Loc) : Mu := fun b => L[b.nat]?
theorem at_init (l : List (Ob FT)) (b : P) : (initH l).at b = l.getD b.nat .dead := by
  show Tr.get .dead (Tr.ofList .dead l .z .e) b = _
  rw [Tr.get_ofList]
  by_cases h : b.nat < l.length
  · rw [if_pos (by simpa using h)]; simp
  · rw [if_neg (by simpa using h), List.getD_eq_getElem?_getD, List.getElem?_eq_none (by omega)]; rfl
theorem own_init {l : List (Ob FT)} (hn : l.all (fun o => !o.own) = true) (b : P) : ((initH l).at b).own = false := by
  rw [at_init]
  by_cases h : b.nat < l.length
  · rw [List.getD_eq_getElem?_getD, List.getElem?_eq_getElem h]
    have := List.all_eq_true.1 hn _ (List.getElem_mem h)
    simpa using this
  · rw [List.getD_eq_getElem?_getD, List.getElem?_eq_none (by omega)]; rfl
theorem sim_init {l : List (Ob FT)} {L : List Loc} {w : World} (hl : l.length = L.length) (hn : l.all (fun o => !o.own) = true)
    (hr : ∀ (i : Nat) o c, l[i]? = some o → L[i]? = some c → ObR (mu0 L) w c o) : Sim (mu0 L) (initH l) w := by
  refine ⟨fun b c hc => ?_, fun b hb => ?_, fun b hb => ?_, fun b b' c c' ho => ?_⟩
  · have hc : L[b.nat]? = some c := hc
    have : b.nat < L.length := (List.getElem?_eq_some_iff.1 hc).1
    show b.nat < (pOf l.length).nat
    rw [nat_pOf, hl]; exact this
  · have hb : (pOf l.length).nat ≤ b.nat := hb
    rw [nat_pOf] at hb
    rw [at_init, List.getD_eq_getElem?_getD, List.getElem?_eq_none hb]; rfl
  · rw [at_init] at hb ⊢
    have hlt : b.nat < l.length := by
      rcases Nat.lt_or_ge b.nat l.length with h | h
      · exact h
      · rw [List.getD_eq_getElem?_getD, List.getElem?_eq_none h] at hb; exact absurd rfl hb
    have hL : b.nat < L.length := by omega
    refine ⟨L[b.nat], List.getElem?_eq_getElem hL, ?_⟩
    rw [List.getD_eq_getElem?_getD, List.getElem?_eq_getElem hlt]
    exact hr _ _ _ (List.getElem?_eq_getElem hlt) (List.getElem?_eq_getElem hL)
  · rw [own_init hn] at ho; cases ho
theorem globs_init {L : List Loc} {G : Nat} (h : ∀ g, g < G → ∃ c, L[g]? = some c ∧ c.blk = g ∧ c.off = 0) : Globs (mu0 L) G := fun g hg => by
  obtain ⟨c, h1, h2⟩ := h g hg
  exact ⟨c, by show L[(pOf g).nat]? = _; rw [nat_pOf]; exact h1, h2⟩
theorem below_of_ext {μ μ' : Mu} {h h' : H} {w w' : World} (x : Ext' μ h w μ' h' w') (ho : ∀ b, (h.at b).own = false) : Below w.heap.size w w' :=
  ⟨x.os, x.tape, x.output, x.size, fun k hk => x.keep k hk fun ⟨b, l, h1, _⟩ => by rw [ho] at h1; cases h1⟩
noncomputable def isT : KV := fun v _ => AV.rec (motive_1 := fun _ => Prop) (motive_2 := fun _ => Unit)
  (fun b => Bool.rec False True b) (fun _ _ => False) (fun _ _ => False) False (fun _ _ => False) False (fun _ _ _ _ _ => False) False (fun _ => False) (fun _ _ _ _ _ => False) False (fun _ _ _ => False) False (fun _ _ => False) (fun _ _ => False) False () (fun _ _ _ _ => ()) v
theorem isT_inv {v : AV} {h : H} (hg : isT v h) : v = .bool true := by
  cases v with
  | bool b => cases b with
    | true => rfl
    | false => exact hg.elim
  | _ => exact hg.elim
/-- a call that answers true in the run answers true in the model, and leaves what was there -/
theorem calls_true {P : Program} {E : Env} {G : Nat} {call : Caller Prop FT} (hc : CallOk P (CP E) G (fun p => p) call) {μ : Mu} {h : H} {w : World} (s : Sim μ h w) (gl : Globs μ G) (ho : ∀ b, (h.at b).own = false)
    {F : FuncId} {fn : Func} {c : Code} (hf : P.funcs[F]? = some fn) (hb : fn.body = some c) (hname : (fn.name == "runtime.NumGoroutine") = false)
    {args : List AV} {vargs : Array Value} (hv : VRs μ args vargs.toList) (hg : call (.func F) args h isT) :
    Calls P F vargs w fun e w' => e = .returned (.bool true) ∧ Below w.heap.size w w' := by
  obtain ⟨f, e, hh⟩ := hc μ h w (.func F) (.func F) args vargs isT s gl rfl hv hg
  cases e
  have he : (callFunc F vargs).run P w = .ok (.enter F vargs) w := by
    unfold callFunc
    rw [run_bind_ok (show program.run P w = .ok P w from rfl), hf]
    simp only [hname, hb, Bool.false_eq_true, if_false]
    rfl
  rcases hh with ⟨v, w', μ', av, h', h1, _⟩ | ⟨_, h2⟩
  · rw [he] at h1; cases h1
  · refine h2.mono fun e w' ⟨v, μ', av, h', h3, _, h5, h6, h7⟩ => ?_
    have := isT_inv h7
    subst this
    cases (show v = .bool true from h6)
    exact ⟨h3, below_of_ext h5 ho⟩
end Go.Den
/-
  What a law's call leaves, as the statements want it.
-/
namespace Go.Den
open Go.RowKit Go.ChangeShapes Go.WideShapes Go.ChangeAt
section
variable {H' : Type} {enc : TypeId × Value → H'} {P : Program}
theorem trodAll_below (hl : laidOutB P = true) {W W' : World} (hb : Below W.heap.size W W') : ∀ {ts : List TypeId} {vs : List Value} {ds : List (DataW H')} {ps : List MemPlace},
    (ts.all fun t => P.readableRec t && decide (t < P.types.size)) = true → DataW.TrodAll enc P W 0 (fun _ => true) true ts vs ds ps → (∀ x ∈ ps, x.block < W.heap.size) →
    DataW.TrodAll enc P W' 0 (fun b => decide (b < W.heap.size)) true ts vs ds ps
  | [], vs, ds, ps, _, h, _ => by
    obtain ⟨rfl, rfl, rfl⟩ := trodAll_nil h
    exact trodAll_mk0
  | t :: ts, vs, ds, ps, hr, h, hlt => by
    obtain ⟨v, vs, d, ds, p, q, rfl, rfl, rfl, h1, h2⟩ := trodAll_cons h
    rw [List.all_cons, Bool.and_eq_true, Bool.and_eq_true] at hr
    exact ⟨p, q, hb.trod hl hr.1.1 (of_decide_eq_true hr.1.2) h1 fun x hx => hlt x (List.mem_append_left _ hx), trodAll_below hl hb hr.2 h2 fun x hx => hlt x (List.mem_append_right _ hx), rfl⟩
theorem law_post {f : Func} {s : ChangeSpec} {W W' : World} {args : Array Value} {ds : List (DataW H')} {before : List MemPlace} {tb : TypeId} (hl : laidOutB P = true)
    (hrows : (f.params.toList.all fun t => P.readableRec t && decide (t < P.types.size)) = true) (hres : f.resultTypes = #[tb]) (htb : P.underlying tb = some .bool)
    (hW : DataW.Whole enc P f.params.toList s.vars false W args.toList ds [] before) (hvars : s.vars = []) (hfn : s.fn H' (ds ++ []) = { results := [.lit (.bool true)], args := ds }) (hb : Below W.heap.size W W') :
    s.post enc P f false true false false W args (.bool true) W' := by
  have hW' := hW
  obtain ⟨p, q, hA, hV, e, _, _⟩ := hW
  rw [hvars] at hV
  obtain ⟨_, rfl⟩ := trodVars_none hV
  rw [List.append_nil] at e; subst e
  refine ⟨ds, [], before, [], before, [], hW', ?_, ?_, ?_, hb.frame _, fun h => by cases h⟩
  · rw [hfn, hres]; exact trodAll_mk1 (shut_bool htb _)
  · rw [hfn]
    exact trodAll_below hl hb hrows hA fun x hx => hW'.lt x hx
  · rw [hvars, hfn]; rfl
end
end Go.Den
/-
  Strings as lists of bytes, and functions that leave nothing behind.
-/
namespace Go.Den
open Go.RowKit

/-- a string, by its bytes -/
noncomputable abbrev S (s : List UInt8) : AV := .str s.length (enc s)
section
variable {s t : List UInt8}
theorem get_enc {i : Nat} (h : i < s.length) : strGet (enc s) i = (s[i]).toNat := by
  show (enc s >>> (8 * i)) % 256 = _
  rw [Nat.shiftRight_eq_div_pow, enc_div, List.drop_eq_getElem_cons h]
  have := (s[i]).toNat_lt
  simp only [enc]; omega
theorem cut_enc (lo hi : Nat) : strCut (enc s) lo hi = enc ((s.drop lo).take (hi - lo)) := by
  show (enc s >>> (8 * lo)) % 2 ^ (8 * (hi - lo)) = _
  rw [Nat.shiftRight_eq_div_pow, enc_div, enc_mod]
theorem cat_enc : strCat s.length (enc s) (enc t) = enc (s ++ t) := by
  rw [enc_append]
  show enc s + (enc t <<< (8 * s.length)) = _
  rw [Nat.shiftLeft_eq, Nat.mul_comm (enc t)]
theorem strEq_enc : strEq s.length (enc s) t.length (enc t) = decide (s = t) := by
  unfold strEq
  rw [band_eq, natbeq, natbeq]
  by_cases e : s = t
  · subst e; simp
  · rw [decide_eq_false e]
    by_cases hl : s.length = t.length
    · have : ¬ enc s = enc t := fun he => e (enc_inj hl he)
      simp [this]
    · simp [hl]
theorem idxS_i {i : Nat} {K : Nat → Prop} (h : i < s.length) (hk : K (s[i]).toNat) : idxS s.length (enc s) i K := by
  have hb : Nat.ble (Nat.add i 1) s.length = true := Nat.ble_eq_true_of_le h
  unfold idxS
  rw [hb]
  show K (strGet (enc s) i)
  rw [get_enc h]; exact hk
theorem cutS_i {lo hi : Nat} {K : Nat → Nat → Prop} (h1 : lo ≤ hi) (h2 : hi ≤ s.length) (hk : K ((s.drop lo).take (hi - lo)).length (enc ((s.drop lo).take (hi - lo)))) : cutS s.length (enc s) lo hi K := by
  have hb : band (Nat.ble lo hi) (Nat.ble hi s.length) = true := by rw [band_eq, Nat.ble_eq_true_of_le h1, Nat.ble_eq_true_of_le h2]; rfl
  unfold cutS
  rw [hb]
  show K (hi - lo) (strCut (enc s) lo hi)
  rw [cut_enc]
  have : ((s.drop lo).take (hi - lo)).length = hi - lo := by simp; omega
  rw [this] at hk; exact hk
theorem cutS_d {lo : Nat} {K : Nat → Nat → Prop} (h : lo ≤ s.length) (hk : K (s.drop lo).length (enc (s.drop lo))) : cutS s.length (enc s) lo s.length K := by
  refine cutS_i h (Nat.le_refl _) ?_
  have : (s.drop lo).take (s.length - lo) = s.drop lo := by rw [List.take_of_length_le (by simp)]
  rw [this]; exact hk
theorem cutS_t {hi : Nat} {K : Nat → Nat → Prop} (h : hi ≤ s.length) (hk : K (s.take hi).length (enc (s.take hi))) : cutS s.length (enc s) 0 hi K := by
  refine cutS_i (Nat.zero_le _) h ?_
  simpa using hk
theorem catS_i {K : Nat → Nat → Prop} (h : s.length + t.length ≤ 9223372036854775807) (hk : K (s ++ t).length (enc (s ++ t))) : catS s.length (enc s) t.length (enc t) K := by
  have hb : Nat.ble (Nat.add s.length t.length) (intMax .i64) = true := Nat.ble_eq_true_of_le h
  unfold catS
  rw [hb]
  show K (s.length + t.length) (strCat s.length (enc s) (enc t))
  rw [cat_enc, ← List.length_append]; exact hk
end
theorem fI_i {n : Int} {K : Int → Prop} (hk : K n) : fI n K := by cases n <;> exact hk
theorem natI_i {n : Nat} {K : Nat → Prop} (hk : K n) : natI (Int.ofNat n) K := hk
theorem cnd_i {b : Bool} {A B : Prop} (hA : b = true → A) (hB : b = false → B) : cnd b A B := by
  cases b with
  | true => exact hA rfl
  | false => exact hB rfl
theorem cnd_t {b : Bool} {A B : Prop} (hb : b = true) (hA : A) : cnd b A B := by subst hb; exact hA
theorem cnd_f {b : Bool} {A B : Prop} (hb : b = false) (hB : B) : cnd b A B := by subst hb; exact hB
theorem gate_i {w b : Bool} {A B : Prop} (hA : b = w → A) (hB : b = !w → B) : gate w b A B := by
  cases w <;> cases b <;> first | exact hA rfl | exact hB rfl
/-- 'or' and 'and' of a condition, as they are printed -/
theorem or_i {a : Bool} {R : (Bool → H → Prop) → Prop} {h : H} {k : Bool → H → Prop} (hr : a = false → R k) (ht : a = true → k true h) : joinB (fun k1 => gate false a (R k1) (k1 true h)) k := by
  show gate false a (R k) (k true h)
  exact gate_i hr (fun e => ht e)
theorem and_i {a : Bool} {R : (Bool → H → Prop) → Prop} {h : H} {k : Bool → H → Prop} (hr : a = true → R k) (hf : a = false → k false h) : joinB (fun k1 => gate true a (R k1) (k1 false h)) k := by
  show gate true a (R k) (k false h)
  exact gate_i hr (fun e => hf e)
theorem or_b {a b : Bool} {h : H} {k : Bool → H → Prop} (hk : k (a || b) h) : joinB (fun k1 => gate false a (k1 b h) (k1 true h)) k := by
  cases a <;> exact hk
theorem and_b {a b : Bool} {h : H} {k : Bool → H → Prop} (hk : k (a && b) h) : joinB (fun k1 => gate true a (k1 b h) (k1 false h)) k := by
  cases a <;> exact hk

/-! ### Values without an address -/
mutual
def plain : AV → Bool
  | .bool _ => true
  | .int _ _ => true
  | .str _ _ => true
  | .nilp => true
  | .nils => true
  | .nilm => true
  | .nilf => true
  | .nili => true
  | .agg cs => plains cs
  | .tuple cs => plains cs
  | _ => false
def plains : List AV → Bool
  | [] => true
  | c :: cs => plain c && plains cs
end
mutual
theorem VR.plain {μ μ' : Mu} : ∀ (a : AV) (v : Value), plain a = true → VR μ a v → VR μ' a v
  | .bool _, _, _, r => r
  | .int _ _, _, _, r => r
  | .str _ _, _, _, r => r
  | .nilp, _, _, r => r
  | .nils, _, _, r => r
  | .nilm, _, _, r => r
  | .nilf, _, _, r => r
  | .nili, _, _, r => r
  | .agg cs, _, h, ⟨vs, e, hc, ho⟩ => ⟨vs, e, VRs.plain cs _ h hc, ho⟩
  | .tuple cs, _, h, ⟨vs, e, hc⟩ => ⟨vs, e, VRs.plain cs _ h hc⟩
theorem VRs.plain {μ μ' : Mu} : ∀ (as : List AV) (vs : List Value), plains as = true → VRs μ as vs → VRs μ' as vs
  | [], _, _, r => r
  | c :: cs, _, h, ⟨w, ws, e, h1, h2⟩ => by
    have h : (Den.plain c && plains cs) = true := h
    rw [Bool.and_eq_true] at h
    exact ⟨w, ws, e, VR.plain c _ h.1 h1, VRs.plain cs _ h.2 h2⟩
end
theorem Sim.below {μ : Mu} {h : H} {w w' : World} (s : Sim μ h w) (b : Below w.heap.size w w') : Sim μ h w' :=
  ⟨s.fresh, s.dead, fun p hp => by
    obtain ⟨l, h1, h2⟩ := s.ob p hp
    exact ⟨l, h1, h2.world (b.block _ (h2.lt hp))⟩, s.inj⟩
theorem Ext'.below {μ : Mu} {h : H} {w w' : World} (b : Below w.heap.size w w') : Ext' μ h w μ h w' :=
  ⟨Mu.le.refl μ, b.size, fun k hk _ => b.block k hk, fun _ _ h => h, b.os, b.tape, b.output⟩

/-- a function that answers 'r' and leaves nothing that was there changed: run on a memory in which nothing is -/
def Pure (P : Program) (G : Nat) (h0 : H) (F : FuncId) (args : List AV) (r : AV) : Prop := SW P G (.func F) args h0 fun v _ => v = r
theorem pure_use {P : Program} {G : Nat} {L0 : List Loc} {l0 : List (Ob FT)} (s0 : ∀ w, Sim (mu0 L0) (initH l0) w) (g0 : Globs (mu0 L0) G) (ho : l0.all (fun o => !o.own) = true) {F : FuncId} {args : List AV} {r : AV}
    (hp : Pure P G (initH l0) F args r) (ha : plains args = true) (hr : plain r = true) {h : H} {k : KV} (hk : k r h) : SW P G (.func F) args h k := fun μ w fn' vargs s gl hf hv => by
  obtain ⟨f, e, hh⟩ := hp (mu0 L0) w fn' vargs (s0 w) g0 (show FnR (mu0 L0) (.func F) fn' by cases fn' <;> exact hf) (VRs.plain _ _ ha hv)
  refine ⟨f, e, ?_⟩
  rcases hh with ⟨v, w', μ', av, h', h1, h2, h3, h4, h5⟩ | ⟨h1, h2⟩
  · subst h5
    have b := below_of_ext h3 (own_init ho)
    exact .inl ⟨v, w', μ, av, h, h1, s.below b, .below b, VR.plain _ _ hr h4, hk⟩
  · refine .inr ⟨h1, h2.mono fun e w' he => ?_⟩
    obtain ⟨v, μ', av, h', h3, h4, h5, h6, h7⟩ := he
    subst h7
    have b := below_of_ext h5 (own_init ho)
    exact ⟨v, μ, av, h, h3, s.below b, .below b, VR.plain _ _ hr h6, hk⟩
end Go.Den
/-
  The memory, as the pieces ask it.
-/
namespace Go.Den
open Go.RowKit
theorem newK_i {h : H} {o : Ob FT} {K : P → H → Prop} (hk : K h.next (h.new o)) : Hp.newK h o K := by
  obtain ⟨m, n⟩ := h
  show forceT (Tr.set .dead o m n) (fun m => K n ⟨m, P.succ n⟩)
  rw [forceT_eq]; exact hk
theorem putK_i {h : H} {b : P} {o : Ob FT} {K : H → Prop} (hk : K (h.put b o)) : Hp.putK h b o K := by
  obtain ⟨m, n⟩ := h
  show forceT (Tr.set .dead o m b) (fun m => K ⟨m, n⟩)
  rw [forceT_eq]; exact hk
section
variable {h : H} {b : P} {t : Tm} {n z : Nat} {e : TypeId} {w : Bool}
theorem ld1_i {o : Nat} {K : AV → Prop} (ha : h.at b = .row t n z e w) (ho : o < n) (hk : K (tget t o)) : ld1 (.ptr b o) h K := by
  show h.read1K b o bad0 K
  unfold Hp.read1K
  rw [ha]
  show rd1Row o bad0 K t n
  unfold rd1Row
  rw [show Nat.ble (Nat.add o 1) n = true from Nat.ble_eq_true_of_le ho]
  show forceV (tget t o) K
  rw [forceV_eq]; exact hk
theorem ldn_i {o c : Nat} {K : AV → Prop} (ha : h.at b = .row t n z e w) (ho : o + c ≤ n) (hk : K (.agg (getCells t c o))) : ldn c (.ptr b o) h K := by
  show h.readK b o c bad0 (fun l => K (.agg l))
  unfold Hp.readK
  rw [ha]
  show rdRow o c bad0 (fun l => K (.agg l)) t n
  unfold rdRow
  rw [show Nat.ble (Nat.add o c) n = true from Nat.ble_eq_true_of_le ho]
  exact hk
theorem writeK_i {o : Nat} {cs : List AV} {K : H → Prop} (ha : h.at b = .row t n z e w) (hz : z ≤ o) (ho : o + cs.length ≤ n) (hk : K (h.put b (.row (tlist cs o t) n z e w))) : h.writeK b o cs bad0 K := by
  unfold Hp.writeK
  rw [ha]
  show wrRow h b o cs bad0 K t n z e w
  unfold wrRow
  rw [show Nat.ble z o = true from Nat.ble_eq_true_of_le hz, len_eq, show Nat.ble (Nat.add o cs.length) n = true from Nat.ble_eq_true_of_le ho]
  show forceT (tlist cs o t) (fun t => h.putK b (.row t n z e w) K)
  rw [forceT_eq]
  exact putK_i hk
theorem st1_i {o : Nat} {v : AV} {K : H → Prop} (ha : h.at b = .row t n z e w) (hz : z ≤ o) (ho : o < n) (hv : v.one = true) (hk : K (h.put b (.row (tlist [v] o t) n z e w))) : st1 (.ptr b o) v h K := by
  have : h.writeK b o [v] bad0 K := writeK_i ha hz ho hk
  show one v (h.writeK b o [v] bad0 K)
  cases v <;> first | exact this | cases hv
theorem stn_i {o c : Nat} {cs : List AV} {K : H → Prop} (ha : h.at b = .row t n z e w) (hz : z ≤ o) (hc : cs.length = c) (h1 : 1 ≤ c) (ho : o + c ≤ n) (hk : K (h.put b (.row (tlist cs o t) n z e w))) : stn c (.ptr b o) (.agg cs) h K := by
  show Bool.rec bad0 (h.writeK b o cs bad0 K) (band (Nat.beq (len cs) c) (Nat.ble 1 c))
  rw [len_eq, hc, Nat.beq_refl, Nat.ble_eq_true_of_le h1]
  exact writeK_i ha hz (hc ▸ ho) hk
end
theorem at_new_same (h : H) (o : Ob FT) : (h.new o).at h.next = o := by rw [at_new, if_pos rfl]
theorem at_put_same (h : H) (b : P) (o : Ob FT) : (h.put b o).at b = o := by rw [at_put, if_pos rfl]
theorem getCells_eq (t : Tm) : ∀ (n o : Nat), getCells t n o = (List.range n).map fun i => tget t (o + i)
  | 0, _ => rfl
  | n + 1, o => by
    show tget t o :: getCells t n (Nat.add o 1) = _
    rw [getCells_eq t n, List.range_succ_eq_map, List.map_cons, List.map_map]
    congr 1
    apply List.map_congr_left
    intro i _
    show tget t (o + 1 + i) = tget t (o + (i + 1))
    congr 1; omega
/-- a row that was just made and filled -/
theorem new_fill {h : H} {e : TypeId} {zs cs : List AV} {c : Nat} {K : H → Prop} (hz : zs.length = c) (hc : cs.length = c) (h1 : 1 ≤ c)
    (hk : ∀ h', h'.at h.next = .row (tlist cs 0 (tlist zs 0 .e)) c 0 e true → K h') : stn c (.ptr h.next 0) (.agg cs) (h.new (rowOf e zs)) K := by
  have ha : (h.new (rowOf e zs)).at h.next = .row (tlist zs 0 .e) c 0 e true := by
    rw [at_new_same]; unfold rowOf; rw [len_eq, hz]
  exact stn_i ha (Nat.le_refl _) hc h1 (by omega) (hk _ (by rw [at_put_same]))

theorem asB_b {b : Bool} {K : Bool → Prop} : asB (.bool b) K = K b := rfl
theorem asS_s {l c : Nat} {K : Nat → Nat → Prop} : asS (.str l c) K = K l c := rfl
theorem asI_k {k : IntKind} {n : Int} {K : Int → Prop} : asI k (.int k n) K = K n := by cases k <;> rfl
theorem ext_0 {a : AV} {l : List AV} {K : AV → Prop} : ext 0 (.tuple (a :: l)) K = K a := rfl
theorem ext_1 {a b : AV} {l : List AV} {K : AV → Prop} : ext 1 (.tuple (a :: b :: l)) K = K b := rfl
theorem natI_eq {n : Nat} {K : Nat → Prop} : natI (Int.ofNat n) K = K n := rfl
end Go.Den
