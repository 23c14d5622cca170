/-
 Part of the proof.
-/
import Derived.Test.YtcnmehbkpaoolaaGreatDoorLex6
namespace Go.Den
open Go.RowKit
set_option maxRecDepth 100000
def GA (h2 : H) (vr : AV) (l1 c1 : Nat) (k : KV) (B : List UInt8) (i : Nat) (b : Bool) (T : List Tok) : Prop :=
 ∀ n h, 3 * (B.length - i) + 3 ≤ n → T.length ≤ i → LS h2 h T → (r46 W1 k n).a1 1 102 l1 c1 vr .Ad .Ad (.ptr h2.next 0) b (Int.ofNat i) h
def Lx (B : List UInt8) (Q : List Tok → Prop) (i : Nat) (b : Bool) (T : List Tok) : Prop :=
 ∀ h2 vr l1 c1 k, Rs h2 vr B → B.length ≤ 1000000 → (∀ T' b', Q T' → GA h2 vr l1 c1 k B (B.length - 1) b' T') → GA h2 vr l1 c1 k B i b T
theorem Lx.ends {B : List UInt8} {Q : List Tok → Prop} {b : Bool} {T : List Tok} (h : Q T) : Lx B Q (B.length - 1) b T :=
 fun _ _ _ _ _ _ _ hk => hk T b h
theorem Lx.ws {B : List UInt8} {Q : List Tok → Prop} {i : Nat} {b : Bool} {T : List Tok} (hi : i < B.length) (h10 : B[i] ≠ 10) (hw : Gr B[i] = true) (hk : Lx B Q (i + 1) true T) : Lx B Q i b T := by
 intro h2 vr l1 c1 k hr hl hq n h hn hT hs
 obtain ⟨n, rfl⟩ : ∃ m, n = m + 1 := ⟨n - 1, by omega⟩
 have hr' := hr.ext hs.1
 refine Aiy ?_
 unfold Wz
 rw [hr'.len, ilt, decide_eq_true hi]
 refine Cg rfl ?_
 rw [Ar]
 refine hr'.at0 hi ?_
 unfold ub
 rw [Au, Sw _ 10 10 rfl, decide_eq_false h10]
 refine Bp rfl ?_
 rw [Ar]
 refine hr'.at0 hi ?_
 unfold ub
 rw [Au]
 refine Dq (c78 _) ?_
 rw [Ce, hw]
 refine Cg rfl ?_
 rw [Dl, Co (by omega), As]
 exact hk h2 vr l1 c1 k hr hl hq n h (by omega) (by omega) hs
theorem A1s {a b c : AV} {l : List AV} {K : AV → Prop} : ext 2 (.tuple (a :: b :: c :: l)) K = K c := rfl
theorem Lx.tok {B : List UInt8} {Q : List Tok → Prop} {i : Nat} {b : Bool} {T : List Tok} {C : Nat → Nat → Prop} (hi : i < B.length) (h10 : B[i] ≠ 10) (hw : Gr B[i] = false) (hc : bt B i ≠ 47 ∨ (bt B (i + 1) ≠ 47 ∧ bt B (i + 1) ≠ 42))
 (hN : ∀ h vr (k : KV), Rs h vr B → B.length ≤ 1000000 → (∀ kd e h', C kd e → Exh h h' → k (.tuple [.int .i64 (Int.ofNat kd), .int .i64 (Int.ofNat e), .bool false]) h') → W1 (.func 80) [vr, .int .i64 (Int.ofNat i)] h k)
 (hC : ∀ kd e, C kd e → i < e ∧ e ≤ B.length)
 (hk : ∀ kd e f t, C kd e → Lx B Q e false (T ++ [⟨kd, (B.drop i).take (e - i), b, f, t⟩])) : Lx B Q i b T := by
 intro h2 vr l1 c1 k hr hl hq n h hn hT hs
 obtain ⟨n, rfl⟩ : ∃ m, n = m + 3 := ⟨n - 3, by omega⟩
 have hr' := hr.ext hs.1
 refine Aiy ?_
 unfold Wz
 rw [hr'.len, ilt, decide_eq_true hi]
 refine Cg rfl ?_
 rw [Ar]
 refine hr'.at0 hi ?_
 unfold ub
 rw [Au, Sw _ 10 10 rfl, decide_eq_false h10]
 refine Bp rfl ?_
 rw [Ar]
 refine hr'.at0 hi ?_
 unfold ub
 rw [Au]
 refine Dq (c78 _) ?_
 rw [Ce, hw]
 refine Bp rfl ?_
 refine A8z hr' (by omega) hc ?_
 rw [Eo, Au, Ew, Ce, ilt, decide_eq_false (Nat.lt_irrefl i)]
 refine Bp rfl ?_
 refine hN h vr _ hr' hl fun kd e h' hC' hx => ?_
 obtain ⟨e1, e2⟩ := hC kd e hC'
 rw [Eo, Au, Ew, Au, A1s, Ce]
 have hs' : LS h2 h' T := by
  obtain ⟨y1, y2, t, y3, y4⟩ := hs
  exact ⟨y1.trans hx, by have := hx.1; omega, t, by rw [hx.2 _ y2]; exact y3, y4.ext hx⟩
 refine A4n hr hl (by omega) hs' e1 e2 fun f t h'' hs'' => ?_
 exact hk kd e f t hC' h2 vr l1 c1 k hr hl hq n h'' (by omega) (by rw [List.length_append, List.length_singleton]; omega) hs''
theorem Bg1 {B : List UInt8} {i : Nat} (hi : i < B.length) : B[i] = bt B i := (Vp hi).symm
theorem A02 {e : TypeId} {sz : Nat} {ei : TI} {h : H} {x : AV} {ds : List AV} (hx : Bs h sz x = some (1, ds)) (hsz : ei.size = sz) (hf : Cl ei 1 = true) : Db (some false) .Ad x h e ei = some (.slice h.next 0 1 sz false, h.new (.row (Ah ds 0 .e) (Nat.mul 1 sz) 0 e false)) := by
 show (Option.rec none (fun p => Bool.rec none (Bool.rec (Jx e ei.size .Ad p.1 p.2 h) (some (.Ad, h)) (Nat.beq p.1 0)) (Ai (Fl .Ad) (Cl ei (Nat.add (Ey .Ad) p.1)))) (Bs h ei.size x) : Option (AV × H)) = _
 rw [hsz, hx]
 show (Bool.rec none (Jx e sz .Ad 1 ds h) (Cl ei 1) : Option (AV × H)) = _
 rw [hf]; rfl
theorem A4o {h2 h : H} {vr : AV} {B : List UInt8} {T : List Tok} {l1 c1 n : Nat} {b : Bool} {k : KV} (hB : Rs h2 vr B) (hl : B.length ≤ 1000000) (h0 : 0 < B.length) (h10 : bt B (B.length - 1) = 10) (hs : LS h2 h T)
 (hk : ∀ h' q t w, Exh h2 h' → q.nat < h'.next.nat → h'.at q = .row t 4 0 114 w → Ct 43 8 h2.next.nat h' (Bd t 0) (T.map Tok.cells) → k (.tuple [.slice q 0 1 4 false, .Ad]) h') :
 (r46 W1 k (n + 3)).a1 1 102 l1 c1 vr .Ad .Ad (.ptr h2.next 0) b (Int.ofNat (B.length - 1)) h := by
 obtain ⟨x0, hn, t, ht, hb⟩ := hs
 have hB' := hB
 obtain ⟨L, rr, hL⟩ := hB'
 have r := rr.ext x0
 have hi : B.length - 1 < B.length := by omega
 have i1 : B.length - 1 < L.length := by rw [hL.1]; omega
 obtain ⟨f1, t1, _, _, hc1⟩ := hL.2 (B.length - 1) hi i1
 refine Aiy ?_
 unfold Wz
 rw [(hB.ext x0).len, ilt, decide_eq_true hi]
 refine Cg rfl ?_
 rw [Ar]
 refine (hB.ext x0).at0 hi ?_
 rw [Bg1 hi, h10]
 unfold ub
 rw [Au]
 refine Cg rfl ?_
 rw [Ar]
 refine r.fld (j := 2) i1 (by rw [hc1]; show 2 < 3; decide) ?_
 simp only [hc1, rn, List.getElem_cons_succ, List.getElem_cons_zero]
 rw [Au, Ba]
 refine Pp ht (Nat.zero_le _) (by decide) rfl ?_
 generalize hh3 : h.put h2.next (.row (Ah [.int .i64 (Int.ofNat t1)] (0 + 2) t) 4 0 114 true) = h3
 have a3 : h3.at h2.next = .row (Ah [.int .i64 (Int.ofNat t1)] (0 + 2) t) 4 0 114 true := by subst hh3; exact Bo _ _ _
 have n3 : h3.next = h.next := by subst hh3; rfl
 have f3 : ∀ c, c ≠ h2.next → h3.at c = h.at c := fun c hc => by subst hh3; exact Bx hc
 have e0 : Bd (Ah [.int .i64 (Int.ofNat t1)] (0 + 2) t) 0 = Bd t 0 := by rw [Ap]; simp
 have b3 : Ct 43 8 h2.next.nat h3 (Bd t 0) (T.map Tok.cells) := hb.frame (by rw [n3]; exact Nat.le_refl _) fun c hc _ tt m z w ha => f3 c fun e' => by subst e'; rw [ht] at ha; cases ha
 refine Acs (c := 4) a3 (by decide) ?_
 have hg : Cp (Ah [.int .i64 (Int.ofNat t1)] (0 + 2) t) 4 0 = [Bd t 0, Bd (Ah [.int .i64 (Int.ofNat t1)] (0 + 2) t) 1, Bd (Ah [.int .i64 (Int.ofNat t1)] (0 + 2) t) 2, Bd (Ah [.int .i64 (Int.ofNat t1)] (0 + 2) t) 3] := by
  rw [← e0]; rfl
 rw [hg, Bg3, Ae, Bhi]
 rw [A02 (sz := 4) (Yc rfl) Bjj (A50 (by decide)), Ae]
 generalize hR1 : (Ob.row (Ah [Bd t 0, Bd (Ah [.int .i64 (Int.ofNat t1)] (0 + 2) t) 1, Bd (Ah [.int .i64 (Int.ofNat t1)] (0 + 2) t) 2, Bd (Ah [.int .i64 (Int.ofNat t1)] (0 + 2) t) 3] 0 Z60) 4 0 114 true : Ob FT) = R1
 generalize hR2 : Ah [Bd t 0, Bd (Ah [.int .i64 (Int.ofNat t1)] (0 + 2) t) 1, Bd (Ah [.int .i64 (Int.ofNat t1)] (0 + 2) t) 2, Bd (Ah [.int .i64 (Int.ofNat t1)] (0 + 2) t) 3] 0 .e = R2
 have e2 : Bd R2 0 = Bd t 0 := by subst hR2; rw [Ap]; simp
 generalize hh5 : (h3.new R1).new (.row R2 (Nat.mul 1 4) 0 114 false) = h5
 have x5 : Exh h3 h5 := by subst hh5; exact Exh.new.trans Exh.new
 have q1 : (h3.new R1).next.nat < h5.next.nat := by subst hh5; exact Nat.lt_of_lt_of_eq (Nat.lt_succ_self _) Bf.symm
 have q0 : h3.next.nat < (h3.new R1).next.nat := by rw [Bf]; omega
 have a5 : h5.at (h3.new R1).next = .row R2 4 0 114 false := by subst hh5; exact Ax _ _
 generalize (h3.new R1).next = q at *
 have hn3 : h2.next.nat < h3.next.nat := by rw [n3]; exact hn
 have hne : q ≠ h2.next := fun e' => by subst e'; omega
 have y5 : Exh h2 h5 := by
  refine ⟨Nat.le_trans (Nat.le_of_lt hn3) x5.1, fun c hc => ?_⟩
  rw [x5.2 c (by omega), f3 c (fun e' => by subst e'; exact absurd hc (Nat.lt_irrefl _)), x0.2 c hc]
 have r5 : Rd 3 h5 vr L := rr.ext y5
 have b5 : Ct 43 8 h2.next.nat h5 (Bd t 0) (T.map Tok.cells) := b3.ext x5
 have p5 : h5.at h2.next = .row (Ah [.int .i64 (Int.ofNat t1)] (0 + 2) t) 4 0 114 true := by rw [x5.2 _ hn3]; exact a3
 rw [Ar]
 refine r5.fld (j := 2) i1 (by rw [hc1]; show 2 < 3; decide) ?_
 simp only [hc1, rn, List.getElem_cons_succ, List.getElem_cons_zero]
 rw [Au, Bek, Ae]
 refine Tu (c := 4) p5 (Nat.zero_le _) rfl (by decide) (by decide) ?_
 generalize hR3 : (Ob.row (Ah [.Ad, .int .i64 (Int.ofNat t1), .int .i64 (.ofNat 0), .bool false] 0 (Ah [.int .i64 (Int.ofNat t1)] (0 + 2) t)) 4 0 114 true : Ob FT) = R3
 rw [Dl, Co (by omega), As]
 have a6 : (h5.put h2.next R3).at q = .row R2 4 0 114 false := by rw [Bx hne]; exact a5
 have y6 : Exh h2 (h5.put h2.next R3) := ⟨y5.1, fun c hc => by rw [Bx (fun e' => by subst e'; exact absurd hc (Nat.lt_irrefl _))]; exact y5.2 c hc⟩
 have b6 : Ct 43 8 h2.next.nat (h5.put h2.next R3) (Bd t 0) (T.map Tok.cells) := b5.frame (Nat.le_refl _) fun c hc _ tt m z w ha => Bx fun e' => by subst e'; rw [p5] at ha; cases ha
 have n6 : (h5.put h2.next R3).next = h5.next := rfl
 generalize h5.put h2.next R3 = h6 at *
 refine Aiy ?_
 unfold Wz
 rw [(hB.ext y6).len, ilt, decide_eq_false (by omega)]
 refine Bp rfl ?_
 rw [Ji, ilt, decide_eq_true Nat.one_pos]
 refine Cg rfl ?_
 rw [Ji]
 rw [show Jp (Int.ofNat 1) (Int.ofNat 1) = Int.ofNat 0 from rfl, show wrap .i64 (Int.ofNat 0) = Int.ofNat 0 from Co (by omega), As, Ar]
 refine Rm Nat.one_pos ?_
 rw [Ba]
 refine Pp a6 (Nat.zero_le _) (by decide) rfl ?_
 refine Bd4 ?_
 unfold Anj
 refine hk _ q _ false ?_ (by rw [Df, n6]; exact q1) (Bo _ _ _) ?_
 · exact ⟨y6.1, fun c hc => by rw [Bx (fun e' => by subst e'; omega)]; exact y6.2 c hc⟩
 · have : Bd (Ah [.int .i64 (Int.ofNat l1)] (0 + 0 * 4 + 2) R2) 0 = Bd t 0 := by rw [Ap, if_neg (by omega)]; exact e2
   rw [this]
   exact b6.frame (Nat.le_refl _) fun c hc _ tt m z w ha => Bx fun e' => by subst e'; rw [a6] at ha; cases ha
end Go.Den
