/-
  A part of the proof.
-/
import Derived.Test.YtcnmehbkpaoolaaGreatDoorDenQ
import Derived.Test.YtcnmehbkpaoolaaGreatDoorNump
import Derived.Test.YtcnmehbkpaoolaaGreatDoorMaka
import Derived.Test.YtcnmehbkpaoolaaGreatDoorLaid
import Derived.Test.YtcnmehbkpaoolaaGreatDoorLexk
import Derived.Test.YtcnmehbkpaoolaaGreatDoorLexs
namespace Go.Den
open Go.RowKit
set_option maxRecDepth 100000
def Sl (v : AV) : Prop := v = .Cd ∨ ∃ b o n z t, v = .slice b o n z t
end Go.Den
noncomputable section
namespace Go.Den
open Go.RowKit
set_option maxRecDepth 100000
structure Gy where
  kind : Int
  text : List UInt8
  space : Bool
  file : List UInt8
  f : Int
  t : Int
  made : Bool
  sites : AV
def Gy.cells (x : Gy) : List AV := [.int .i64 x.kind, S x.text, .bool x.space, S x.file, .int .i64 x.f, .int .i64 x.t, .bool x.made, x.sites]
def FrO (B : P) (h h' : H) : Prop := h.next.nat ≤ h'.next.nat ∧ ∀ c, c.nat < h.next.nat → c ≠ B → h'.at c = h.at c
end Go.Den
namespace Go.Den
open Go.RowKit
set_option maxRecDepth 100000
section
variable {h : H} {q : P} {K : AV → Prop} {x : Gy}
theorem AtP.kd (ha : AtP h q 0 x.cells) (hk : K (.int .i64 x.kind)) : Go.Den.ld1 (.ptr q (0 + 0)) h K := ha.ld1 (j := 0) (by show 0 < 8; decide) hk
theorem AtP.tx (ha : AtP h q 0 x.cells) (hk : K (S x.text)) : Go.Den.ld1 (.ptr q (0 + 1)) h K := ha.ld1 (j := 1) (by show 1 < 8; decide) hk
end
theorem Ag8 (a : Int) (n : Nat) : Av a (Int.ofNat n) = decide (a = (n : Int)) := by
  rw [Ez]; rfl
theorem Bi4 {h : H} (x : Gy) (t : List UInt8) {k : KV} (hk : ∀ h', Exh h h' → k (.bool (decide (x.kind = 5) && decide (x.text = t))) h') : W1 (.func 136) [.agg x.cells, S t] h k := by
  refine A7r (n := 1) Ca (Bhj ?_)
  unfold Ac7
  rw [Abr]
  refine Ahu (by unfold Gy.cells; simp) (Dk ?_)
  have at1 : AtP (h.new (rowOf 43 x.cells)) h.next 0 x.cells := AtP.newRow
  have x1 : Exh h (h.new (rowOf 43 x.cells)) := .new
  generalize h.new (rowOf 43 x.cells) = h1 at at1 x1 ⊢
  rw [Aj]
  refine at1.kd ?_
  rw [Ar]
  refine Ip (b := decide (x.text = t)) (fun k' hk' => ?_) ?_
  · rw [Aj]
    refine at1.tx ?_
    rw [Di, En]; exact hk'
  rw [Ag8]; exact hk h1 x1
theorem Ci {s t : List UInt8} {l c : Nat} (hl : t.length = l) (hc : enc t = c) : Bm s.length (enc s) l c = decide (s = t) := by
  subst hl hc; exact En
theorem FrO.exh {B : P} {h h' : H} (x : Exh h h') : FrO B h h' := ⟨x.1, fun c hc _ => x.2 c hc⟩
end Go.Den
namespace Go.Den
open Go.RowKit
set_option maxRecDepth 100000
theorem Ky {L : List Gy} {i : Nat} (h : i < L.length) (h' : i < (L.map Gy.cells).length) : (L.map Gy.cells)[i] = L[i].cells := List.getElem_map ..
theorem Rd.tok {hE h : H} {vL : AV} {L : List Gy} {i : Nat} {K : AV → Prop} (hr : Rd 8 hE vL (L.map Gy.cells)) (x : Exh hE h) (hi : i < L.length) (hk : K (.agg L[i].cells)) : Cc 8 i vL fun a => Go.Den.ldn 8 a h K := by
  have hi' : i < (L.map Gy.cells).length := by rw [List.length_map]; exact hi
  refine (hr.ext x).all hi' (by rw [Ky hi]; rfl) ?_
  rw [Ky hi]; exact hk
end Go.Den
namespace Go.Den
open Go.RowKit
set_option maxRecDepth 100000
def RdT (h : H) (v : AV) (L : List Gy) : Prop := (v = .Cd ∧ L = []) ∨ Rd 8 h v (L.map Gy.cells)
theorem RdT.len {h : H} {v : AV} {L : List Gy} (hr : RdT h v L) {K : Nat → Prop} : Gg v K = K L.length := by
  rcases hr with ⟨rfl, rfl⟩ | hr
  · rfl
  · rw [hr.len, List.length_map]
theorem RdT.sl {h : H} {v : AV} {L : List Gy} (hr : RdT h v L) : Sl v := by
  rcases hr with ⟨rfl, _⟩ | ⟨q, o, t, m, z, e, w, b, rfl, _⟩
  · exact .inl rfl
  · exact .inr ⟨_, _, _, _, _, rfl⟩
theorem RdT.rd {h : H} {v : AV} {L : List Gy} (hr : RdT h v L) {i : Nat} (hi : i < L.length) : Rd 8 h v (L.map Gy.cells) := by
  rcases hr with ⟨_, rfl⟩ | hr
  · exact absurd hi (Nat.not_lt_zero _)
  · exact hr
end Go.Den
namespace Go.Den
open Go.RowKit
set_option maxRecDepth 100000
open Go.Lx (Ga bts Tl)
def Au4 (x : Tok) : Gy := ⟨(x.kind : Int), x.text, x.space, [102], (x.f : Int), (x.t : Int), false, .Cd⟩
theorem Aij (T : List Tok) : (T.map Au4).map Gy.cells = T.map Tok.cells := by
  rw [List.map_map]; rfl
end Go.Den
