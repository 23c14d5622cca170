/-
  A part of the proof: what a run begins with.
-/
import Derived.Test.YtbjfkibkjjmdnaaGreatDoorRunD
import Derived.Test.YtbjfkibkjjmdnaaGreatDoorBsd
import Derived.KernelRfl
namespace Go.Den
open Go.RowKit
set_option maxRecDepth 100000
def locs0 : List Loc := [⟨0, 0, 0⟩, ⟨1, 0, 0⟩, ⟨2, 0, 0⟩, ⟨3, 0, 0⟩, ⟨4, 0, 0⟩, ⟨5, 0, 0⟩, ⟨6, 0, 0⟩, ⟨7, 0, 0⟩, ⟨8, 0, 0⟩]
theorem sim0 (w : World) : Sim (mu0 locs0) (initH obs0) w := sim_init rfl rfl fun i o c h _ => by
  have : o = .dead := by
    have := List.mem_of_getElem? h
    exact List.eq_of_mem_replicate this
  subst this; trivial
theorem globs0 : Globs (mu0 locs0) G := globs_init fun g hg => by
  have hg : g < 9 := hg
  refine ⟨⟨g, 0, 0⟩, ?_, rfl, rfl⟩
  match g, hg with
  | 0, _ | 1, _ | 2, _ | 3, _ | 4, _ | 5, _ | 6, _ | 7, _ | 8, _ => rfl
theorem use {F : FuncId} {args : List AV} {r : AV} (hp : Pure PP G h0 F args r) (ha : plains args = true) (hr : plain r = true) {h : H} {k : KV} (hk : k r h) : W1 (.func F) args h k := pure_use sim0 globs0 rfl hp ha hr hk
theorem use2 {F : FuncId} {args : List AV} {r : AV} (hp : Pure PP G h0 F args r) {h : H} {k : KV} (hk : k r h) (ha : plains args = true := by rfl) (hr : plain r = true := by rfl) : W1 (.func F) args h k := use hp ha hr hk
theorem allB_iff {α : Type} {p : α → Bool} : ∀ {l : List α}, allB p l = true ↔ ∀ x ∈ l, p x = true
  | [] => ⟨fun _ _ h => (List.not_mem_nil h).elim, fun _ => rfl⟩
  | x :: l => by
    show (Bool.rec false (allB p l) (p x) : Bool) = true ↔ _
    cases e : p x with
    | true =>
      show allB p l = true ↔ _
      rw [allB_iff]
      exact ⟨fun h y hy => (List.mem_cons.1 hy).elim (fun e' => by rw [e']; exact e) (h y), fun h y hy => h y (List.mem_cons_of_mem _ hy)⟩
    | false => exact ⟨(fun h => by cases h), fun h => by rw [h x (List.mem_cons_self)] at e; cases e⟩
theorem callsA_ok {v : Nat} (hA : ∀ {h : H} {k : KV}, k (.bool true) h → SW PP G (.func v) [] h k) (m : Nat) : ∀ n, CallOk PP (CP env) G (fun p => p) (callsA v m n)
  | 0 => fun _ _ _ _ _ _ _ _ _ _ _ _ hg => hg.elim
  | n + 1 => fun μ h w fn fn' args vargs k s gl hf hv hg => by
    cases fn with
    | func i =>
      have hg : cnd (Nat.beq i v) (List.rec (k (.bool true) h) (fun _ _ _ => False) args) (disp (callsA v m n) m i args h k) := hg
      cases e7 : Nat.beq i v with
      | true =>
        rw [e7] at hg
        cases Nat.eq_of_beq_eq_true e7
        cases args with
        | nil => exact hA (show k (.bool true) h from hg) μ w fn' vargs s gl hf hv
        | cons => exact (show False from hg).elim
      | false =>
        rw [e7] at hg
        exact disp_ok (callsA_ok hA m n) (show disp (callsA v m n) m i args h k from hg) μ w fn' vargs s gl hf hv
    | yield l => exact yield_ok mixed envOk (callsA_ok hA m n) (show yieldA env (callsA v m n) (okLp PP env G) l args h k from hg) μ w fn' vargs s gl hf hv
    | _ => exact hg.elim
theorem conjN_i {A : Prop} (h : A) : ∀ n, conjN n A
  | 0 => trivial
  | 1 => h
  | n + 2 => ⟨h, conjN_i h (n + 1)⟩
theorem shpN_i {A : Prop} (h : A) : ∀ n, shpN n A
  | 0 => h
  | n + 1 => conjN_i (shpN_i h n) (n + 1)
theorem shp_i : ∀ l, shp l
  | [] => trivial
  | n :: l => shpN_i (shp_i l) n
theorem sh_run {F : FuncId} {args : List AV} {l : List Nat} {m n : Nat} (h : calls m n (.func F) args h0 isT = shp l) : Pure PP G h0 F args (.bool true) :=
  sw_mono (sw_of (calls_ok m n) (h.mpr (shp_i l))) fun _ _ h => isT_inv h
end Go.Den
