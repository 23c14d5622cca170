/-
  A part of the proof: functions whose pieces are not printed: their code is gone through as it stands.
-/
import Derived.Test.YtcnmehbkpaoolaaGreatDoorDenQ
noncomputable section
namespace Go.Den
open Go.RowKit
def posAt (cuts : Bu) (L : Nat) : Pos := List.rec .root (fun c _ ih => Bool.rec ih c.1 (Nat.beq c.2 L)) cuts
def Kt (E : Env) (call : CF) (pls : Av) (cuts : Bu) (c0 : Code) (K : KX') (m : Nat) : Jump := Nat.rec noJ (fun _ J L f h => Ix E call pls cuts J c0 K (posAt cuts L) f h) m
def okCuts (cuts : Bu) : Bool := Te (fun c => Pos.beq (posAt cuts c.2) c.1) cuts
theorem Kw {P : Program} {E : Env} {G : Nat} (hm : P.follows .mixedOrders = true) (ok : Bo P E) {call : CF} (hcall : Fc P (CP E) G (fun p => p) call) (pls : Av) {fid : FuncId} {fn : Func} {c : Code} (hf : P.funcs[fid]? = some fn) (hb : fn.body = some c) (hname : (fn.name == "runtime.NumGoroutine") = false)
    (hk : Gk P E pls fn.ntmps G true c = true) {k : KV} {cuts : Bu} (hc : okCuts cuts = true) (hr : (.root, 0) ∈ cuts) {n : Nat} {args : List AV} {h : H} (hg : Kt E call pls cuts c (Hq E fn.results.toList k) n 0 (Ac args) h) : SW P G (.func fid) args h k := by
  refine Bds hm ok hcall pls hf hb hname hk k cuts (Kt E call pls cuts c (Hq E fn.results.toList k)) (fun _ _ _ h => h) (fun n p L hl f h hj => ?_) hr hg
  have hp : posAt cuts L = p := Pos.beq_eq (Gg.1 hc _ hl)
  have hj : Ix E call pls cuts (Kt E call pls cuts c (Hq E fn.results.toList k) n) c (Hq E fn.results.toList k) (posAt cuts L) f h := hj
  rwa [hp] at hj
end Go.Den
