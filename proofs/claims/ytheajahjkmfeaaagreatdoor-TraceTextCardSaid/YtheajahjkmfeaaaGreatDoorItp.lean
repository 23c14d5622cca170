/-
 Proof.
-/
import Derived.Test.YtheajahjkmfeaaaGreatDoorDenQ
noncomputable section
namespace Go.Den
open Go.RowKit
def Apa(cuts:Bb)(L:Nat):Pos:=List.rec .root (fun c _ ih=>Bool.rec ih c.1 (Nat.beq c.2 L)) cuts
def Cv(E:Env)(call:CF)(pls:Aq)(cuts:Bb)(c0:Code)(K:KX')(m:Nat):Jump:=Nat.rec noJ (fun _ J L f h=>Il E call pls cuts J c0 K (Apa cuts L) f h) m
def A7i(cuts:Bb):Bool:=Sp (fun c=>Pos.beq (Apa cuts c.2) c.1) cuts
theorem Cw {P : Program} {E : Env} {G : Nat} (hm : P.follows .mixedOrders = true) (ok : Cg P E) {call : CF} (hcall : Fb P (CP E) G (fun p => p) call) (pls : Aq) {fid : FuncId} {fn : Func} {c : Code} (hf : P.funcs[fid]? = some fn) (hb : fn.body = some c) (hname : (fn.name == "runtime.NumGoroutine") = false)
 (hk:Gk P E pls fn.ntmps G true c=true) {k:KV} {cuts:Bb} (hc:A7i cuts=true) (hr:(.root,0)∈cuts) {n:Nat} {args:List AV} {h:H} (hg:Cv E call pls cuts c (Cr E fn.results.toList k) n 0 (Ab args) h):SW P G (.func fid) args h k:=by
 refine A3l hm ok hcall pls hf hb hname hk k cuts (Cv E call pls cuts c (Cr E fn.results.toList k)) (fun _ _ _ h=>h) (fun n p L hl f h hj=>?_) hr hg
 have hp:Apa cuts L=p:=Pos.beq_eq (Gc.1 hc _ hl)
 have hj:Il E call pls cuts (Cv E call pls cuts c (Cr E fn.results.toList k) n) c (Cr E fn.results.toList k) (Apa cuts L) f h:=hj
 rwa [hp] at hj
end Go.Den
