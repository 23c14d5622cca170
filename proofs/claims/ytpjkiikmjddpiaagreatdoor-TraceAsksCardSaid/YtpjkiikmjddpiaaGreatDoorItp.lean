/-
  A part of the proof: functions whose pieces are not printed: their code is gone through as it stands.
-/
import Derived.Test.YtpjkiikmjddpiaaGreatDoorDenQ
namespace Go.Den
open Go.RowKit
noncomputable def posAt (cuts:Cuts) (L:Nat):Pos:=List.rec .root (fun c _ ih=>Bool.rec ih c.1 (Nat.beq c.2 L)) cuts
noncomputable def runJ (E:Env) (call:Caller Prop FT) (pls:Plans) (cuts:Cuts) (c0:Code) (K:KX') (m:Nat):Jump:=Nat.rec noJ (fun _ J L f h=>chunkA E call pls cuts J c0 K (posAt cuts L) f h) m
noncomputable def okCuts (cuts:Cuts):Bool:=allL (fun c=>Pos.beq (posAt cuts c.2) c.1) cuts
theorem fnI_ok {P : Program} {E : Env} {G : Nat} (hm : P.follows .mixedOrders = true) (ok : EnvOk P E) {call : Caller Prop FT} (hcall : CallOk P (CP E) G (fun p => p) call) (pls : Plans) {fid : FuncId} {fn : Func} {c : Code} (hf : P.funcs[fid]? = some fn) (hb : fn.body = some c) (hname : (fn.name == "runtime.NumGoroutine") = false)
    (hk:okCode P E pls fn.ntmps G true c=true) {k:KV} {cuts:Cuts} (hc:okCuts cuts=true) (hr:(.root,0)∈cuts) {n:Nat} {args:List AV} {h:H} (hg:runJ E call pls cuts c (retA E fn.results.toList k) n 0 (finit args) h):SW P G (.func fid) args h k:=by
  refine fn_ok hm ok hcall pls hf hb hname hk k cuts (runJ E call pls cuts c (retA E fn.results.toList k)) (fun _ _ _ h=>h) (fun n p L hl f h hj=>?_) hr hg
  have hp:posAt cuts L=p:=Pos.beq_eq (allL_iff.1 hc _ hl)
  have hj:chunkA E call pls cuts (runJ E call pls cuts c (retA E fn.results.toList k) n) c (retA E fn.results.toList k) (posAt cuts L) f h:=hj
  rwa [hp] at hj
end Go.Den
