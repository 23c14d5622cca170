/-
 Proof.
-/
import Derived.Test.YtmgalljhidgnoaaGreatDoorDenQ
noncomputable section
namespace Go.Den
open Go.RowKit
def XR(Bw:As)(a:Nat):Pos:=List.rec .root (λb _ c=>Bool.rec c b.1 (Nat.beq b.2 a)) Bw
def Az(a:Env)(b:CF)(BP:Ak)(Bw:As)(c0:Code)(K:Fp)(c:Nat):Jump:=Nat.rec PM (λ_ J d f g=>EL a b BP Bw J c0 K (XR Bw d) f g) c
def Ajk(Bw:As):Bool:=Hy (λc=>Pos.beq (XR Bw c.2) c.1) Bw
theorem AI {P : Program} {a : Env} {G : Nat} (b : P.follows .mixedOrders = true) (c : Bt P a) {d : CF} (g : C4 P (CP a) G (λp => p) d) (BP : Ak) {h : FuncId} {fn : Func} {i : Code} (j : P.funcs[h]? = some fn) (k : fn.body = some i) (l : (fn.name == "runtime.NumGoroutine") = false)
 (m:DN P a BP fn.ntmps G true i=true) {o:KV} {Bw:As} (q:Ajk Bw=true) (r:(.root,0)∈Bw) {n:Nat} {s:List U} {t:H} (u:Az a d BP Bw i (Ax a fn.results.toList o) n 0 (Ab s) t):SW P G (.func h) s t o:=by
 refine pH b c g BP j k l m o Bw (Az a d BP Bw i (Ax a fn.results.toList o)) (λ_ _ _ t=>t) (λn p v w f t x=>?_) r u;have y:XR Bw v=p:=Pos.beq_eq (DQ.1 q _ w);have x:EL a d BP Bw (Az a d BP Bw i (Ax a fn.results.toList o) n) i (Ax a fn.results.toList o) (XR Bw v) f t:=x;rwa [y] at x
end Go.Den
