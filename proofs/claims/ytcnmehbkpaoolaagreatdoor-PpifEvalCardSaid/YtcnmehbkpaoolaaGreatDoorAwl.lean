/-
 Proof.
-/
import Derived.Test.YtcnmehbkpaoolaaGreatDoorLaid
namespace Go.Den
set_option maxRecDepth 100000
theorem Ba4{n m:Nat}{F:Fn}{a:List AV}{h:H}{k:KV}{Q:Prop}(e:calls n m F a h k=Q)(q:Q):W1 F a h k:=Ayp (Ve n m) (e.mpr q)
theorem c25:Pure PP G h1 25 [] (.bool true):=by
 have e:calls 100000 100000 (.func 25) [] h1 (fun v _=>v=.bool true)=((AV.bool true:AV)=.bool true∧(AV.bool true:AV)=.bool true):=by kernel_rfl
 exact Ba4 e ⟨rfl,rfl⟩
end Go.Den
