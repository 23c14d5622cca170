/-
 Proof.
-/
import Derived.Test.YtheajahjkmfeaaaGreatDoorSml
namespace Go.Den
open Go.RowKit
set_option maxRecDepth 100000
theorem Tp3{h:H}{q:P}{x:TkA}(ha:AtP h q 0 x.cs){K:AV→Prop}(hk:K (.agg [S x.fl,.int .i64 x.f,.int .i64 x.t])):Ac 3 (.ptr q 0) fun a=>ldn 3 a h K:=by
 rw[Ae]
 exact ha.Bej (j:=3) (c:=3) (by show 3+3≤8;decide) hk
end Go.Den
