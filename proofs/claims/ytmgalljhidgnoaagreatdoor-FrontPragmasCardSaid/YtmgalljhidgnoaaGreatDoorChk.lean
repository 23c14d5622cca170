/-
 Proof.
-/
import Derived.Test.YtmgalljhidgnoaaGreatDoorSml
namespace Go.Den
open Go.RowKit
set_option maxRecDepth 100000
theorem Tp3{b:H}{q:P}{x:Yx}(c:Dl b q 0 x.cs){K:U→Prop}(d:K (.agg [S x.fl,.int .i64 x.f,.int .i64 x.t])):Ac 3 (.ptr q 0) λa=>A3 3 a b K:=by rw[Ae];exact c.uc (j:=3) (c:=3) (by show 3+3≤8;decide) d
end Go.Den
