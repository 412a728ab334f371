/- What the functions compute, and that they do (printed by wip/gen/gen.py), part 1. -/
import Derived.Test.YtnpemocpfdgaoaaWlH2
import Derived.Test.YtnpemocpfdgaoaaRows
import Derived.Test.YtnpemocpfdgaoaaGenK
set_option linter.unusedVariables false
set_option linter.unusedSimpArgs false
namespace Go.Proofs.Ytnpemocpfdgaoaa
open Go Go.Ab
set_option maxRecDepth 20000
set_option maxHeartbeats 2000000
structure a1A where
  Kind : Int
  Value : Int
def a1A.cells (x : a1A) : List AV := [(.int .i64 x.Kind), (.int .u64 x.Value)]
def a1A.av (x : a1A) : AV := .agg (a1A.cells x)
theorem a1A.enc : Enc a1A.av (some 2) := ⟨fun _ => rfl, fun _ => rfl, fun _ => rfl, fun x n => f9 ⟨((d8 .i64).blw x.Kind n), ((d8 .u64).blw x.Value n), trivial⟩⟩
end Go.Proofs.Ytnpemocpfdgaoaa

