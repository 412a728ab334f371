/- What the functions compute, and that they do (printed by wip/gen/gen.py), part 1. -/
import Derived.Test.YtnpemocpfdgaoaaWlH2
import Derived.Test.YtnpemocpfdgaoaaRows
import Derived.Test.YtnpemocpfdgaoaaGenK
set_option linter.unusedVariables false
set_option linter.unusedSimpArgs false
namespace Go.Proofs.Ytnpemocpfdgaoaa
open Go Go.Ab
set_option maxRecDepth 20000
set_option maxHeartbeats 2000000
structure a1Z where
  Kind : Int
  Value : Int
def a1Z.cells (x : a1Z) : List AV := [(.int .i64 x.Kind), (.int .u64 x.Value)]
def a1Z.av (x : a1Z) : AV := .agg (a1Z.cells x)
theorem a1Z.enc : Enc a1Z.av (some 2) := ⟨fun _ => rfl, fun _ => rfl, fun _ => rfl, fun x n => i7 ⟨((f7 .i64).blw x.Kind n), ((f7 .u64).blw x.Value n), trivial⟩⟩
end Go.Proofs.Ytnpemocpfdgaoaa

