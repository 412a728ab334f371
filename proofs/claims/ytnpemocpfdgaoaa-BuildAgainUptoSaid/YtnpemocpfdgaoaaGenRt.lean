/- What the functions compute, and that they do (printed by wip/gen/gen.py), part 1. -/
import Derived.Test.YtnpemocpfdgaoaaWlH2
import Derived.Test.YtnpemocpfdgaoaaRows
import Derived.Test.YtnpemocpfdgaoaaGenTr
set_option linter.unusedVariables false
set_option linter.unusedSimpArgs false
namespace Go.Proofs.Ytnpemocpfdgaoaa
open Go Go.Ab
set_option maxRecDepth 20000
set_option maxHeartbeats 2000000
end Go.Proofs.Ytnpemocpfdgaoaa

