/- What the functions compute, and that they do (printed by wip/gen/gen.py), part 2. -/
import Derived.Test.YtgoejecjmodjiaaDoorGenRa
namespace Go.Proofs.YtgoejecjmodjiaaDoor
open Go Go.Ab
set_option maxRecDepth 20000
set_option maxHeartbeats 2000000
set_option linter.unusedVariables false
set_option linter.unusedSimpArgs false
end Go.Proofs.YtgoejecjmodjiaaDoor

