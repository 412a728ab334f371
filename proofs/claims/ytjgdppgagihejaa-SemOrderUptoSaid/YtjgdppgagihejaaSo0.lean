/- The law, evaluated by the kernel for lists of each length. Printed by a program. -/
import Derived.Test.YtjgdppgagihejaaCt5
namespace Go.Proofs.Ytjgdppgagihejaa
open Go Go.Ab Go.RowKit
set_option maxRecDepth 100000
set_option linter.unusedVariables false
theorem first_e : isT (runR Try.prog (codeT tabL) ov0 200 12 [] .nil) = true := by kernel_rfl
theorem first_ev : PureEv Try.prog 12 [] (.bool true) := law_R ⟨fun _ => 0, []⟩ (fs := []) nofun mixed tabL_ok ov0_ok first_e
end Go.Proofs.Ytjgdppgagihejaa
