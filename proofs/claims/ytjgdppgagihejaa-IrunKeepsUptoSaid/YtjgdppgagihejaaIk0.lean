/- IrunKeeps, evaluated by the kernel for each register. Printed by a program. -/
import Derived.Test.YtjgdppgagihejaaCt3
namespace Go.Proofs.Ytjgdppgagihejaa
open Go Go.Ab Go.RowKit
set_option maxRecDepth 100000
set_option linter.unusedVariables false
/-- What is left of the register's number, read as one without a sign, by 16. -/
def rem16 : SE := .bop .rem .u64 (.cv .u64 (.var 0)) (.num 16)
theorem first_e : isT (runR Try.prog (codeT tabL) ov0 200 10 [] .nil) = true := by kernel_rfl
theorem first_ev : PureEv Try.prog 10 [] (.bool true) := law_R ⟨fun _ => 0, []⟩ (fs := []) nofun mixed tabL_ok ov0_ok first_e
end Go.Proofs.Ytjgdppgagihejaa
