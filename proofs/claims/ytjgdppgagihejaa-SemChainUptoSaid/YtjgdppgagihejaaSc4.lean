/- The law, evaluated by the kernel for lists of each length. Printed by a program. -/
import Derived.Test.YtjgdppgagihejaaSc0
namespace Go.Proofs.Ytjgdppgagihejaa
open Go Go.Ab Go.RowKit
set_option maxRecDepth 100000
set_option linter.unusedVariables false
theorem e0_12 : isT (runR Try.prog (codeT tabL) (ovF 12) 200 6 [.sl false 1 (symL 12)] ⟨0, .e⟩) = true := by kernel_rfl
theorem e0_13 : isT (runR Try.prog (codeT tabL) (ovF 12) 200 6 [.sl false 1 (symL 13)] ⟨0, .e⟩) = true := by kernel_rfl
theorem e0_14 : isT (runR Try.prog (codeT tabL) (ovF 12) 200 6 [.sl false 1 (symL 14)] ⟨0, .e⟩) = true := by kernel_rfl
theorem e0_15 : isT (runR Try.prog (codeT tabL) (ovF 12) 200 6 [.sl false 1 (symL 15)] ⟨0, .e⟩) = true := by kernel_rfl
end Go.Proofs.Ytjgdppgagihejaa
