/- The law, evaluated by the kernel for lists of each length. Printed by a program. -/
import Derived.Test.YtjgdppgagihejaaSc0
namespace Go.Proofs.Ytjgdppgagihejaa
open Go Go.Ab Go.RowKit
set_option maxRecDepth 100000
set_option linter.unusedVariables false
theorem e0_0 : isT (runR Try.prog (codeT tabL) (ovF 12) 200 6 [.sl false 1 (symL 0)] ⟨0, .e⟩) = true := by kernel_rfl
theorem e0_1 : isT (runR Try.prog (codeT tabL) (ovF 12) 200 6 [.sl false 1 (symL 1)] ⟨0, .e⟩) = true := by kernel_rfl
theorem e0_2 : isT (runR Try.prog (codeT tabL) (ovF 12) 200 6 [.sl false 1 (symL 2)] ⟨0, .e⟩) = true := by kernel_rfl
theorem e0_3 : isT (runR Try.prog (codeT tabL) (ovF 12) 200 6 [.sl false 1 (symL 3)] ⟨0, .e⟩) = true := by kernel_rfl
end Go.Proofs.Ytjgdppgagihejaa
