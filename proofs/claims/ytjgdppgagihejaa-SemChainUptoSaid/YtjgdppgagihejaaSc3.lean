/- The law, evaluated by the kernel for lists of each length. Printed by a program. -/
import Derived.Test.YtjgdppgagihejaaSc0
namespace Go.Proofs.Ytjgdppgagihejaa
open Go Go.Ab Go.RowKit
set_option maxRecDepth 100000
set_option linter.unusedVariables false
theorem e0_8 : isT (runR Try.prog (codeT tabL) (ovF 12) 200 6 [.sl false 1 (symL 8)] ⟨0, .e⟩) = true := by kernel_rfl
theorem e0_9 : isT (runR Try.prog (codeT tabL) (ovF 12) 200 6 [.sl false 1 (symL 9)] ⟨0, .e⟩) = true := by kernel_rfl
theorem e0_10 : isT (runR Try.prog (codeT tabL) (ovF 12) 200 6 [.sl false 1 (symL 10)] ⟨0, .e⟩) = true := by kernel_rfl
theorem e0_11 : isT (runR Try.prog (codeT tabL) (ovF 12) 200 6 [.sl false 1 (symL 11)] ⟨0, .e⟩) = true := by kernel_rfl
end Go.Proofs.Ytjgdppgagihejaa
