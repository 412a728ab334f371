/- The law, evaluated by the kernel for lists of each length. Printed by a program. -/
import Derived.Test.YtjgdppgagihejaaSc0
namespace Go.Proofs.Ytjgdppgagihejaa
open Go Go.Ab Go.RowKit
set_option maxRecDepth 100000
set_option linter.unusedVariables false
theorem e0_4 : isT (runR Try.prog (codeT tabL) (ovF 12) 200 6 [.sl false 1 (symL 4)] ⟨0, .e⟩) = true := by kernel_rfl
theorem e0_5 : isT (runR Try.prog (codeT tabL) (ovF 12) 200 6 [.sl false 1 (symL 5)] ⟨0, .e⟩) = true := by kernel_rfl
theorem e0_6 : isT (runR Try.prog (codeT tabL) (ovF 12) 200 6 [.sl false 1 (symL 6)] ⟨0, .e⟩) = true := by kernel_rfl
theorem e0_7 : isT (runR Try.prog (codeT tabL) (ovF 12) 200 6 [.sl false 1 (symL 7)] ⟨0, .e⟩) = true := by kernel_rfl
end Go.Proofs.Ytjgdppgagihejaa
