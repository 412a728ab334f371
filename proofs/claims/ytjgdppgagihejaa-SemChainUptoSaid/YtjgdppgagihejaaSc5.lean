/- The law, evaluated by the kernel for lists of each length. Printed by a program. -/
import Derived.Test.YtjgdppgagihejaaSc0
namespace Go.Proofs.Ytjgdppgagihejaa
open Go Go.Ab Go.RowKit
set_option maxRecDepth 100000
set_option linter.unusedVariables false
theorem e0_16 : isT (runR Try.prog (codeT tabL) (ovF 12) 200 6 [.sl false 1 (symL 16)] ⟨0, .e⟩) = true := by kernel_rfl
theorem e0_17 : isT (runR Try.prog (codeT tabL) (ovF 12) 200 6 [.sl false 1 (symL 17)] ⟨0, .e⟩) = true := by kernel_rfl
theorem e0_18 : isT (runR Try.prog (codeT tabL) (ovF 12) 200 6 [.sl false 1 (symL 18)] ⟨0, .e⟩) = true := by kernel_rfl
theorem e0_19 : isT (runR Try.prog (codeT tabL) (ovF 12) 200 6 [.sl false 1 (symL 19)] ⟨0, .e⟩) = true := by kernel_rfl
end Go.Proofs.Ytjgdppgagihejaa
