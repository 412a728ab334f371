/- The law, evaluated by the kernel for lists of each length. Printed by a program. -/
import Derived.Test.YtjgdppgagihejaaSc0
namespace Go.Proofs.Ytjgdppgagihejaa
open Go Go.Ab Go.RowKit
set_option maxRecDepth 100000
set_option linter.unusedVariables false
theorem e0_28 : isT (runR Try.prog (codeT tabL) (ovF 12) 200 6 [.sl false 1 (symL 28)] ⟨0, .e⟩) = true := by kernel_rfl
theorem e0_29 : isT (runR Try.prog (codeT tabL) (ovF 12) 200 6 [.sl false 1 (symL 29)] ⟨0, .e⟩) = true := by kernel_rfl
theorem e0_30 : isT (runR Try.prog (codeT tabL) (ovF 12) 200 6 [.sl false 1 (symL 30)] ⟨0, .e⟩) = true := by kernel_rfl
theorem e0_L : isT (runR Try.prog (codeT tabL) (ovF 12) 200 6 [.slt false 1 (symL 30)] ⟨0, .e⟩) = true := by kernel_rfl
end Go.Proofs.Ytjgdppgagihejaa
