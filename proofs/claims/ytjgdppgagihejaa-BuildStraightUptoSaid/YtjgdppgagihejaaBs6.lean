/- The law, evaluated by the kernel for lists of each length. Printed by a program. -/
import Derived.Test.YtjgdppgagihejaaBs0
namespace Go.Proofs.Ytjgdppgagihejaa
open Go Go.Ab Go.RowKit
set_option maxRecDepth 100000
set_option linter.unusedVariables false
theorem e0_15 : isT (runR Try.prog (codeT tabL) (ovF 14) 200 8 [.sl false 1 (symL 15)] ⟨0, .e⟩) = true := by kernel_rfl
theorem e0_16 : isT (runR Try.prog (codeT tabL) (ovF 14) 200 8 [.sl false 1 (symL 16)] ⟨0, .e⟩) = true := by kernel_rfl
theorem e0_L : isT (runR Try.prog (codeT tabL) (ovF 14) 200 8 [.slt false 1 (symL 16)] ⟨0, .e⟩) = true := by kernel_rfl
end Go.Proofs.Ytjgdppgagihejaa
