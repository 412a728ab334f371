/- The law, evaluated by the kernel for lists of each length. Printed by a program. -/
import Derived.Test.YtjgdppgagihejaaSo0
namespace Go.Proofs.Ytjgdppgagihejaa
open Go Go.Ab Go.RowKit
set_option maxRecDepth 100000
set_option linter.unusedVariables false
theorem e1_28 : isT (runR Try.prog (codeT tabL) (ovF 12) 200 5 [.sl false 1 (symL 28), .bool false] .nil) = true := by kernel_rfl
theorem e1_29 : isT (runR Try.prog (codeT tabL) (ovF 12) 200 5 [.sl false 1 (symL 29), .bool false] .nil) = true := by kernel_rfl
theorem e1_30 : isT (runR Try.prog (codeT tabL) (ovF 12) 200 5 [.sl false 1 (symL 30), .bool false] .nil) = true := by kernel_rfl
theorem e1_31 : isT (runR Try.prog (codeT tabL) (ovF 12) 200 5 [.sl false 1 (symL 31), .bool false] .nil) = true := by kernel_rfl
theorem e1_32 : isT (runR Try.prog (codeT tabL) (ovF 12) 200 5 [.sl false 1 (symL 32), .bool false] .nil) = true := by kernel_rfl
end Go.Proofs.Ytjgdppgagihejaa
