/- The law, evaluated by the kernel for lists of each length. Printed by a program. -/
import Derived.Test.YtjgdppgagihejaaSo0
namespace Go.Proofs.Ytjgdppgagihejaa
open Go Go.Ab Go.RowKit
set_option maxRecDepth 100000
set_option linter.unusedVariables false
theorem e1_8 : isT (runR Try.prog (codeT tabL) (ovF 12) 200 5 [.sl false 1 (symL 8), .bool false] .nil) = true := by kernel_rfl
theorem e1_9 : isT (runR Try.prog (codeT tabL) (ovF 12) 200 5 [.sl false 1 (symL 9), .bool false] .nil) = true := by kernel_rfl
theorem e1_10 : isT (runR Try.prog (codeT tabL) (ovF 12) 200 5 [.sl false 1 (symL 10), .bool false] .nil) = true := by kernel_rfl
theorem e1_11 : isT (runR Try.prog (codeT tabL) (ovF 12) 200 5 [.sl false 1 (symL 11), .bool false] .nil) = true := by kernel_rfl
theorem e1_12 : isT (runR Try.prog (codeT tabL) (ovF 12) 200 5 [.sl false 1 (symL 12), .bool false] .nil) = true := by kernel_rfl
end Go.Proofs.Ytjgdppgagihejaa
