/- The law, evaluated by the kernel for lists of each length. Printed by a program. -/
import Derived.Test.YtjgdppgagihejaaSo0
namespace Go.Proofs.Ytjgdppgagihejaa
open Go Go.Ab Go.RowKit
set_option maxRecDepth 100000
set_option linter.unusedVariables false
theorem e1_18 : isT (runR Try.prog (codeT tabL) (ovF 12) 200 5 [.sl false 1 (symL 18), .bool false] .nil) = true := by kernel_rfl
theorem e1_19 : isT (runR Try.prog (codeT tabL) (ovF 12) 200 5 [.sl false 1 (symL 19), .bool false] .nil) = true := by kernel_rfl
theorem e1_20 : isT (runR Try.prog (codeT tabL) (ovF 12) 200 5 [.sl false 1 (symL 20), .bool false] .nil) = true := by kernel_rfl
theorem e1_21 : isT (runR Try.prog (codeT tabL) (ovF 12) 200 5 [.sl false 1 (symL 21), .bool false] .nil) = true := by kernel_rfl
theorem e1_22 : isT (runR Try.prog (codeT tabL) (ovF 12) 200 5 [.sl false 1 (symL 22), .bool false] .nil) = true := by kernel_rfl
end Go.Proofs.Ytjgdppgagihejaa
