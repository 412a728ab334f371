/- The law, evaluated by the kernel for lists of each length. Printed by a program. -/
import Derived.Test.YtjgdppgagihejaaSo0
namespace Go.Proofs.Ytjgdppgagihejaa
open Go Go.Ab Go.RowKit
set_option maxRecDepth 100000
set_option linter.unusedVariables false
theorem e1_3 : isT (runR Try.prog (codeT tabL) (ovF 12) 200 5 [.sl false 1 (symL 3), .bool false] .nil) = true := by kernel_rfl
theorem e1_4 : isT (runR Try.prog (codeT tabL) (ovF 12) 200 5 [.sl false 1 (symL 4), .bool false] .nil) = true := by kernel_rfl
theorem e1_5 : isT (runR Try.prog (codeT tabL) (ovF 12) 200 5 [.sl false 1 (symL 5), .bool false] .nil) = true := by kernel_rfl
theorem e1_6 : isT (runR Try.prog (codeT tabL) (ovF 12) 200 5 [.sl false 1 (symL 6), .bool false] .nil) = true := by kernel_rfl
theorem e1_7 : isT (runR Try.prog (codeT tabL) (ovF 12) 200 5 [.sl false 1 (symL 7), .bool false] .nil) = true := by kernel_rfl
end Go.Proofs.Ytjgdppgagihejaa
