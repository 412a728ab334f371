/- The law, evaluated by the kernel for lists of each length. Printed by a program. -/
import Derived.Test.YtjgdppgagihejaaSo0
namespace Go.Proofs.Ytjgdppgagihejaa
open Go Go.Ab Go.RowKit
set_option maxRecDepth 100000
set_option linter.unusedVariables false
theorem e0_0 : isT (runR Try.prog (codeT tabL) (ovF 12) 200 5 [.sl false 1 (symL 0), .bool true] .nil) = true := by kernel_rfl
theorem e0_1 : isT (runR Try.prog (codeT tabL) (ovF 12) 200 5 [.sl false 1 (symL 1), .bool true] .nil) = true := by kernel_rfl
theorem e0_2 : isT (runR Try.prog (codeT tabL) (ovF 12) 200 5 [.sl false 1 (symL 2), .bool true] .nil) = true := by kernel_rfl
theorem e0_3 : isT (runR Try.prog (codeT tabL) (ovF 12) 200 5 [.sl false 1 (symL 3), .bool true] .nil) = true := by kernel_rfl
theorem e0_4 : isT (runR Try.prog (codeT tabL) (ovF 12) 200 5 [.sl false 1 (symL 4), .bool true] .nil) = true := by kernel_rfl
end Go.Proofs.Ytjgdppgagihejaa
