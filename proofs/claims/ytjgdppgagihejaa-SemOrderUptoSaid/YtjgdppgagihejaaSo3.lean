/- The law, evaluated by the kernel for lists of each length. Printed by a program. -/
import Derived.Test.YtjgdppgagihejaaSo0
namespace Go.Proofs.Ytjgdppgagihejaa
open Go Go.Ab Go.RowKit
set_option maxRecDepth 100000
set_option linter.unusedVariables false
theorem e0_10 : isT (runR Try.prog (codeT tabL) (ovF 12) 200 5 [.sl false 1 (symL 10), .bool true] .nil) = true := by kernel_rfl
theorem e0_11 : isT (runR Try.prog (codeT tabL) (ovF 12) 200 5 [.sl false 1 (symL 11), .bool true] .nil) = true := by kernel_rfl
theorem e0_12 : isT (runR Try.prog (codeT tabL) (ovF 12) 200 5 [.sl false 1 (symL 12), .bool true] .nil) = true := by kernel_rfl
theorem e0_13 : isT (runR Try.prog (codeT tabL) (ovF 12) 200 5 [.sl false 1 (symL 13), .bool true] .nil) = true := by kernel_rfl
theorem e0_14 : isT (runR Try.prog (codeT tabL) (ovF 12) 200 5 [.sl false 1 (symL 14), .bool true] .nil) = true := by kernel_rfl
end Go.Proofs.Ytjgdppgagihejaa
