/- The law, evaluated by the kernel for lists of each length. Printed by a program. -/
import Derived.Test.YtjgdppgagihejaaSo0
namespace Go.Proofs.Ytjgdppgagihejaa
open Go Go.Ab Go.RowKit
set_option maxRecDepth 100000
set_option linter.unusedVariables false
theorem e0_5 : isT (runR Try.prog (codeT tabL) (ovF 12) 200 5 [.sl false 1 (symL 5), .bool true] .nil) = true := by kernel_rfl
theorem e0_6 : isT (runR Try.prog (codeT tabL) (ovF 12) 200 5 [.sl false 1 (symL 6), .bool true] .nil) = true := by kernel_rfl
theorem e0_7 : isT (runR Try.prog (codeT tabL) (ovF 12) 200 5 [.sl false 1 (symL 7), .bool true] .nil) = true := by kernel_rfl
theorem e0_8 : isT (runR Try.prog (codeT tabL) (ovF 12) 200 5 [.sl false 1 (symL 8), .bool true] .nil) = true := by kernel_rfl
theorem e0_9 : isT (runR Try.prog (codeT tabL) (ovF 12) 200 5 [.sl false 1 (symL 9), .bool true] .nil) = true := by kernel_rfl
end Go.Proofs.Ytjgdppgagihejaa
