/- The law, evaluated by the kernel for lists of each length. Printed by a program. -/
import Derived.Test.YtjgdppgagihejaaSo0
namespace Go.Proofs.Ytjgdppgagihejaa
open Go Go.Ab Go.RowKit
set_option maxRecDepth 100000
set_option linter.unusedVariables false
theorem e0_30 : isT (runR Try.prog (codeT tabL) (ovF 12) 200 5 [.sl false 1 (symL 30), .bool true] .nil) = true := by kernel_rfl
theorem e0_31 : isT (runR Try.prog (codeT tabL) (ovF 12) 200 5 [.sl false 1 (symL 31), .bool true] .nil) = true := by kernel_rfl
theorem e0_32 : isT (runR Try.prog (codeT tabL) (ovF 12) 200 5 [.sl false 1 (symL 32), .bool true] .nil) = true := by kernel_rfl
theorem e0_33 : isT (runR Try.prog (codeT tabL) (ovF 12) 200 5 [.sl false 1 (symL 33), .bool true] .nil) = true := by kernel_rfl
theorem e0_34 : isT (runR Try.prog (codeT tabL) (ovF 12) 200 5 [.sl false 1 (symL 34), .bool true] .nil) = true := by kernel_rfl
end Go.Proofs.Ytjgdppgagihejaa
