/- The law, evaluated by the kernel for lists of each length. Printed by a program. -/
import Derived.Test.YtjgdppgagihejaaSo0
namespace Go.Proofs.Ytjgdppgagihejaa
open Go Go.Ab Go.RowKit
set_option maxRecDepth 100000
set_option linter.unusedVariables false
theorem e0_25 : isT (runR Try.prog (codeT tabL) (ovF 12) 200 5 [.sl false 1 (symL 25), .bool true] .nil) = true := by kernel_rfl
theorem e0_26 : isT (runR Try.prog (codeT tabL) (ovF 12) 200 5 [.sl false 1 (symL 26), .bool true] .nil) = true := by kernel_rfl
theorem e0_27 : isT (runR Try.prog (codeT tabL) (ovF 12) 200 5 [.sl false 1 (symL 27), .bool true] .nil) = true := by kernel_rfl
theorem e0_28 : isT (runR Try.prog (codeT tabL) (ovF 12) 200 5 [.sl false 1 (symL 28), .bool true] .nil) = true := by kernel_rfl
theorem e0_29 : isT (runR Try.prog (codeT tabL) (ovF 12) 200 5 [.sl false 1 (symL 29), .bool true] .nil) = true := by kernel_rfl
end Go.Proofs.Ytjgdppgagihejaa
