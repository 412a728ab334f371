/- The law, evaluated by the kernel for lists of each length. Printed by a program. -/
import Derived.Test.YtjgdppgagihejaaSo0
namespace Go.Proofs.Ytjgdppgagihejaa
open Go Go.Ab Go.RowKit
set_option maxRecDepth 100000
set_option linter.unusedVariables false
theorem e0_20 : isT (runR Try.prog (codeT tabL) (ovF 12) 200 5 [.sl false 1 (symL 20), .bool true] .nil) = true := by kernel_rfl
theorem e0_21 : isT (runR Try.prog (codeT tabL) (ovF 12) 200 5 [.sl false 1 (symL 21), .bool true] .nil) = true := by kernel_rfl
theorem e0_22 : isT (runR Try.prog (codeT tabL) (ovF 12) 200 5 [.sl false 1 (symL 22), .bool true] .nil) = true := by kernel_rfl
theorem e0_23 : isT (runR Try.prog (codeT tabL) (ovF 12) 200 5 [.sl false 1 (symL 23), .bool true] .nil) = true := by kernel_rfl
theorem e0_24 : isT (runR Try.prog (codeT tabL) (ovF 12) 200 5 [.sl false 1 (symL 24), .bool true] .nil) = true := by kernel_rfl
end Go.Proofs.Ytjgdppgagihejaa
