/- The law, evaluated by the kernel for lists of each length. Printed by a program. -/
import Derived.Test.YtjgdppgagihejaaSo0
namespace Go.Proofs.Ytjgdppgagihejaa
open Go Go.Ab Go.RowKit
set_option maxRecDepth 100000
set_option linter.unusedVariables false
theorem e0_15 : isT (runR Try.prog (codeT tabL) (ovF 12) 200 5 [.sl false 1 (symL 15), .bool true] .nil) = true := by kernel_rfl
theorem e0_16 : isT (runR Try.prog (codeT tabL) (ovF 12) 200 5 [.sl false 1 (symL 16), .bool true] .nil) = true := by kernel_rfl
theorem e0_17 : isT (runR Try.prog (codeT tabL) (ovF 12) 200 5 [.sl false 1 (symL 17), .bool true] .nil) = true := by kernel_rfl
theorem e0_18 : isT (runR Try.prog (codeT tabL) (ovF 12) 200 5 [.sl false 1 (symL 18), .bool true] .nil) = true := by kernel_rfl
theorem e0_19 : isT (runR Try.prog (codeT tabL) (ovF 12) 200 5 [.sl false 1 (symL 19), .bool true] .nil) = true := by kernel_rfl
end Go.Proofs.Ytjgdppgagihejaa
