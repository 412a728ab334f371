/- The law, evaluated by the kernel for lists of each length. Printed by a program. -/
import Derived.Test.YtjgdppgagihejaaSo0
namespace Go.Proofs.Ytjgdppgagihejaa
open Go Go.Ab Go.RowKit
set_option maxRecDepth 100000
set_option linter.unusedVariables false
theorem e0_40 : isT (runR Try.prog (codeT tabL) (ovF 12) 200 5 [.sl false 1 (symL 40), .bool true] .nil) = true := by kernel_rfl
theorem e0_L : isT (runR Try.prog (codeT tabL) (ovF 12) 200 5 [.slt false 1 (symL 40), .bool true] .nil) = true := by kernel_rfl
theorem e1_0 : isT (runR Try.prog (codeT tabL) (ovF 12) 200 5 [.sl false 1 (symL 0), .bool false] .nil) = true := by kernel_rfl
theorem e1_1 : isT (runR Try.prog (codeT tabL) (ovF 12) 200 5 [.sl false 1 (symL 1), .bool false] .nil) = true := by kernel_rfl
theorem e1_2 : isT (runR Try.prog (codeT tabL) (ovF 12) 200 5 [.sl false 1 (symL 2), .bool false] .nil) = true := by kernel_rfl
end Go.Proofs.Ytjgdppgagihejaa
