/- The law, evaluated by the kernel for lists of each length. Printed by a program. -/
import Derived.Test.YtjgdppgagihejaaSo0
namespace Go.Proofs.Ytjgdppgagihejaa
open Go Go.Ab Go.RowKit
set_option maxRecDepth 100000
set_option linter.unusedVariables false
theorem e1_13 : isT (runR Try.prog (codeT tabL) (ovF 12) 200 5 [.sl false 1 (symL 13), .bool false] .nil) = true := by kernel_rfl
theorem e1_14 : isT (runR Try.prog (codeT tabL) (ovF 12) 200 5 [.sl false 1 (symL 14), .bool false] .nil) = true := by kernel_rfl
theorem e1_15 : isT (runR Try.prog (codeT tabL) (ovF 12) 200 5 [.sl false 1 (symL 15), .bool false] .nil) = true := by kernel_rfl
theorem e1_16 : isT (runR Try.prog (codeT tabL) (ovF 12) 200 5 [.sl false 1 (symL 16), .bool false] .nil) = true := by kernel_rfl
theorem e1_17 : isT (runR Try.prog (codeT tabL) (ovF 12) 200 5 [.sl false 1 (symL 17), .bool false] .nil) = true := by kernel_rfl
end Go.Proofs.Ytjgdppgagihejaa
