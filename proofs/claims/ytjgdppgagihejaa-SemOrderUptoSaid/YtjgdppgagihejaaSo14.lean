/- The law, evaluated by the kernel for lists of each length. Printed by a program. -/
import Derived.Test.YtjgdppgagihejaaSo0
namespace Go.Proofs.Ytjgdppgagihejaa
open Go Go.Ab Go.RowKit
set_option maxRecDepth 100000
set_option linter.unusedVariables false
theorem e1_23 : isT (runR Try.prog (codeT tabL) (ovF 12) 200 5 [.sl false 1 (symL 23), .bool false] .nil) = true := by kernel_rfl
theorem e1_24 : isT (runR Try.prog (codeT tabL) (ovF 12) 200 5 [.sl false 1 (symL 24), .bool false] .nil) = true := by kernel_rfl
theorem e1_25 : isT (runR Try.prog (codeT tabL) (ovF 12) 200 5 [.sl false 1 (symL 25), .bool false] .nil) = true := by kernel_rfl
theorem e1_26 : isT (runR Try.prog (codeT tabL) (ovF 12) 200 5 [.sl false 1 (symL 26), .bool false] .nil) = true := by kernel_rfl
theorem e1_27 : isT (runR Try.prog (codeT tabL) (ovF 12) 200 5 [.sl false 1 (symL 27), .bool false] .nil) = true := by kernel_rfl
end Go.Proofs.Ytjgdppgagihejaa
