/- The law, evaluated by the kernel for lists of each length. Printed by a program. -/
import Derived.Test.YtjgdppgagihejaaSo0
namespace Go.Proofs.Ytjgdppgagihejaa
open Go Go.Ab Go.RowKit
set_option maxRecDepth 100000
set_option linter.unusedVariables false
theorem e1_33 : isT (runR Try.prog (codeT tabL) (ovF 12) 200 5 [.sl false 1 (symL 33), .bool false] .nil) = true := by kernel_rfl
theorem e1_34 : isT (runR Try.prog (codeT tabL) (ovF 12) 200 5 [.sl false 1 (symL 34), .bool false] .nil) = true := by kernel_rfl
theorem e1_35 : isT (runR Try.prog (codeT tabL) (ovF 12) 200 5 [.sl false 1 (symL 35), .bool false] .nil) = true := by kernel_rfl
theorem e1_36 : isT (runR Try.prog (codeT tabL) (ovF 12) 200 5 [.sl false 1 (symL 36), .bool false] .nil) = true := by kernel_rfl
theorem e1_37 : isT (runR Try.prog (codeT tabL) (ovF 12) 200 5 [.sl false 1 (symL 37), .bool false] .nil) = true := by kernel_rfl
end Go.Proofs.Ytjgdppgagihejaa
