/- The law, evaluated by the kernel for lists of each length. Printed by a program. -/
import Derived.Test.YtjgdppgagihejaaSo0
namespace Go.Proofs.Ytjgdppgagihejaa
open Go Go.Ab Go.RowKit
set_option maxRecDepth 100000
set_option linter.unusedVariables false
theorem e0_35 : isT (runR Try.prog (codeT tabL) (ovF 12) 200 5 [.sl false 1 (symL 35), .bool true] .nil) = true := by kernel_rfl
theorem e0_36 : isT (runR Try.prog (codeT tabL) (ovF 12) 200 5 [.sl false 1 (symL 36), .bool true] .nil) = true := by kernel_rfl
theorem e0_37 : isT (runR Try.prog (codeT tabL) (ovF 12) 200 5 [.sl false 1 (symL 37), .bool true] .nil) = true := by kernel_rfl
theorem e0_38 : isT (runR Try.prog (codeT tabL) (ovF 12) 200 5 [.sl false 1 (symL 38), .bool true] .nil) = true := by kernel_rfl
theorem e0_39 : isT (runR Try.prog (codeT tabL) (ovF 12) 200 5 [.sl false 1 (symL 39), .bool true] .nil) = true := by kernel_rfl
end Go.Proofs.Ytjgdppgagihejaa
