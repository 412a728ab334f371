/- IrunKeeps, evaluated by the kernel for each register. Printed by a program. -/
import Derived.Test.YtjgdppgagihejaaIk0
namespace Go.Proofs.Ytjgdppgagihejaa
open Go Go.Ab Go.RowKit
set_option maxRecDepth 100000
set_option linter.unusedVariables false
theorem k0 : isT (runR Try.prog (codeT tabL) (ovF 10) 200 3 [.sym .i64 (.var 0), .sym .u64 (.var 1), .sym .u64 (.var 2)] ⟨0, .e, [(rem16, 0)]⟩) = true := by kernel_rfl
theorem k1 : isT (runR Try.prog (codeT tabL) (ovF 10) 200 3 [.sym .i64 (.var 0), .sym .u64 (.var 1), .sym .u64 (.var 2)] ⟨0, .e, [(rem16, 1)]⟩) = true := by kernel_rfl
theorem k2 : isT (runR Try.prog (codeT tabL) (ovF 10) 200 3 [.sym .i64 (.var 0), .sym .u64 (.var 1), .sym .u64 (.var 2)] ⟨0, .e, [(rem16, 2)]⟩) = true := by kernel_rfl
theorem k3 : isT (runR Try.prog (codeT tabL) (ovF 10) 200 3 [.sym .i64 (.var 0), .sym .u64 (.var 1), .sym .u64 (.var 2)] ⟨0, .e, [(rem16, 3)]⟩) = true := by kernel_rfl
theorem k4 : isT (runR Try.prog (codeT tabL) (ovF 10) 200 3 [.sym .i64 (.var 0), .sym .u64 (.var 1), .sym .u64 (.var 2)] ⟨0, .e, [(rem16, 4)]⟩) = true := by kernel_rfl
theorem k5 : isT (runR Try.prog (codeT tabL) (ovF 10) 200 3 [.sym .i64 (.var 0), .sym .u64 (.var 1), .sym .u64 (.var 2)] ⟨0, .e, [(rem16, 5)]⟩) = true := by kernel_rfl
theorem k6 : isT (runR Try.prog (codeT tabL) (ovF 10) 200 3 [.sym .i64 (.var 0), .sym .u64 (.var 1), .sym .u64 (.var 2)] ⟨0, .e, [(rem16, 6)]⟩) = true := by kernel_rfl
theorem k7 : isT (runR Try.prog (codeT tabL) (ovF 10) 200 3 [.sym .i64 (.var 0), .sym .u64 (.var 1), .sym .u64 (.var 2)] ⟨0, .e, [(rem16, 7)]⟩) = true := by kernel_rfl
end Go.Proofs.Ytjgdppgagihejaa
