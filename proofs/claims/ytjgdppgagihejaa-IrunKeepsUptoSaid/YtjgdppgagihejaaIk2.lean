/- IrunKeeps, evaluated by the kernel for each register. Printed by a program. -/
import Derived.Test.YtjgdppgagihejaaIk0
namespace Go.Proofs.Ytjgdppgagihejaa
open Go Go.Ab Go.RowKit
set_option maxRecDepth 100000
set_option linter.unusedVariables false
theorem k8 : isT (runR Try.prog (codeT tabL) (ovF 10) 200 3 [.sym .i64 (.var 0), .sym .u64 (.var 1), .sym .u64 (.var 2)] ⟨0, .e, [(rem16, 8)]⟩) = true := by kernel_rfl
theorem k9 : isT (runR Try.prog (codeT tabL) (ovF 10) 200 3 [.sym .i64 (.var 0), .sym .u64 (.var 1), .sym .u64 (.var 2)] ⟨0, .e, [(rem16, 9)]⟩) = true := by kernel_rfl
theorem k10 : isT (runR Try.prog (codeT tabL) (ovF 10) 200 3 [.sym .i64 (.var 0), .sym .u64 (.var 1), .sym .u64 (.var 2)] ⟨0, .e, [(rem16, 10)]⟩) = true := by kernel_rfl
theorem k11 : isT (runR Try.prog (codeT tabL) (ovF 10) 200 3 [.sym .i64 (.var 0), .sym .u64 (.var 1), .sym .u64 (.var 2)] ⟨0, .e, [(rem16, 11)]⟩) = true := by kernel_rfl
theorem k12 : isT (runR Try.prog (codeT tabL) (ovF 10) 200 3 [.sym .i64 (.var 0), .sym .u64 (.var 1), .sym .u64 (.var 2)] ⟨0, .e, [(rem16, 12)]⟩) = true := by kernel_rfl
theorem k13 : isT (runR Try.prog (codeT tabL) (ovF 10) 200 3 [.sym .i64 (.var 0), .sym .u64 (.var 1), .sym .u64 (.var 2)] ⟨0, .e, [(rem16, 13)]⟩) = true := by kernel_rfl
theorem k14 : isT (runR Try.prog (codeT tabL) (ovF 10) 200 3 [.sym .i64 (.var 0), .sym .u64 (.var 1), .sym .u64 (.var 2)] ⟨0, .e, [(rem16, 14)]⟩) = true := by kernel_rfl
theorem k15 : isT (runR Try.prog (codeT tabL) (ovF 10) 200 3 [.sym .i64 (.var 0), .sym .u64 (.var 1), .sym .u64 (.var 2)] ⟨0, .e, [(rem16, 15)]⟩) = true := by kernel_rfl
end Go.Proofs.Ytjgdppgagihejaa
