/- The row's cells, each by itself. Printed by a program. -/
import Derived.Test.YtjhhedpgfpcaiaaGreatDoorCoV
namespace Go.Proofs.YtjhhedpgfpcaiaaGreatDoor
set_option linter.constructorNameAsVariable false
set_option linter.unusedSimpArgs false
set_option linter.unusedVariables false
open Go Go.Ab Go.RowKit
set_option maxRecDepth 100000
set_option linter.unusedVariables false
theorem bta {a b : Bool} (h : a = true) (k : b = true) : (a && b) = true := by rw [h, k]; rfl
namespace consoleLimits
theorem j10 : ((Rows.consoleLimitsUptoRow.inPlace == Tryz.pinned.checked.prog.inPlace 3)) = true := by kernel_rfl
theorem j11 : ((Rows.consoleLimitsUptoRow.unfollowed == Tryz.pinned.checked.prog.unfollowed 3)) = true := by kernel_rfl
theorem j12 : ((Rows.consoleLimitsUptoRow.recurses == Tryz.pinned.checked.prog.recurses 3)) = true := by kernel_rfl
theorem j13 : ((Rows.consoleLimitsUptoRow.named == Tryz.pinned.checked.prog.varsNamed 3)) = true := by kernel_rfl
theorem closed : joinedFacts Tryz.pinned.checked.prog 3 Tryz.f3 (Rows.OpenSpec.upto Rows.consoleLimitsSpec).bare Rows.consoleLimitsUptoRow = true := bta (bta (bta (bta (bta (bta (bta (bta (bta (bta (bta (bta (bta (bta (bta (bta (bta (bta (bta (bta (bta (bta (bta (bta (bta (bta (bta (bta (bta (bta (bta (by kernel_rfl) (by kernel_rfl)) (by kernel_rfl)) (by kernel_rfl)) (by kernel_rfl)) (by kernel_rfl)) (by kernel_rfl)) (by kernel_rfl)) (by kernel_rfl)) j10) j11) j12) j13) (by kernel_rfl)) (by kernel_rfl)) (by kernel_rfl)) (by kernel_rfl)) (by kernel_rfl)) (by kernel_rfl)) (by kernel_rfl)) (by kernel_rfl)) (by kernel_rfl)) (by kernel_rfl)) (by kernel_rfl)) (by kernel_rfl)) (by kernel_rfl)) (by kernel_rfl)) (by kernel_rfl)) (by kernel_rfl)) (by kernel_rfl)) (by kernel_rfl)) (by kernel_rfl)
end consoleLimits
end Go.Proofs.YtjhhedpgfpcaiaaGreatDoor
