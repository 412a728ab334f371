/- The row's cells, each by itself. Printed by a program. -/
import Derived.Test.YtcicbbceknhkfaaGreatDoorGcX
namespace Go.Proofs.YtcicbbceknhkfaaGreatDoor
set_option linter.constructorNameAsVariable false
set_option linter.unusedSimpArgs false
set_option linter.unusedVariables false
open Go Go.Ab Go.RowKit
set_option maxRecDepth 100000
set_option linter.unusedVariables false
theorem bta {a b : Bool} (h : a = true) (k : b = true) : (a && b) = true := by rw [h, k]; rfl
namespace wholeGcd
theorem j10 : ((Rows.wholeGcdUptoRow.inPlace == Tryz.pinned.checked.prog.inPlace 3)) = true := by kernel_rfl
theorem j11 : ((Rows.wholeGcdUptoRow.unfollowed == Tryz.pinned.checked.prog.unfollowed 3)) = true := by kernel_rfl
theorem j12 : ((Rows.wholeGcdUptoRow.recurses == Tryz.pinned.checked.prog.recurses 3)) = true := by kernel_rfl
theorem j13 : ((Rows.wholeGcdUptoRow.named == Tryz.pinned.checked.prog.varsNamed 3)) = true := by kernel_rfl
theorem closed : joinedFacts Tryz.pinned.checked.prog 3 Tryz.f3 (Rows.OpenSpec.upto Rows.wholeGcdSpec).bare Rows.wholeGcdUptoRow = true := bta (bta (bta (bta (bta (bta (bta (bta (bta (bta (bta (bta (bta (bta (bta (bta (bta (bta (bta (bta (bta (bta (bta (bta (bta (bta (bta (bta (bta (bta (bta (by kernel_rfl) (by kernel_rfl)) (by kernel_rfl)) (by kernel_rfl)) (by kernel_rfl)) (by kernel_rfl)) (by kernel_rfl)) (by kernel_rfl)) (by kernel_rfl)) j10) j11) j12) j13) (by kernel_rfl)) (by kernel_rfl)) (by kernel_rfl)) (by kernel_rfl)) (by kernel_rfl)) (by kernel_rfl)) (by kernel_rfl)) (by kernel_rfl)) (by kernel_rfl)) (by kernel_rfl)) (by kernel_rfl)) (by kernel_rfl)) (by kernel_rfl)) (by kernel_rfl)) (by kernel_rfl)) (by kernel_rfl)) (by kernel_rfl)) (by kernel_rfl)) (by kernel_rfl)
end wholeGcd
end Go.Proofs.YtcicbbceknhkfaaGreatDoor
