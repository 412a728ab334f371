/- The row's cells, each by itself. Printed by a program. -/
import Derived.Test.YtklmiejnopdabaaGreatDoorWhEL
namespace Go.Proofs.YtklmiejnopdabaaGreatDoor
set_option linter.constructorNameAsVariable false
set_option linter.unusedSimpArgs false
set_option linter.unusedVariables false
open Go Go.Ab Go.RowKit
set_option maxRecDepth 100000
set_option linter.unusedVariables false
theorem bta {a b : Bool} (h : a = true) (k : b = true) : (a && b) = true := by rw [h, k]; rfl
namespace wholeExits
theorem j10 : ((Rows.wholeExitsUptoRow.inPlace == Tryz.pinned.checked.prog.inPlace 5)) = true := by kernel_rfl
theorem j11 : ((Rows.wholeExitsUptoRow.unfollowed == Tryz.pinned.checked.prog.unfollowed 5)) = true := by kernel_rfl
theorem j12 : ((Rows.wholeExitsUptoRow.recurses == Tryz.pinned.checked.prog.recurses 5)) = true := by kernel_rfl
theorem j13 : ((Rows.wholeExitsUptoRow.named == Tryz.pinned.checked.prog.varsNamed 5)) = true := by kernel_rfl
theorem closed : joinedFacts Tryz.pinned.checked.prog 5 Tryz.f5 (Rows.OpenSpec.upto Rows.wholeExitsSpec).bare Rows.wholeExitsUptoRow = true := bta (bta (bta (bta (bta (bta (bta (bta (bta (bta (bta (bta (bta (bta (bta (bta (bta (bta (bta (bta (bta (bta (bta (bta (bta (bta (bta (bta (bta (bta (bta (by kernel_rfl) (by kernel_rfl)) (by kernel_rfl)) (by kernel_rfl)) (by kernel_rfl)) (by kernel_rfl)) (by kernel_rfl)) (by kernel_rfl)) (by kernel_rfl)) j10) j11) j12) j13) (by kernel_rfl)) (by kernel_rfl)) (by kernel_rfl)) (by kernel_rfl)) (by kernel_rfl)) (by kernel_rfl)) (by kernel_rfl)) (by kernel_rfl)) (by kernel_rfl)) (by kernel_rfl)) (by kernel_rfl)) (by kernel_rfl)) (by kernel_rfl)) (by kernel_rfl)) (by kernel_rfl)) (by kernel_rfl)) (by kernel_rfl)) (by kernel_rfl)) (by kernel_rfl)
end wholeExits
end Go.Proofs.YtklmiejnopdabaaGreatDoor
