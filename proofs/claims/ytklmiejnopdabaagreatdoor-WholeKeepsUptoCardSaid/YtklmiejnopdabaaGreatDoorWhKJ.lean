/- The row's cells, each by itself. Printed by a program. -/
import Derived.Test.YtklmiejnopdabaaGreatDoorWhKL
namespace Go.Proofs.YtklmiejnopdabaaGreatDoor
set_option linter.constructorNameAsVariable false
set_option linter.unusedSimpArgs false
set_option linter.unusedVariables false
open Go Go.Ab Go.RowKit
set_option maxRecDepth 100000
set_option linter.unusedVariables false
theorem bta {a b : Bool} (h : a = true) (k : b = true) : (a && b) = true := by rw [h, k]; rfl
namespace wholeKeeps
theorem j10 : ((Rows.wholeKeepsUptoRow.inPlace == Tryz.pinned.checked.prog.inPlace 4)) = true := by kernel_rfl
theorem j11 : ((Rows.wholeKeepsUptoRow.unfollowed == Tryz.pinned.checked.prog.unfollowed 4)) = true := by kernel_rfl
theorem j12 : ((Rows.wholeKeepsUptoRow.recurses == Tryz.pinned.checked.prog.recurses 4)) = true := by kernel_rfl
theorem j13 : ((Rows.wholeKeepsUptoRow.named == Tryz.pinned.checked.prog.varsNamed 4)) = true := by kernel_rfl
theorem closed : joinedFacts Tryz.pinned.checked.prog 4 Tryz.f4 (Rows.OpenSpec.upto Rows.wholeKeepsSpec).bare Rows.wholeKeepsUptoRow = true := bta (bta (bta (bta (bta (bta (bta (bta (bta (bta (bta (bta (bta (bta (bta (bta (bta (bta (bta (bta (bta (bta (bta (bta (bta (bta (bta (bta (bta (bta (bta (by kernel_rfl) (by kernel_rfl)) (by kernel_rfl)) (by kernel_rfl)) (by kernel_rfl)) (by kernel_rfl)) (by kernel_rfl)) (by kernel_rfl)) (by kernel_rfl)) j10) j11) j12) j13) (by kernel_rfl)) (by kernel_rfl)) (by kernel_rfl)) (by kernel_rfl)) (by kernel_rfl)) (by kernel_rfl)) (by kernel_rfl)) (by kernel_rfl)) (by kernel_rfl)) (by kernel_rfl)) (by kernel_rfl)) (by kernel_rfl)) (by kernel_rfl)) (by kernel_rfl)) (by kernel_rfl)) (by kernel_rfl)) (by kernel_rfl)) (by kernel_rfl)) (by kernel_rfl)
end wholeKeeps
end Go.Proofs.YtklmiejnopdabaaGreatDoor
