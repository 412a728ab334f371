/- The row's cells, each by itself. Printed by a program. -/
import Derived.Test.YtklmiejnopdabaaGreatDoorWhRL
namespace Go.Proofs.YtklmiejnopdabaaGreatDoor
set_option linter.constructorNameAsVariable false
set_option linter.unusedSimpArgs false
set_option linter.unusedVariables false
open Go Go.Ab Go.RowKit
set_option maxRecDepth 100000
set_option linter.unusedVariables false
theorem bta {a b : Bool} (h : a = true) (k : b = true) : (a && b) = true := by rw [h, k]; rfl
namespace wholeRecovers
theorem j10 : ((Rows.wholeRecoversUptoRow.inPlace == Tryz.pinned.checked.prog.inPlace 6)) = true := by kernel_rfl
theorem j11 : ((Rows.wholeRecoversUptoRow.unfollowed == Tryz.pinned.checked.prog.unfollowed 6)) = true := by kernel_rfl
theorem j12 : ((Rows.wholeRecoversUptoRow.recurses == Tryz.pinned.checked.prog.recurses 6)) = true := by kernel_rfl
theorem j13 : ((Rows.wholeRecoversUptoRow.named == Tryz.pinned.checked.prog.varsNamed 6)) = true := by kernel_rfl
theorem closed : joinedFacts Tryz.pinned.checked.prog 6 Tryz.f6 (Rows.OpenSpec.upto Rows.wholeRecoversSpec).bare Rows.wholeRecoversUptoRow = true := bta (bta (bta (bta (bta (bta (bta (bta (bta (bta (bta (bta (bta (bta (bta (bta (bta (bta (bta (bta (bta (bta (bta (bta (bta (bta (bta (bta (bta (bta (bta (by kernel_rfl) (by kernel_rfl)) (by kernel_rfl)) (by kernel_rfl)) (by kernel_rfl)) (by kernel_rfl)) (by kernel_rfl)) (by kernel_rfl)) (by kernel_rfl)) j10) j11) j12) j13) (by kernel_rfl)) (by kernel_rfl)) (by kernel_rfl)) (by kernel_rfl)) (by kernel_rfl)) (by kernel_rfl)) (by kernel_rfl)) (by kernel_rfl)) (by kernel_rfl)) (by kernel_rfl)) (by kernel_rfl)) (by kernel_rfl)) (by kernel_rfl)) (by kernel_rfl)) (by kernel_rfl)) (by kernel_rfl)) (by kernel_rfl)) (by kernel_rfl)) (by kernel_rfl)
end wholeRecovers
end Go.Proofs.YtklmiejnopdabaaGreatDoor
