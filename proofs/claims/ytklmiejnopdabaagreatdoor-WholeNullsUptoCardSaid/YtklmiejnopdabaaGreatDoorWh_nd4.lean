/- One case: known calls, evaluated by the kernel. Printed by a program. -/
import Derived.Test.YtklmiejnopdabaaGreatDoorWhH
namespace Go.Proofs.YtklmiejnopdabaaGreatDoor
set_option linter.constructorNameAsVariable false
set_option linter.unusedSimpArgs false
set_option linter.unusedVariables false
open Go Go.Ab Go.RowKit
set_option maxRecDepth 100000
set_option linter.unusedVariables false
def nd0 : Memo := ⟨ 67, [.agg [.ref 391 1 0 2 (some 8)], .int .i64 0], 502,
  [(12, 1, [.int .u8 25, .int .i64 1, .int .u64 0, .int .u8 2, .int .i64 0, .int .u64 0, .int .u8 1, .int .i64 0, .int .u64 5, .int .u8 6, .int .i64 0, .int .u64 0, .int .u8 24, .int .i64 0, .int .u64 0]),
  (13, 0, [.int .u64 1, .int .u64 18446744073709551614]),
  (15, 0, [.int .u8 1]),
  (18, 3, [.int .u8 27, .int .i64 0, .int .u64 0, .int .u8 29, .int .i64 0, .int .u64 0, .int .u8 29, .int .i64 0, .int .u64 0, .int .u8 24, .int .i64 0, .int .u64 0]),
  (22, 0, [.int .i64 0, .ref 15 0 0 1 none, .bool false, .int .i64 (-1), .ref 12 1 0 5 (some 3), .int .i64 0, .nils, .bool false, .int .i64 (-1), .ref 18 3 0 4 (some 3)]),
  (24, 0, [.ref 22 0 0 2 (some 5)]),
  (25, 0, [.nils, .int .i64 0]),
  (26, 0, [.int .i64 1, .int .u64 0]),
  (28, 0, [.nils, .nils, .nils]),
  (81, 0, [.nils, .nils, .nils]),
  (331, 16, [.int .u8 1, .int .u8 0, .int .u8 1, .int .u8 0, .int .u8 1, .int .u8 0, .int .u8 1, .int .u8 0, .int .u8 1, .int .u8 0, .int .u8 1, .int .u8 0, .int .u8 1, .int .u8 0, .int .u8 1, .int .u8 0, .int .u8 1, .int .u8 0, .int .u8 1, .int .u8 0, .int .u8 1, .int .u8 0, .int .u8 1, .int .u8 0, .int .u8 1, .int .u8 0, .int .u8 1, .int .u8 0, .int .u8 1, .int .u8 0, .int .u8 1, .int .u8 0, .int .u8 1]),
  (356, 4, [.int .u8 13, .int .u8 0, .int .i64 0, .int .i64 0, .int .i64 0, .int .i64 0, .int .i64 1, .int .i64 0, .int .u64 0, .nils, .int .i64 1, .int .i64 0, .int .u8 2, .int .u8 0, .int .i64 2, .int .i64 0, .int .i64 0, .int .i64 0, .int .i64 0, .int .i64 0, .int .u64 0, .nils, .int .i64 2, .int .i64 0, .int .u8 1, .int .u8 0, .int .i64 3, .int .i64 0, .int .i64 0, .int .i64 0, .int .i64 0, .int .i64 0, .int .u64 5, .nils, .int .i64 3, .int .i64 0, .int .u8 8, .int .u8 0, .int .i64 0, .int .i64 0, .int .i64 2, .int .i64 3, .int .i64 0, .int .i64 0, .int .u64 0, .nils, .int .i64 4, .int .i64 0, .int .u8 12, .int .u8 0, .int .i64 0, .int .i64 0, .int .i64 (-1), .int .i64 0, .int .i64 0, .int .i64 0, .int .u64 0, .nils, .int .i64 4, .int .i64 0]),
  (391, 1, [.nils, .ref 331 16 0 33 none, .int .i64 0, .nils, .bool false, .int .i64 (-1), .ref 356 4 0 5 (some 12), .int .i64 0, .nils, .ref 396 15 0 32 none, .int .i64 0, .nils, .bool false, .int .i64 (-1), .ref 420 3 0 4 (some 12), .int .i64 0]),
  (396, 15, [.int .u8 0, .int .u8 1, .int .u8 0, .int .u8 1, .int .u8 0, .int .u8 1, .int .u8 0, .int .u8 1, .int .u8 0, .int .u8 1, .int .u8 0, .int .u8 1, .int .u8 0, .int .u8 1, .int .u8 0, .int .u8 1, .int .u8 0, .int .u8 1, .int .u8 0, .int .u8 1, .int .u8 0, .int .u8 1, .int .u8 0, .int .u8 1, .int .u8 0, .int .u8 1, .int .u8 0, .int .u8 1, .int .u8 0, .int .u8 1, .int .u8 0, .int .u8 1]),
  (420, 3, [.int .u8 15, .int .u8 0, .int .i64 0, .int .i64 2, .int .i64 0, .int .i64 0, .int .i64 0, .int .i64 0, .int .u64 0, .nils, .int .i64 1, .int .i64 0, .int .u8 17, .int .u8 0, .int .i64 0, .int .i64 0, .int .i64 2, .int .i64 0, .int .i64 0, .int .i64 0, .int .u64 0, .nils, .int .i64 2, .int .i64 0, .int .u8 17, .int .u8 0, .int .i64 0, .int .i64 0, .int .i64 0, .int .i64 0, .int .i64 0, .int .i64 0, .int .u64 0, .nils, .int .i64 3, .int .i64 0, .int .u8 12, .int .u8 0, .int .i64 0, .int .i64 0, .int .i64 (-1), .int .i64 0, .int .i64 0, .int .i64 0, .int .u64 0, .nils, .int .i64 3, .int .i64 0]),
  (446, 0, [.ref 391 1 0 2 (some 8)]),
  (447, 0, [.ref 391 1 0 2 (some 8)]),
  (448, 0, [.nils]),
  (449, 0, [.nils, .nils]),
  (498, 0, [.nils]),
  (499, 0, [.nils, .nils]),
  (500, 0, [.int .i64 (-1), .int .i64 (-1), .int .i64 (-1), .int .i64 (-1), .int .i64 (-1)]),
  (501, 0, [.ref 391 1 0 2 (some 8), .ptr 391 1 0, .nils, .nils, .nils, .int .i64 0, .nils, .bool false, .int .i64 0, .nils, .int .i64 0, .ref 500 0 0 5 none, .nils, .nils])],
  [],
  .tup [.ref 963 0 0 33 none, .int .i64 0], 980,
  [(12, 1, [.int .u8 25, .int .i64 1, .int .u64 0, .int .u8 2, .int .i64 0, .int .u64 0, .int .u8 1, .int .i64 0, .int .u64 5, .int .u8 6, .int .i64 0, .int .u64 0, .int .u8 24, .int .i64 0, .int .u64 0]),
  (13, 0, [.int .u64 1, .int .u64 18446744073709551614]),
  (15, 0, [.int .u8 1]),
  (18, 3, [.int .u8 27, .int .i64 0, .int .u64 0, .int .u8 29, .int .i64 0, .int .u64 0, .int .u8 29, .int .i64 0, .int .u64 0, .int .u8 24, .int .i64 0, .int .u64 0]),
  (22, 0, [.int .i64 0, .ref 15 0 0 1 none, .bool false, .int .i64 (-1), .ref 12 1 0 5 (some 3), .int .i64 0, .nils, .bool false, .int .i64 (-1), .ref 18 3 0 4 (some 3)]),
  (24, 0, [.ref 22 0 0 2 (some 5)]),
  (25, 0, [.nils, .int .i64 0]),
  (26, 0, [.int .i64 1, .int .u64 0]),
  (28, 0, [.nils, .nils, .nils]),
  (81, 0, [.nils, .nils, .nils]),
  (331, 16, [.int .u8 1, .int .u8 0, .int .u8 1, .int .u8 0, .int .u8 1, .int .u8 0, .int .u8 1, .int .u8 0, .int .u8 1, .int .u8 0, .int .u8 1, .int .u8 0, .int .u8 1, .int .u8 0, .int .u8 1, .int .u8 0, .int .u8 1, .int .u8 0, .int .u8 1, .int .u8 0, .int .u8 1, .int .u8 0, .int .u8 1, .int .u8 0, .int .u8 1, .int .u8 0, .int .u8 1, .int .u8 0, .int .u8 1, .int .u8 0, .int .u8 1, .int .u8 0, .int .u8 1]),
  (356, 4, [.int .u8 13, .int .u8 0, .int .i64 0, .int .i64 0, .int .i64 0, .int .i64 0, .int .i64 1, .int .i64 0, .int .u64 0, .nils, .int .i64 1, .int .i64 0, .int .u8 2, .int .u8 0, .int .i64 2, .int .i64 0, .int .i64 0, .int .i64 0, .int .i64 0, .int .i64 0, .int .u64 0, .nils, .int .i64 2, .int .i64 0, .int .u8 1, .int .u8 0, .int .i64 3, .int .i64 0, .int .i64 0, .int .i64 0, .int .i64 0, .int .i64 0, .int .u64 5, .nils, .int .i64 3, .int .i64 0, .int .u8 8, .int .u8 0, .int .i64 0, .int .i64 0, .int .i64 2, .int .i64 3, .int .i64 0, .int .i64 0, .int .u64 0, .nils, .int .i64 4, .int .i64 0, .int .u8 12, .int .u8 0, .int .i64 0, .int .i64 0, .int .i64 (-1), .int .i64 0, .int .i64 0, .int .i64 0, .int .u64 0, .nils, .int .i64 4, .int .i64 0]),
  (391, 1, [.nils, .ref 331 16 0 33 none, .int .i64 0, .nils, .bool false, .int .i64 (-1), .ref 356 4 0 5 (some 12), .int .i64 0, .nils, .ref 396 15 0 32 none, .int .i64 0, .nils, .bool false, .int .i64 (-1), .ref 420 3 0 4 (some 12), .int .i64 0]),
  (396, 15, [.int .u8 0, .int .u8 1, .int .u8 0, .int .u8 1, .int .u8 0, .int .u8 1, .int .u8 0, .int .u8 1, .int .u8 0, .int .u8 1, .int .u8 0, .int .u8 1, .int .u8 0, .int .u8 1, .int .u8 0, .int .u8 1, .int .u8 0, .int .u8 1, .int .u8 0, .int .u8 1, .int .u8 0, .int .u8 1, .int .u8 0, .int .u8 1, .int .u8 0, .int .u8 1, .int .u8 0, .int .u8 1, .int .u8 0, .int .u8 1, .int .u8 0, .int .u8 1]),
  (420, 3, [.int .u8 15, .int .u8 0, .int .i64 0, .int .i64 2, .int .i64 0, .int .i64 0, .int .i64 0, .int .i64 0, .int .u64 0, .nils, .int .i64 1, .int .i64 0, .int .u8 17, .int .u8 0, .int .i64 0, .int .i64 0, .int .i64 2, .int .i64 0, .int .i64 0, .int .i64 0, .int .u64 0, .nils, .int .i64 2, .int .i64 0, .int .u8 17, .int .u8 0, .int .i64 0, .int .i64 0, .int .i64 0, .int .i64 0, .int .i64 0, .int .i64 0, .int .u64 0, .nils, .int .i64 3, .int .i64 0, .int .u8 12, .int .u8 0, .int .i64 0, .int .i64 0, .int .i64 (-1), .int .i64 0, .int .i64 0, .int .i64 0, .int .u64 0, .nils, .int .i64 3, .int .i64 0]),
  (446, 0, [.ref 391 1 0 2 (some 8)]),
  (447, 0, [.ref 391 1 0 2 (some 8)]),
  (448, 0, [.nils]),
  (449, 0, [.nils, .nils]),
  (498, 0, [.nils]),
  (499, 0, [.nils, .nils]),
  (500, 0, [.int .i64 (-1), .int .i64 (-1), .int .i64 (-1), .int .i64 (-1), .int .i64 (-1)]),
  (501, 0, [.ref 391 1 0 2 (some 8), .ptr 391 1 0, .nils, .nils, .nils, .int .i64 0, .nils, .bool false, .int .i64 0, .nils, .int .i64 0, .ref 500 0 0 5 none, .nils, .nils]),
  (963, 0, [.int .i64 16, .int .i64 (-1), .int .i64 0, .int .i64 1, .int .i64 (-1), .int .i64 (-1), .int .i64 (-1), .int .i64 (-1), .int .i64 (-1), .int .i64 (-1), .int .i64 (-1), .int .i64 (-1), .int .i64 (-1), .int .i64 (-1), .int .i64 (-1), .int .i64 (-1), .int .i64 (-1), .int .i64 (-1), .int .i64 (-1), .int .i64 (-1), .int .i64 (-1), .int .i64 (-1), .int .i64 (-1), .int .i64 (-1), .int .i64 (-1), .int .i64 (-1), .int .i64 (-1), .int .i64 (-1), .int .i64 (-1), .int .i64 (-1), .int .i64 (-1), .int .i64 (-1), .int .i64 (-1)])],
  [] ⟩
theorem nd0_e : chkM fs0 (runR Tryz.prog pvZ (codeT tabL) (ovA ovL []) 200) nd0 = true := by kernel_rfl
theorem nd0_ok : MemoOK Tryz.prog fs0 nd0 := chkM_ok (run_ok (ms := []) trivial) nd0_e
end Go.Proofs.YtklmiejnopdabaaGreatDoor
/- One case: known calls, evaluated by the kernel. Printed by a program. -/
namespace Go.Proofs.YtklmiejnopdabaaGreatDoor
set_option linter.constructorNameAsVariable false
set_option linter.unusedSimpArgs false
set_option linter.unusedVariables false
open Go Go.Ab Go.RowKit
set_option maxRecDepth 100000
set_option linter.unusedVariables false
def nd1 : Memo := ⟨ 67, [.agg [.ref 391 1 0 2 (some 8)], .int .i64 1], 1443,
  [(12, 1, [.int .u8 25, .int .i64 1, .int .u64 0, .int .u8 2, .int .i64 0, .int .u64 0, .int .u8 1, .int .i64 0, .int .u64 5, .int .u8 6, .int .i64 0, .int .u64 0, .int .u8 24, .int .i64 0, .int .u64 0]),
  (13, 0, [.int .u64 1, .int .u64 18446744073709551614]),
  (15, 0, [.int .u8 1]),
  (18, 3, [.int .u8 27, .int .i64 0, .int .u64 0, .int .u8 29, .int .i64 0, .int .u64 0, .int .u8 29, .int .i64 0, .int .u64 0, .int .u8 24, .int .i64 0, .int .u64 0]),
  (22, 0, [.int .i64 0, .ref 15 0 0 1 none, .bool false, .int .i64 (-1), .ref 12 1 0 5 (some 3), .int .i64 0, .nils, .bool false, .int .i64 (-1), .ref 18 3 0 4 (some 3)]),
  (24, 0, [.ref 22 0 0 2 (some 5)]),
  (25, 0, [.nils, .int .i64 0]),
  (26, 0, [.int .i64 1, .int .u64 0]),
  (28, 0, [.nils, .nils, .nils]),
  (81, 0, [.nils, .nils, .nils]),
  (331, 16, [.int .u8 1, .int .u8 0, .int .u8 1, .int .u8 0, .int .u8 1, .int .u8 0, .int .u8 1, .int .u8 0, .int .u8 1, .int .u8 0, .int .u8 1, .int .u8 0, .int .u8 1, .int .u8 0, .int .u8 1, .int .u8 0, .int .u8 1, .int .u8 0, .int .u8 1, .int .u8 0, .int .u8 1, .int .u8 0, .int .u8 1, .int .u8 0, .int .u8 1, .int .u8 0, .int .u8 1, .int .u8 0, .int .u8 1, .int .u8 0, .int .u8 1, .int .u8 0, .int .u8 1]),
  (356, 4, [.int .u8 13, .int .u8 0, .int .i64 0, .int .i64 0, .int .i64 0, .int .i64 0, .int .i64 1, .int .i64 0, .int .u64 0, .nils, .int .i64 1, .int .i64 0, .int .u8 2, .int .u8 0, .int .i64 2, .int .i64 0, .int .i64 0, .int .i64 0, .int .i64 0, .int .i64 0, .int .u64 0, .nils, .int .i64 2, .int .i64 0, .int .u8 1, .int .u8 0, .int .i64 3, .int .i64 0, .int .i64 0, .int .i64 0, .int .i64 0, .int .i64 0, .int .u64 5, .nils, .int .i64 3, .int .i64 0, .int .u8 8, .int .u8 0, .int .i64 0, .int .i64 0, .int .i64 2, .int .i64 3, .int .i64 0, .int .i64 0, .int .u64 0, .nils, .int .i64 4, .int .i64 0, .int .u8 12, .int .u8 0, .int .i64 0, .int .i64 0, .int .i64 (-1), .int .i64 0, .int .i64 0, .int .i64 0, .int .u64 0, .nils, .int .i64 4, .int .i64 0]),
  (391, 1, [.nils, .ref 331 16 0 33 none, .int .i64 0, .nils, .bool false, .int .i64 (-1), .ref 356 4 0 5 (some 12), .int .i64 0, .nils, .ref 396 15 0 32 none, .int .i64 0, .nils, .bool false, .int .i64 (-1), .ref 420 3 0 4 (some 12), .int .i64 0]),
  (396, 15, [.int .u8 0, .int .u8 1, .int .u8 0, .int .u8 1, .int .u8 0, .int .u8 1, .int .u8 0, .int .u8 1, .int .u8 0, .int .u8 1, .int .u8 0, .int .u8 1, .int .u8 0, .int .u8 1, .int .u8 0, .int .u8 1, .int .u8 0, .int .u8 1, .int .u8 0, .int .u8 1, .int .u8 0, .int .u8 1, .int .u8 0, .int .u8 1, .int .u8 0, .int .u8 1, .int .u8 0, .int .u8 1, .int .u8 0, .int .u8 1, .int .u8 0, .int .u8 1]),
  (420, 3, [.int .u8 15, .int .u8 0, .int .i64 0, .int .i64 2, .int .i64 0, .int .i64 0, .int .i64 0, .int .i64 0, .int .u64 0, .nils, .int .i64 1, .int .i64 0, .int .u8 17, .int .u8 0, .int .i64 0, .int .i64 0, .int .i64 2, .int .i64 0, .int .i64 0, .int .i64 0, .int .u64 0, .nils, .int .i64 2, .int .i64 0, .int .u8 17, .int .u8 0, .int .i64 0, .int .i64 0, .int .i64 0, .int .i64 0, .int .i64 0, .int .i64 0, .int .u64 0, .nils, .int .i64 3, .int .i64 0, .int .u8 12, .int .u8 0, .int .i64 0, .int .i64 0, .int .i64 (-1), .int .i64 0, .int .i64 0, .int .i64 0, .int .u64 0, .nils, .int .i64 3, .int .i64 0]),
  (446, 0, [.ref 391 1 0 2 (some 8)]),
  (447, 0, [.ref 391 1 0 2 (some 8)]),
  (448, 0, [.nils]),
  (449, 0, [.nils, .nils]),
  (498, 0, [.ref 1436 0 0 1 (some 8)]),
  (499, 0, [.ref 1438 0 0 1 none, .ref 1440 0 0 1 none]),
  (500, 0, [.int .i64 1, .int .i64 2, .int .i64 3, .int .i64 4, .int .i64 5]),
  (963, 0, [.int .i64 16, .int .i64 (-1), .int .i64 0, .int .i64 1, .int .i64 (-1), .int .i64 (-1), .int .i64 (-1), .int .i64 (-1), .int .i64 (-1), .int .i64 (-1), .int .i64 (-1), .int .i64 (-1), .int .i64 (-1), .int .i64 (-1), .int .i64 (-1), .int .i64 (-1), .int .i64 (-1), .int .i64 (-1), .int .i64 (-1), .int .i64 (-1), .int .i64 (-1), .int .i64 (-1), .int .i64 (-1), .int .i64 (-1), .int .i64 (-1), .int .i64 (-1), .int .i64 (-1), .int .i64 (-1), .int .i64 (-1), .int .i64 (-1), .int .i64 (-1), .int .i64 (-1), .int .i64 (-1)]),
  (1354, 1, [.int .u8 0, .int .u8 0, .int .u8 0, .int .u8 0, .int .u8 0, .int .u8 0, .int .u8 0, .int .u8 0, .int .u8 0, .int .u8 0, .int .u8 0, .int .u8 0, .int .u8 0, .int .u8 0, .int .u8 0, .int .u8 0, .int .u8 1]),
  (1360, 5, [.int .u8 10, .int .u8 0, .int .i64 0, .int .i64 0, .int .i64 0, .int .i64 0, .int .i64 0, .int .i64 0, .int .u64 0, .nils, .int .i64 1, .int .i64 0, .int .u8 13, .int .u8 0, .int .i64 (-1), .int .i64 0, .int .i64 0, .int .i64 0, .int .i64 1, .int .i64 0, .int .u64 0, .nils, .int .i64 2, .int .i64 0, .int .u8 2, .int .u8 0, .int .i64 0, .int .i64 (-1), .int .i64 16, .int .i64 0, .int .i64 0, .int .i64 0, .int .u64 0, .nils, .int .i64 3, .int .i64 0, .int .u8 1, .int .u8 0, .int .i64 1, .int .i64 (-1), .int .i64 (-1), .int .i64 0, .int .i64 0, .int .i64 0, .int .u64 5, .nils, .int .i64 4, .int .i64 0, .int .u8 8, .int .u8 0, .int .i64 (-1), .int .i64 (-1), .int .i64 0, .int .i64 1, .int .i64 0, .int .i64 0, .int .u64 0, .nils, .int .i64 5, .int .i64 0, .int .u8 12, .int .u8 0, .int .i64 (-1), .int .i64 (-1), .int .i64 (-1), .int .i64 0, .int .i64 0, .int .i64 0, .int .u64 0, .nils, .int .i64 0, .int .i64 0]),
  (1436, 0, [.nils, .ref 1354 1 0 17 none, .int .i64 0, .nils, .bool false, .int .i64 (-1), .ref 1360 5 0 6 (some 12), .int .i64 0]),
  (1438, 0, [.ref 963 0 0 33 none]),
  (1440, 0, [.ref 500 0 0 5 none]),
  (1441, 0, [.int .i64 (-1), .int .i64 (-1), .int .i64 (-1), .int .i64 (-1)]),
  (1442, 0, [.ref 391 1 0 2 (some 8), .ptr 391 1 8, .nils, .nils, .nils, .int .i64 0, .nils, .bool false, .int .i64 0, .nils, .int .i64 0, .ref 1441 0 0 4 none, .nils, .nils])],
  [],
  .tup [.ref 1833 0 0 32 none, .int .i64 0], 1841,
  [(12, 1, [.int .u8 25, .int .i64 1, .int .u64 0, .int .u8 2, .int .i64 0, .int .u64 0, .int .u8 1, .int .i64 0, .int .u64 5, .int .u8 6, .int .i64 0, .int .u64 0, .int .u8 24, .int .i64 0, .int .u64 0]),
  (13, 0, [.int .u64 1, .int .u64 18446744073709551614]),
  (15, 0, [.int .u8 1]),
  (18, 3, [.int .u8 27, .int .i64 0, .int .u64 0, .int .u8 29, .int .i64 0, .int .u64 0, .int .u8 29, .int .i64 0, .int .u64 0, .int .u8 24, .int .i64 0, .int .u64 0]),
  (22, 0, [.int .i64 0, .ref 15 0 0 1 none, .bool false, .int .i64 (-1), .ref 12 1 0 5 (some 3), .int .i64 0, .nils, .bool false, .int .i64 (-1), .ref 18 3 0 4 (some 3)]),
  (24, 0, [.ref 22 0 0 2 (some 5)]),
  (25, 0, [.nils, .int .i64 0]),
  (26, 0, [.int .i64 1, .int .u64 0]),
  (28, 0, [.nils, .nils, .nils]),
  (81, 0, [.nils, .nils, .nils]),
  (331, 16, [.int .u8 1, .int .u8 0, .int .u8 1, .int .u8 0, .int .u8 1, .int .u8 0, .int .u8 1, .int .u8 0, .int .u8 1, .int .u8 0, .int .u8 1, .int .u8 0, .int .u8 1, .int .u8 0, .int .u8 1, .int .u8 0, .int .u8 1, .int .u8 0, .int .u8 1, .int .u8 0, .int .u8 1, .int .u8 0, .int .u8 1, .int .u8 0, .int .u8 1, .int .u8 0, .int .u8 1, .int .u8 0, .int .u8 1, .int .u8 0, .int .u8 1, .int .u8 0, .int .u8 1]),
  (356, 4, [.int .u8 13, .int .u8 0, .int .i64 0, .int .i64 0, .int .i64 0, .int .i64 0, .int .i64 1, .int .i64 0, .int .u64 0, .nils, .int .i64 1, .int .i64 0, .int .u8 2, .int .u8 0, .int .i64 2, .int .i64 0, .int .i64 0, .int .i64 0, .int .i64 0, .int .i64 0, .int .u64 0, .nils, .int .i64 2, .int .i64 0, .int .u8 1, .int .u8 0, .int .i64 3, .int .i64 0, .int .i64 0, .int .i64 0, .int .i64 0, .int .i64 0, .int .u64 5, .nils, .int .i64 3, .int .i64 0, .int .u8 8, .int .u8 0, .int .i64 0, .int .i64 0, .int .i64 2, .int .i64 3, .int .i64 0, .int .i64 0, .int .u64 0, .nils, .int .i64 4, .int .i64 0, .int .u8 12, .int .u8 0, .int .i64 0, .int .i64 0, .int .i64 (-1), .int .i64 0, .int .i64 0, .int .i64 0, .int .u64 0, .nils, .int .i64 4, .int .i64 0]),
  (391, 1, [.nils, .ref 331 16 0 33 none, .int .i64 0, .nils, .bool false, .int .i64 (-1), .ref 356 4 0 5 (some 12), .int .i64 0, .nils, .ref 396 15 0 32 none, .int .i64 0, .nils, .bool false, .int .i64 (-1), .ref 420 3 0 4 (some 12), .int .i64 0]),
  (396, 15, [.int .u8 0, .int .u8 1, .int .u8 0, .int .u8 1, .int .u8 0, .int .u8 1, .int .u8 0, .int .u8 1, .int .u8 0, .int .u8 1, .int .u8 0, .int .u8 1, .int .u8 0, .int .u8 1, .int .u8 0, .int .u8 1, .int .u8 0, .int .u8 1, .int .u8 0, .int .u8 1, .int .u8 0, .int .u8 1, .int .u8 0, .int .u8 1, .int .u8 0, .int .u8 1, .int .u8 0, .int .u8 1, .int .u8 0, .int .u8 1, .int .u8 0, .int .u8 1]),
  (420, 3, [.int .u8 15, .int .u8 0, .int .i64 0, .int .i64 2, .int .i64 0, .int .i64 0, .int .i64 0, .int .i64 0, .int .u64 0, .nils, .int .i64 1, .int .i64 0, .int .u8 17, .int .u8 0, .int .i64 0, .int .i64 0, .int .i64 2, .int .i64 0, .int .i64 0, .int .i64 0, .int .u64 0, .nils, .int .i64 2, .int .i64 0, .int .u8 17, .int .u8 0, .int .i64 0, .int .i64 0, .int .i64 0, .int .i64 0, .int .i64 0, .int .i64 0, .int .u64 0, .nils, .int .i64 3, .int .i64 0, .int .u8 12, .int .u8 0, .int .i64 0, .int .i64 0, .int .i64 (-1), .int .i64 0, .int .i64 0, .int .i64 0, .int .u64 0, .nils, .int .i64 3, .int .i64 0]),
  (446, 0, [.ref 391 1 0 2 (some 8)]),
  (447, 0, [.ref 391 1 0 2 (some 8)]),
  (448, 0, [.nils]),
  (449, 0, [.nils, .nils]),
  (498, 0, [.ref 1436 0 0 1 (some 8)]),
  (499, 0, [.ref 1438 0 0 1 none, .ref 1440 0 0 1 none]),
  (500, 0, [.int .i64 1, .int .i64 2, .int .i64 3, .int .i64 4, .int .i64 5]),
  (963, 0, [.int .i64 16, .int .i64 (-1), .int .i64 0, .int .i64 1, .int .i64 (-1), .int .i64 (-1), .int .i64 (-1), .int .i64 (-1), .int .i64 (-1), .int .i64 (-1), .int .i64 (-1), .int .i64 (-1), .int .i64 (-1), .int .i64 (-1), .int .i64 (-1), .int .i64 (-1), .int .i64 (-1), .int .i64 (-1), .int .i64 (-1), .int .i64 (-1), .int .i64 (-1), .int .i64 (-1), .int .i64 (-1), .int .i64 (-1), .int .i64 (-1), .int .i64 (-1), .int .i64 (-1), .int .i64 (-1), .int .i64 (-1), .int .i64 (-1), .int .i64 (-1), .int .i64 (-1), .int .i64 (-1)]),
  (1354, 1, [.int .u8 0, .int .u8 0, .int .u8 0, .int .u8 0, .int .u8 0, .int .u8 0, .int .u8 0, .int .u8 0, .int .u8 0, .int .u8 0, .int .u8 0, .int .u8 0, .int .u8 0, .int .u8 0, .int .u8 0, .int .u8 0, .int .u8 1]),
  (1360, 5, [.int .u8 10, .int .u8 0, .int .i64 0, .int .i64 0, .int .i64 0, .int .i64 0, .int .i64 0, .int .i64 0, .int .u64 0, .nils, .int .i64 1, .int .i64 0, .int .u8 13, .int .u8 0, .int .i64 (-1), .int .i64 0, .int .i64 0, .int .i64 0, .int .i64 1, .int .i64 0, .int .u64 0, .nils, .int .i64 2, .int .i64 0, .int .u8 2, .int .u8 0, .int .i64 0, .int .i64 (-1), .int .i64 16, .int .i64 0, .int .i64 0, .int .i64 0, .int .u64 0, .nils, .int .i64 3, .int .i64 0, .int .u8 1, .int .u8 0, .int .i64 1, .int .i64 (-1), .int .i64 (-1), .int .i64 0, .int .i64 0, .int .i64 0, .int .u64 5, .nils, .int .i64 4, .int .i64 0, .int .u8 8, .int .u8 0, .int .i64 (-1), .int .i64 (-1), .int .i64 0, .int .i64 1, .int .i64 0, .int .i64 0, .int .u64 0, .nils, .int .i64 5, .int .i64 0, .int .u8 12, .int .u8 0, .int .i64 (-1), .int .i64 (-1), .int .i64 (-1), .int .i64 0, .int .i64 0, .int .i64 0, .int .u64 0, .nils, .int .i64 0, .int .i64 0]),
  (1436, 0, [.nils, .ref 1354 1 0 17 none, .int .i64 0, .nils, .bool false, .int .i64 (-1), .ref 1360 5 0 6 (some 12), .int .i64 0]),
  (1438, 0, [.ref 963 0 0 33 none]),
  (1440, 0, [.ref 500 0 0 5 none]),
  (1441, 0, [.int .i64 (-1), .int .i64 (-1), .int .i64 (-1), .int .i64 (-1)]),
  (1442, 0, [.ref 391 1 0 2 (some 8), .ptr 391 1 8, .nils, .nils, .nils, .int .i64 0, .nils, .bool false, .int .i64 0, .nils, .int .i64 0, .ref 1441 0 0 4 none, .nils, .nils]),
  (1833, 0, [.int .i64 0, .int .i64 (-1), .int .i64 1, .int .i64 (-1), .int .i64 (-1), .int .i64 (-1), .int .i64 (-1), .int .i64 (-1), .int .i64 (-1), .int .i64 (-1), .int .i64 (-1), .int .i64 (-1), .int .i64 (-1), .int .i64 (-1), .int .i64 (-1), .int .i64 (-1), .int .i64 (-1), .int .i64 (-1), .int .i64 (-1), .int .i64 (-1), .int .i64 (-1), .int .i64 (-1), .int .i64 (-1), .int .i64 (-1), .int .i64 (-1), .int .i64 (-1), .int .i64 (-1), .int .i64 (-1), .int .i64 (-1), .int .i64 (-1), .int .i64 (-1), .int .i64 (-1)])],
  [] ⟩
theorem nd1_e : chkM fs0 (runR Tryz.prog pvZ (codeT tabL) (ovA ovL []) 200) nd1 = true := by kernel_rfl
theorem nd1_ok : MemoOK Tryz.prog fs0 nd1 := chkM_ok (run_ok (ms := []) trivial) nd1_e
end Go.Proofs.YtklmiejnopdabaaGreatDoor
/- One case: known calls, evaluated by the kernel. Printed by a program. -/
namespace Go.Proofs.YtklmiejnopdabaaGreatDoor
set_option linter.constructorNameAsVariable false
set_option linter.unusedSimpArgs false
set_option linter.unusedVariables false
open Go Go.Ab Go.RowKit
set_option maxRecDepth 100000
set_option linter.unusedVariables false
def nd2 : Memo := ⟨ 39, [.agg [.ref 391 1 0 2 (some 8)]], 447,
  [(12, 1, [.int .u8 25, .int .i64 1, .int .u64 0, .int .u8 2, .int .i64 0, .int .u64 0, .int .u8 1, .int .i64 0, .int .u64 5, .int .u8 6, .int .i64 0, .int .u64 0, .int .u8 24, .int .i64 0, .int .u64 0]),
  (13, 0, [.int .u64 1, .int .u64 18446744073709551614]),
  (15, 0, [.int .u8 1]),
  (18, 3, [.int .u8 27, .int .i64 0, .int .u64 0, .int .u8 29, .int .i64 0, .int .u64 0, .int .u8 29, .int .i64 0, .int .u64 0, .int .u8 24, .int .i64 0, .int .u64 0]),
  (22, 0, [.int .i64 0, .ref 15 0 0 1 none, .bool false, .int .i64 (-1), .ref 12 1 0 5 (some 3), .int .i64 0, .nils, .bool false, .int .i64 (-1), .ref 18 3 0 4 (some 3)]),
  (24, 0, [.ref 22 0 0 2 (some 5)]),
  (25, 0, [.nils, .int .i64 0]),
  (26, 0, [.int .i64 1, .int .u64 0]),
  (28, 0, [.nils, .nils, .nils]),
  (81, 0, [.nils, .nils, .nils]),
  (331, 16, [.int .u8 1, .int .u8 0, .int .u8 1, .int .u8 0, .int .u8 1, .int .u8 0, .int .u8 1, .int .u8 0, .int .u8 1, .int .u8 0, .int .u8 1, .int .u8 0, .int .u8 1, .int .u8 0, .int .u8 1, .int .u8 0, .int .u8 1, .int .u8 0, .int .u8 1, .int .u8 0, .int .u8 1, .int .u8 0, .int .u8 1, .int .u8 0, .int .u8 1, .int .u8 0, .int .u8 1, .int .u8 0, .int .u8 1, .int .u8 0, .int .u8 1, .int .u8 0, .int .u8 1]),
  (356, 4, [.int .u8 13, .int .u8 0, .int .i64 0, .int .i64 0, .int .i64 0, .int .i64 0, .int .i64 1, .int .i64 0, .int .u64 0, .nils, .int .i64 1, .int .i64 0, .int .u8 2, .int .u8 0, .int .i64 2, .int .i64 0, .int .i64 0, .int .i64 0, .int .i64 0, .int .i64 0, .int .u64 0, .nils, .int .i64 2, .int .i64 0, .int .u8 1, .int .u8 0, .int .i64 3, .int .i64 0, .int .i64 0, .int .i64 0, .int .i64 0, .int .i64 0, .int .u64 5, .nils, .int .i64 3, .int .i64 0, .int .u8 8, .int .u8 0, .int .i64 0, .int .i64 0, .int .i64 2, .int .i64 3, .int .i64 0, .int .i64 0, .int .u64 0, .nils, .int .i64 4, .int .i64 0, .int .u8 12, .int .u8 0, .int .i64 0, .int .i64 0, .int .i64 (-1), .int .i64 0, .int .i64 0, .int .i64 0, .int .u64 0, .nils, .int .i64 4, .int .i64 0]),
  (391, 1, [.nils, .ref 331 16 0 33 none, .int .i64 0, .nils, .bool false, .int .i64 (-1), .ref 356 4 0 5 (some 12), .int .i64 0, .nils, .ref 396 15 0 32 none, .int .i64 0, .nils, .bool false, .int .i64 (-1), .ref 420 3 0 4 (some 12), .int .i64 0]),
  (396, 15, [.int .u8 0, .int .u8 1, .int .u8 0, .int .u8 1, .int .u8 0, .int .u8 1, .int .u8 0, .int .u8 1, .int .u8 0, .int .u8 1, .int .u8 0, .int .u8 1, .int .u8 0, .int .u8 1, .int .u8 0, .int .u8 1, .int .u8 0, .int .u8 1, .int .u8 0, .int .u8 1, .int .u8 0, .int .u8 1, .int .u8 0, .int .u8 1, .int .u8 0, .int .u8 1, .int .u8 0, .int .u8 1, .int .u8 0, .int .u8 1, .int .u8 0, .int .u8 1]),
  (420, 3, [.int .u8 15, .int .u8 0, .int .i64 0, .int .i64 2, .int .i64 0, .int .i64 0, .int .i64 0, .int .i64 0, .int .u64 0, .nils, .int .i64 1, .int .i64 0, .int .u8 17, .int .u8 0, .int .i64 0, .int .i64 0, .int .i64 2, .int .i64 0, .int .i64 0, .int .i64 0, .int .u64 0, .nils, .int .i64 2, .int .i64 0, .int .u8 17, .int .u8 0, .int .i64 0, .int .i64 0, .int .i64 0, .int .i64 0, .int .i64 0, .int .i64 0, .int .u64 0, .nils, .int .i64 3, .int .i64 0, .int .u8 12, .int .u8 0, .int .i64 0, .int .i64 0, .int .i64 (-1), .int .i64 0, .int .i64 0, .int .i64 0, .int .u64 0, .nils, .int .i64 3, .int .i64 0]),
  (446, 0, [.ref 391 1 0 2 (some 8)])],
  [],
  .tup [.agg [.ref 1436 1 0 2 (some 8)], .agg [.ref 1438 1 0 2 none, .ref 1440 1 0 2 none], .int .i64 0], 2275,
  [(12, 1, [.int .u8 25, .int .i64 1, .int .u64 0, .int .u8 2, .int .i64 0, .int .u64 0, .int .u8 1, .int .i64 0, .int .u64 5, .int .u8 6, .int .i64 0, .int .u64 0, .int .u8 24, .int .i64 0, .int .u64 0]),
  (13, 0, [.int .u64 1, .int .u64 18446744073709551614]),
  (15, 0, [.int .u8 1]),
  (18, 3, [.int .u8 27, .int .i64 0, .int .u64 0, .int .u8 29, .int .i64 0, .int .u64 0, .int .u8 29, .int .i64 0, .int .u64 0, .int .u8 24, .int .i64 0, .int .u64 0]),
  (22, 0, [.int .i64 0, .ref 15 0 0 1 none, .bool false, .int .i64 (-1), .ref 12 1 0 5 (some 3), .int .i64 0, .nils, .bool false, .int .i64 (-1), .ref 18 3 0 4 (some 3)]),
  (24, 0, [.ref 22 0 0 2 (some 5)]),
  (25, 0, [.nils, .int .i64 0]),
  (26, 0, [.int .i64 1, .int .u64 0]),
  (28, 0, [.nils, .nils, .nils]),
  (81, 0, [.nils, .nils, .nils]),
  (331, 16, [.int .u8 1, .int .u8 0, .int .u8 1, .int .u8 0, .int .u8 1, .int .u8 0, .int .u8 1, .int .u8 0, .int .u8 1, .int .u8 0, .int .u8 1, .int .u8 0, .int .u8 1, .int .u8 0, .int .u8 1, .int .u8 0, .int .u8 1, .int .u8 0, .int .u8 1, .int .u8 0, .int .u8 1, .int .u8 0, .int .u8 1, .int .u8 0, .int .u8 1, .int .u8 0, .int .u8 1, .int .u8 0, .int .u8 1, .int .u8 0, .int .u8 1, .int .u8 0, .int .u8 1]),
  (356, 4, [.int .u8 13, .int .u8 0, .int .i64 0, .int .i64 0, .int .i64 0, .int .i64 0, .int .i64 1, .int .i64 0, .int .u64 0, .nils, .int .i64 1, .int .i64 0, .int .u8 2, .int .u8 0, .int .i64 2, .int .i64 0, .int .i64 0, .int .i64 0, .int .i64 0, .int .i64 0, .int .u64 0, .nils, .int .i64 2, .int .i64 0, .int .u8 1, .int .u8 0, .int .i64 3, .int .i64 0, .int .i64 0, .int .i64 0, .int .i64 0, .int .i64 0, .int .u64 5, .nils, .int .i64 3, .int .i64 0, .int .u8 8, .int .u8 0, .int .i64 0, .int .i64 0, .int .i64 2, .int .i64 3, .int .i64 0, .int .i64 0, .int .u64 0, .nils, .int .i64 4, .int .i64 0, .int .u8 12, .int .u8 0, .int .i64 0, .int .i64 0, .int .i64 (-1), .int .i64 0, .int .i64 0, .int .i64 0, .int .u64 0, .nils, .int .i64 4, .int .i64 0]),
  (391, 1, [.nils, .ref 331 16 0 33 none, .int .i64 0, .nils, .bool false, .int .i64 (-1), .ref 356 4 0 5 (some 12), .int .i64 0, .nils, .ref 396 15 0 32 none, .int .i64 0, .nils, .bool false, .int .i64 (-1), .ref 420 3 0 4 (some 12), .int .i64 0]),
  (396, 15, [.int .u8 0, .int .u8 1, .int .u8 0, .int .u8 1, .int .u8 0, .int .u8 1, .int .u8 0, .int .u8 1, .int .u8 0, .int .u8 1, .int .u8 0, .int .u8 1, .int .u8 0, .int .u8 1, .int .u8 0, .int .u8 1, .int .u8 0, .int .u8 1, .int .u8 0, .int .u8 1, .int .u8 0, .int .u8 1, .int .u8 0, .int .u8 1, .int .u8 0, .int .u8 1, .int .u8 0, .int .u8 1, .int .u8 0, .int .u8 1, .int .u8 0, .int .u8 1]),
  (420, 3, [.int .u8 15, .int .u8 0, .int .i64 0, .int .i64 2, .int .i64 0, .int .i64 0, .int .i64 0, .int .i64 0, .int .u64 0, .nils, .int .i64 1, .int .i64 0, .int .u8 17, .int .u8 0, .int .i64 0, .int .i64 0, .int .i64 2, .int .i64 0, .int .i64 0, .int .i64 0, .int .u64 0, .nils, .int .i64 2, .int .i64 0, .int .u8 17, .int .u8 0, .int .i64 0, .int .i64 0, .int .i64 0, .int .i64 0, .int .i64 0, .int .i64 0, .int .u64 0, .nils, .int .i64 3, .int .i64 0, .int .u8 12, .int .u8 0, .int .i64 0, .int .i64 0, .int .i64 (-1), .int .i64 0, .int .i64 0, .int .i64 0, .int .u64 0, .nils, .int .i64 3, .int .i64 0]),
  (446, 0, [.ref 391 1 0 2 (some 8)]),
  (500, 0, [.int .i64 1, .int .i64 2, .int .i64 3, .int .i64 4, .int .i64 5]),
  (963, 0, [.int .i64 16, .int .i64 (-1), .int .i64 0, .int .i64 1, .int .i64 (-1), .int .i64 (-1), .int .i64 (-1), .int .i64 (-1), .int .i64 (-1), .int .i64 (-1), .int .i64 (-1), .int .i64 (-1), .int .i64 (-1), .int .i64 (-1), .int .i64 (-1), .int .i64 (-1), .int .i64 (-1), .int .i64 (-1), .int .i64 (-1), .int .i64 (-1), .int .i64 (-1), .int .i64 (-1), .int .i64 (-1), .int .i64 (-1), .int .i64 (-1), .int .i64 (-1), .int .i64 (-1), .int .i64 (-1), .int .i64 (-1), .int .i64 (-1), .int .i64 (-1), .int .i64 (-1), .int .i64 (-1)]),
  (1354, 1, [.int .u8 0, .int .u8 0, .int .u8 0, .int .u8 0, .int .u8 0, .int .u8 0, .int .u8 0, .int .u8 0, .int .u8 0, .int .u8 0, .int .u8 0, .int .u8 0, .int .u8 0, .int .u8 0, .int .u8 0, .int .u8 0, .int .u8 1]),
  (1360, 5, [.int .u8 10, .int .u8 0, .int .i64 0, .int .i64 0, .int .i64 0, .int .i64 0, .int .i64 0, .int .i64 0, .int .u64 0, .nils, .int .i64 1, .int .i64 0, .int .u8 13, .int .u8 0, .int .i64 (-1), .int .i64 0, .int .i64 0, .int .i64 0, .int .i64 1, .int .i64 0, .int .u64 0, .nils, .int .i64 2, .int .i64 0, .int .u8 2, .int .u8 0, .int .i64 0, .int .i64 (-1), .int .i64 16, .int .i64 0, .int .i64 0, .int .i64 0, .int .u64 0, .nils, .int .i64 3, .int .i64 0, .int .u8 1, .int .u8 0, .int .i64 1, .int .i64 (-1), .int .i64 (-1), .int .i64 0, .int .i64 0, .int .i64 0, .int .u64 5, .nils, .int .i64 4, .int .i64 0, .int .u8 8, .int .u8 0, .int .i64 (-1), .int .i64 (-1), .int .i64 0, .int .i64 1, .int .i64 0, .int .i64 0, .int .u64 0, .nils, .int .i64 5, .int .i64 0, .int .u8 12, .int .u8 0, .int .i64 (-1), .int .i64 (-1), .int .i64 (-1), .int .i64 0, .int .i64 0, .int .i64 0, .int .u64 0, .nils, .int .i64 0, .int .i64 0]),
  (1436, 1, [.nils, .ref 1354 1 0 17 none, .int .i64 0, .nils, .bool false, .int .i64 (-1), .ref 1360 5 0 6 (some 12), .int .i64 0, .nils, .ref 2151 0 0 16 none, .int .i64 0, .nils, .bool false, .int .i64 (-1), .ref 2156 4 0 5 (some 12), .int .i64 0]),
  (1438, 1, [.ref 963 0 0 33 none, .ref 1833 0 0 32 none]),
  (1440, 1, [.ref 500 0 0 5 none, .ref 1441 0 0 4 none]),
  (1441, 0, [.int .i64 1, .int .i64 2, .int .i64 3, .int .i64 4]),
  (1833, 0, [.int .i64 0, .int .i64 (-1), .int .i64 1, .int .i64 (-1), .int .i64 (-1), .int .i64 (-1), .int .i64 (-1), .int .i64 (-1), .int .i64 (-1), .int .i64 (-1), .int .i64 (-1), .int .i64 (-1), .int .i64 (-1), .int .i64 (-1), .int .i64 (-1), .int .i64 (-1), .int .i64 (-1), .int .i64 (-1), .int .i64 (-1), .int .i64 (-1), .int .i64 (-1), .int .i64 (-1), .int .i64 (-1), .int .i64 (-1), .int .i64 (-1), .int .i64 (-1), .int .i64 (-1), .int .i64 (-1), .int .i64 (-1), .int .i64 (-1), .int .i64 (-1), .int .i64 (-1)]),
  (2151, 0, [.int .u8 0, .int .u8 0, .int .u8 0, .int .u8 0, .int .u8 0, .int .u8 0, .int .u8 0, .int .u8 0, .int .u8 0, .int .u8 0, .int .u8 0, .int .u8 0, .int .u8 0, .int .u8 0, .int .u8 0, .int .u8 0]),
  (2156, 4, [.int .u8 10, .int .u8 0, .int .i64 0, .int .i64 0, .int .i64 0, .int .i64 0, .int .i64 0, .int .i64 0, .int .u64 0, .nils, .int .i64 1, .int .i64 0, .int .u8 15, .int .u8 0, .int .i64 0, .int .i64 1, .int .i64 (-1), .int .i64 0, .int .i64 0, .int .i64 0, .int .u64 0, .nils, .int .i64 2, .int .i64 0, .int .u8 17, .int .u8 0, .int .i64 (-1), .int .i64 (-1), .int .i64 1, .int .i64 0, .int .i64 0, .int .i64 0, .int .u64 0, .nils, .int .i64 3, .int .i64 0, .int .u8 17, .int .u8 0, .int .i64 (-1), .int .i64 (-1), .int .i64 0, .int .i64 0, .int .i64 0, .int .i64 0, .int .u64 0, .nils, .int .i64 4, .int .i64 0, .int .u8 12, .int .u8 0, .int .i64 (-1), .int .i64 (-1), .int .i64 (-1), .int .i64 0, .int .i64 0, .int .i64 0, .int .u64 0, .nils, .int .i64 0, .int .i64 0])],
  [] ⟩
theorem nd2_e : chkM fs0 (runR Tryz.prog pvZ (codeT tabL) (ovA ovL [nd0, nd1]) 200) nd2 = true := by kernel_rfl
theorem nd2_ok : MemoOK Tryz.prog fs0 nd2 := chkM_ok (run_ok (ms := [nd0, nd1]) ⟨nd0_ok, nd1_ok, trivial⟩) nd2_e
end Go.Proofs.YtklmiejnopdabaaGreatDoor
/- One case: known calls, evaluated by the kernel. Printed by a program. -/
namespace Go.Proofs.YtklmiejnopdabaaGreatDoor
set_option linter.constructorNameAsVariable false
set_option linter.unusedSimpArgs false
set_option linter.unusedVariables false
open Go Go.Ab Go.RowKit
set_option maxRecDepth 100000
set_option linter.unusedVariables false
def nd3 : Memo := ⟨ 40, [.agg [.ref 391 1 0 2 (some 8)], .agg [.ref 1436 1 0 2 (some 8)], .agg [.ref 1438 1 0 2 none, .ref 1440 1 0 2 none]], 2277,
  [(12, 1, [.int .u8 25, .int .i64 1, .int .u64 0, .int .u8 2, .int .i64 0, .int .u64 0, .int .u8 1, .int .i64 0, .int .u64 5, .int .u8 6, .int .i64 0, .int .u64 0, .int .u8 24, .int .i64 0, .int .u64 0]),
  (13, 0, [.int .u64 1, .int .u64 18446744073709551614]),
  (15, 0, [.int .u8 1]),
  (18, 3, [.int .u8 27, .int .i64 0, .int .u64 0, .int .u8 29, .int .i64 0, .int .u64 0, .int .u8 29, .int .i64 0, .int .u64 0, .int .u8 24, .int .i64 0, .int .u64 0]),
  (22, 0, [.int .i64 0, .ref 15 0 0 1 none, .bool false, .int .i64 (-1), .ref 12 1 0 5 (some 3), .int .i64 0, .nils, .bool false, .int .i64 (-1), .ref 18 3 0 4 (some 3)]),
  (24, 0, [.ref 22 0 0 2 (some 5)]),
  (25, 0, [.nils, .int .i64 0]),
  (26, 0, [.int .i64 1, .int .u64 0]),
  (28, 0, [.nils, .nils, .nils]),
  (81, 0, [.nils, .nils, .nils]),
  (331, 16, [.int .u8 1, .int .u8 0, .int .u8 1, .int .u8 0, .int .u8 1, .int .u8 0, .int .u8 1, .int .u8 0, .int .u8 1, .int .u8 0, .int .u8 1, .int .u8 0, .int .u8 1, .int .u8 0, .int .u8 1, .int .u8 0, .int .u8 1, .int .u8 0, .int .u8 1, .int .u8 0, .int .u8 1, .int .u8 0, .int .u8 1, .int .u8 0, .int .u8 1, .int .u8 0, .int .u8 1, .int .u8 0, .int .u8 1, .int .u8 0, .int .u8 1, .int .u8 0, .int .u8 1]),
  (356, 4, [.int .u8 13, .int .u8 0, .int .i64 0, .int .i64 0, .int .i64 0, .int .i64 0, .int .i64 1, .int .i64 0, .int .u64 0, .nils, .int .i64 1, .int .i64 0, .int .u8 2, .int .u8 0, .int .i64 2, .int .i64 0, .int .i64 0, .int .i64 0, .int .i64 0, .int .i64 0, .int .u64 0, .nils, .int .i64 2, .int .i64 0, .int .u8 1, .int .u8 0, .int .i64 3, .int .i64 0, .int .i64 0, .int .i64 0, .int .i64 0, .int .i64 0, .int .u64 5, .nils, .int .i64 3, .int .i64 0, .int .u8 8, .int .u8 0, .int .i64 0, .int .i64 0, .int .i64 2, .int .i64 3, .int .i64 0, .int .i64 0, .int .u64 0, .nils, .int .i64 4, .int .i64 0, .int .u8 12, .int .u8 0, .int .i64 0, .int .i64 0, .int .i64 (-1), .int .i64 0, .int .i64 0, .int .i64 0, .int .u64 0, .nils, .int .i64 4, .int .i64 0]),
  (391, 1, [.nils, .ref 331 16 0 33 none, .int .i64 0, .nils, .bool false, .int .i64 (-1), .ref 356 4 0 5 (some 12), .int .i64 0, .nils, .ref 396 15 0 32 none, .int .i64 0, .nils, .bool false, .int .i64 (-1), .ref 420 3 0 4 (some 12), .int .i64 0]),
  (396, 15, [.int .u8 0, .int .u8 1, .int .u8 0, .int .u8 1, .int .u8 0, .int .u8 1, .int .u8 0, .int .u8 1, .int .u8 0, .int .u8 1, .int .u8 0, .int .u8 1, .int .u8 0, .int .u8 1, .int .u8 0, .int .u8 1, .int .u8 0, .int .u8 1, .int .u8 0, .int .u8 1, .int .u8 0, .int .u8 1, .int .u8 0, .int .u8 1, .int .u8 0, .int .u8 1, .int .u8 0, .int .u8 1, .int .u8 0, .int .u8 1, .int .u8 0, .int .u8 1]),
  (420, 3, [.int .u8 15, .int .u8 0, .int .i64 0, .int .i64 2, .int .i64 0, .int .i64 0, .int .i64 0, .int .i64 0, .int .u64 0, .nils, .int .i64 1, .int .i64 0, .int .u8 17, .int .u8 0, .int .i64 0, .int .i64 0, .int .i64 2, .int .i64 0, .int .i64 0, .int .i64 0, .int .u64 0, .nils, .int .i64 2, .int .i64 0, .int .u8 17, .int .u8 0, .int .i64 0, .int .i64 0, .int .i64 0, .int .i64 0, .int .i64 0, .int .i64 0, .int .u64 0, .nils, .int .i64 3, .int .i64 0, .int .u8 12, .int .u8 0, .int .i64 0, .int .i64 0, .int .i64 (-1), .int .i64 0, .int .i64 0, .int .i64 0, .int .u64 0, .nils, .int .i64 3, .int .i64 0]),
  (500, 0, [.int .i64 1, .int .i64 2, .int .i64 3, .int .i64 4, .int .i64 5]),
  (963, 0, [.int .i64 16, .int .i64 (-1), .int .i64 0, .int .i64 1, .int .i64 (-1), .int .i64 (-1), .int .i64 (-1), .int .i64 (-1), .int .i64 (-1), .int .i64 (-1), .int .i64 (-1), .int .i64 (-1), .int .i64 (-1), .int .i64 (-1), .int .i64 (-1), .int .i64 (-1), .int .i64 (-1), .int .i64 (-1), .int .i64 (-1), .int .i64 (-1), .int .i64 (-1), .int .i64 (-1), .int .i64 (-1), .int .i64 (-1), .int .i64 (-1), .int .i64 (-1), .int .i64 (-1), .int .i64 (-1), .int .i64 (-1), .int .i64 (-1), .int .i64 (-1), .int .i64 (-1), .int .i64 (-1)]),
  (1354, 1, [.int .u8 0, .int .u8 0, .int .u8 0, .int .u8 0, .int .u8 0, .int .u8 0, .int .u8 0, .int .u8 0, .int .u8 0, .int .u8 0, .int .u8 0, .int .u8 0, .int .u8 0, .int .u8 0, .int .u8 0, .int .u8 0, .int .u8 1]),
  (1360, 5, [.int .u8 10, .int .u8 0, .int .i64 0, .int .i64 0, .int .i64 0, .int .i64 0, .int .i64 0, .int .i64 0, .int .u64 0, .nils, .int .i64 1, .int .i64 0, .int .u8 13, .int .u8 0, .int .i64 (-1), .int .i64 0, .int .i64 0, .int .i64 0, .int .i64 1, .int .i64 0, .int .u64 0, .nils, .int .i64 2, .int .i64 0, .int .u8 2, .int .u8 0, .int .i64 0, .int .i64 (-1), .int .i64 16, .int .i64 0, .int .i64 0, .int .i64 0, .int .u64 0, .nils, .int .i64 3, .int .i64 0, .int .u8 1, .int .u8 0, .int .i64 1, .int .i64 (-1), .int .i64 (-1), .int .i64 0, .int .i64 0, .int .i64 0, .int .u64 5, .nils, .int .i64 4, .int .i64 0, .int .u8 8, .int .u8 0, .int .i64 (-1), .int .i64 (-1), .int .i64 0, .int .i64 1, .int .i64 0, .int .i64 0, .int .u64 0, .nils, .int .i64 5, .int .i64 0, .int .u8 12, .int .u8 0, .int .i64 (-1), .int .i64 (-1), .int .i64 (-1), .int .i64 0, .int .i64 0, .int .i64 0, .int .u64 0, .nils, .int .i64 0, .int .i64 0]),
  (1436, 1, [.nils, .ref 1354 1 0 17 none, .int .i64 0, .nils, .bool false, .int .i64 (-1), .ref 1360 5 0 6 (some 12), .int .i64 0, .nils, .ref 2151 0 0 16 none, .int .i64 0, .nils, .bool false, .int .i64 (-1), .ref 2156 4 0 5 (some 12), .int .i64 0]),
  (1438, 1, [.ref 963 0 0 33 none, .ref 1833 0 0 32 none]),
  (1440, 1, [.ref 500 0 0 5 none, .ref 1441 0 0 4 none]),
  (1441, 0, [.int .i64 1, .int .i64 2, .int .i64 3, .int .i64 4]),
  (1833, 0, [.int .i64 0, .int .i64 (-1), .int .i64 1, .int .i64 (-1), .int .i64 (-1), .int .i64 (-1), .int .i64 (-1), .int .i64 (-1), .int .i64 (-1), .int .i64 (-1), .int .i64 (-1), .int .i64 (-1), .int .i64 (-1), .int .i64 (-1), .int .i64 (-1), .int .i64 (-1), .int .i64 (-1), .int .i64 (-1), .int .i64 (-1), .int .i64 (-1), .int .i64 (-1), .int .i64 (-1), .int .i64 (-1), .int .i64 (-1), .int .i64 (-1), .int .i64 (-1), .int .i64 (-1), .int .i64 (-1), .int .i64 (-1), .int .i64 (-1), .int .i64 (-1), .int .i64 (-1)]),
  (2151, 0, [.int .u8 0, .int .u8 0, .int .u8 0, .int .u8 0, .int .u8 0, .int .u8 0, .int .u8 0, .int .u8 0, .int .u8 0, .int .u8 0, .int .u8 0, .int .u8 0, .int .u8 0, .int .u8 0, .int .u8 0, .int .u8 0]),
  (2156, 4, [.int .u8 10, .int .u8 0, .int .i64 0, .int .i64 0, .int .i64 0, .int .i64 0, .int .i64 0, .int .i64 0, .int .u64 0, .nils, .int .i64 1, .int .i64 0, .int .u8 15, .int .u8 0, .int .i64 0, .int .i64 1, .int .i64 (-1), .int .i64 0, .int .i64 0, .int .i64 0, .int .u64 0, .nils, .int .i64 2, .int .i64 0, .int .u8 17, .int .u8 0, .int .i64 (-1), .int .i64 (-1), .int .i64 1, .int .i64 0, .int .i64 0, .int .i64 0, .int .u64 0, .nils, .int .i64 3, .int .i64 0, .int .u8 17, .int .u8 0, .int .i64 (-1), .int .i64 (-1), .int .i64 0, .int .i64 0, .int .i64 0, .int .i64 0, .int .u64 0, .nils, .int .i64 4, .int .i64 0, .int .u8 12, .int .u8 0, .int .i64 (-1), .int .i64 (-1), .int .i64 (-1), .int .i64 0, .int .i64 0, .int .i64 0, .int .u64 0, .nils, .int .i64 0, .int .i64 0]),
  (2275, 0, [.ref 1436 1 0 2 (some 8)])],
  [],
  .int .i64 0, 3505,
  [(12, 1, [.int .u8 25, .int .i64 1, .int .u64 0, .int .u8 2, .int .i64 0, .int .u64 0, .int .u8 1, .int .i64 0, .int .u64 5, .int .u8 6, .int .i64 0, .int .u64 0, .int .u8 24, .int .i64 0, .int .u64 0]),
  (13, 0, [.int .u64 1, .int .u64 18446744073709551614]),
  (15, 0, [.int .u8 1]),
  (18, 3, [.int .u8 27, .int .i64 0, .int .u64 0, .int .u8 29, .int .i64 0, .int .u64 0, .int .u8 29, .int .i64 0, .int .u64 0, .int .u8 24, .int .i64 0, .int .u64 0]),
  (22, 0, [.int .i64 0, .ref 15 0 0 1 none, .bool false, .int .i64 (-1), .ref 12 1 0 5 (some 3), .int .i64 0, .nils, .bool false, .int .i64 (-1), .ref 18 3 0 4 (some 3)]),
  (24, 0, [.ref 22 0 0 2 (some 5)]),
  (25, 0, [.nils, .int .i64 0]),
  (26, 0, [.int .i64 1, .int .u64 0]),
  (28, 0, [.nils, .nils, .nils]),
  (81, 0, [.nils, .nils, .nils]),
  (1354, 1, [.int .u8 0, .int .u8 0, .int .u8 0, .int .u8 0, .int .u8 0, .int .u8 0, .int .u8 0, .int .u8 0, .int .u8 0, .int .u8 0, .int .u8 0, .int .u8 0, .int .u8 0, .int .u8 0, .int .u8 0, .int .u8 0, .int .u8 1]),
  (1360, 5, [.int .u8 10, .int .u8 0, .int .i64 0, .int .i64 0, .int .i64 0, .int .i64 0, .int .i64 0, .int .i64 0, .int .u64 0, .nils, .int .i64 1, .int .i64 0, .int .u8 13, .int .u8 0, .int .i64 (-1), .int .i64 0, .int .i64 0, .int .i64 0, .int .i64 1, .int .i64 0, .int .u64 0, .nils, .int .i64 2, .int .i64 0, .int .u8 2, .int .u8 0, .int .i64 0, .int .i64 (-1), .int .i64 16, .int .i64 0, .int .i64 0, .int .i64 0, .int .u64 0, .nils, .int .i64 3, .int .i64 0, .int .u8 1, .int .u8 0, .int .i64 1, .int .i64 (-1), .int .i64 (-1), .int .i64 0, .int .i64 0, .int .i64 0, .int .u64 5, .nils, .int .i64 4, .int .i64 0, .int .u8 8, .int .u8 0, .int .i64 (-1), .int .i64 (-1), .int .i64 0, .int .i64 1, .int .i64 0, .int .i64 0, .int .u64 0, .nils, .int .i64 5, .int .i64 0, .int .u8 12, .int .u8 0, .int .i64 (-1), .int .i64 (-1), .int .i64 (-1), .int .i64 0, .int .i64 0, .int .i64 0, .int .u64 0, .nils, .int .i64 0, .int .i64 0]),
  (1436, 1, [.nils, .ref 1354 1 0 17 none, .int .i64 0, .nils, .bool false, .int .i64 (-1), .ref 1360 5 0 6 (some 12), .int .i64 0, .nils, .ref 2151 0 0 16 none, .int .i64 0, .nils, .bool false, .int .i64 (-1), .ref 2156 4 0 5 (some 12), .int .i64 0]),
  (2151, 0, [.int .u8 0, .int .u8 0, .int .u8 0, .int .u8 0, .int .u8 0, .int .u8 0, .int .u8 0, .int .u8 0, .int .u8 0, .int .u8 0, .int .u8 0, .int .u8 0, .int .u8 0, .int .u8 0, .int .u8 0, .int .u8 0]),
  (2156, 4, [.int .u8 10, .int .u8 0, .int .i64 0, .int .i64 0, .int .i64 0, .int .i64 0, .int .i64 0, .int .i64 0, .int .u64 0, .nils, .int .i64 1, .int .i64 0, .int .u8 15, .int .u8 0, .int .i64 0, .int .i64 1, .int .i64 (-1), .int .i64 0, .int .i64 0, .int .i64 0, .int .u64 0, .nils, .int .i64 2, .int .i64 0, .int .u8 17, .int .u8 0, .int .i64 (-1), .int .i64 (-1), .int .i64 1, .int .i64 0, .int .i64 0, .int .i64 0, .int .u64 0, .nils, .int .i64 3, .int .i64 0, .int .u8 17, .int .u8 0, .int .i64 (-1), .int .i64 (-1), .int .i64 0, .int .i64 0, .int .i64 0, .int .i64 0, .int .u64 0, .nils, .int .i64 4, .int .i64 0, .int .u8 12, .int .u8 0, .int .i64 (-1), .int .i64 (-1), .int .i64 (-1), .int .i64 0, .int .i64 0, .int .i64 0, .int .u64 0, .nils, .int .i64 0, .int .i64 0]),
  (2275, 0, [.ref 1436 1 0 2 (some 8)])],
  [] ⟩
theorem nd3_e : chkM fs0 (runR Tryz.prog pvZ (codeT tabL) (ovA ovL []) 200) nd3 = true := by kernel_rfl
theorem nd3_ok : MemoOK Tryz.prog fs0 nd3 := chkM_ok (run_ok (ms := []) trivial) nd3_e
end Go.Proofs.YtklmiejnopdabaaGreatDoor
/- One case: known calls, evaluated by the kernel. Printed by a program. -/
namespace Go.Proofs.YtklmiejnopdabaaGreatDoor
set_option linter.constructorNameAsVariable false
set_option linter.unusedSimpArgs false
set_option linter.unusedVariables false
open Go Go.Ab Go.RowKit
set_option maxRecDepth 100000
set_option linter.unusedVariables false
def nd4 : Memo := ⟨ 41, [.agg [.ref 1436 1 0 2 (some 8)]], 3505,
  [(12, 1, [.int .u8 25, .int .i64 1, .int .u64 0, .int .u8 2, .int .i64 0, .int .u64 0, .int .u8 1, .int .i64 0, .int .u64 5, .int .u8 6, .int .i64 0, .int .u64 0, .int .u8 24, .int .i64 0, .int .u64 0]),
  (13, 0, [.int .u64 1, .int .u64 18446744073709551614]),
  (15, 0, [.int .u8 1]),
  (18, 3, [.int .u8 27, .int .i64 0, .int .u64 0, .int .u8 29, .int .i64 0, .int .u64 0, .int .u8 29, .int .i64 0, .int .u64 0, .int .u8 24, .int .i64 0, .int .u64 0]),
  (22, 0, [.int .i64 0, .ref 15 0 0 1 none, .bool false, .int .i64 (-1), .ref 12 1 0 5 (some 3), .int .i64 0, .nils, .bool false, .int .i64 (-1), .ref 18 3 0 4 (some 3)]),
  (24, 0, [.ref 22 0 0 2 (some 5)]),
  (25, 0, [.nils, .int .i64 0]),
  (26, 0, [.int .i64 1, .int .u64 0]),
  (28, 0, [.nils, .nils, .nils]),
  (81, 0, [.nils, .nils, .nils]),
  (1354, 1, [.int .u8 0, .int .u8 0, .int .u8 0, .int .u8 0, .int .u8 0, .int .u8 0, .int .u8 0, .int .u8 0, .int .u8 0, .int .u8 0, .int .u8 0, .int .u8 0, .int .u8 0, .int .u8 0, .int .u8 0, .int .u8 0, .int .u8 1]),
  (1360, 5, [.int .u8 10, .int .u8 0, .int .i64 0, .int .i64 0, .int .i64 0, .int .i64 0, .int .i64 0, .int .i64 0, .int .u64 0, .nils, .int .i64 1, .int .i64 0, .int .u8 13, .int .u8 0, .int .i64 (-1), .int .i64 0, .int .i64 0, .int .i64 0, .int .i64 1, .int .i64 0, .int .u64 0, .nils, .int .i64 2, .int .i64 0, .int .u8 2, .int .u8 0, .int .i64 0, .int .i64 (-1), .int .i64 16, .int .i64 0, .int .i64 0, .int .i64 0, .int .u64 0, .nils, .int .i64 3, .int .i64 0, .int .u8 1, .int .u8 0, .int .i64 1, .int .i64 (-1), .int .i64 (-1), .int .i64 0, .int .i64 0, .int .i64 0, .int .u64 5, .nils, .int .i64 4, .int .i64 0, .int .u8 8, .int .u8 0, .int .i64 (-1), .int .i64 (-1), .int .i64 0, .int .i64 1, .int .i64 0, .int .i64 0, .int .u64 0, .nils, .int .i64 5, .int .i64 0, .int .u8 12, .int .u8 0, .int .i64 (-1), .int .i64 (-1), .int .i64 (-1), .int .i64 0, .int .i64 0, .int .i64 0, .int .u64 0, .nils, .int .i64 0, .int .i64 0]),
  (1436, 1, [.nils, .ref 1354 1 0 17 none, .int .i64 0, .nils, .bool false, .int .i64 (-1), .ref 1360 5 0 6 (some 12), .int .i64 0, .nils, .ref 2151 0 0 16 none, .int .i64 0, .nils, .bool false, .int .i64 (-1), .ref 2156 4 0 5 (some 12), .int .i64 0]),
  (2151, 0, [.int .u8 0, .int .u8 0, .int .u8 0, .int .u8 0, .int .u8 0, .int .u8 0, .int .u8 0, .int .u8 0, .int .u8 0, .int .u8 0, .int .u8 0, .int .u8 0, .int .u8 0, .int .u8 0, .int .u8 0, .int .u8 0]),
  (2156, 4, [.int .u8 10, .int .u8 0, .int .i64 0, .int .i64 0, .int .i64 0, .int .i64 0, .int .i64 0, .int .i64 0, .int .u64 0, .nils, .int .i64 1, .int .i64 0, .int .u8 15, .int .u8 0, .int .i64 0, .int .i64 1, .int .i64 (-1), .int .i64 0, .int .i64 0, .int .i64 0, .int .u64 0, .nils, .int .i64 2, .int .i64 0, .int .u8 17, .int .u8 0, .int .i64 (-1), .int .i64 (-1), .int .i64 1, .int .i64 0, .int .i64 0, .int .i64 0, .int .u64 0, .nils, .int .i64 3, .int .i64 0, .int .u8 17, .int .u8 0, .int .i64 (-1), .int .i64 (-1), .int .i64 0, .int .i64 0, .int .i64 0, .int .i64 0, .int .u64 0, .nils, .int .i64 4, .int .i64 0, .int .u8 12, .int .u8 0, .int .i64 (-1), .int .i64 (-1), .int .i64 (-1), .int .i64 0, .int .i64 0, .int .i64 0, .int .u64 0, .nils, .int .i64 0, .int .i64 0])],
  [],
  .tup [.agg [.ref 4235 23 0 192 none, .ref 4022 1 0 2 (some 6), .nils], .int .i64 0], 4328,
  [(12, 1, [.int .u8 25, .int .i64 1, .int .u64 0, .int .u8 2, .int .i64 0, .int .u64 0, .int .u8 1, .int .i64 0, .int .u64 5, .int .u8 6, .int .i64 0, .int .u64 0, .int .u8 24, .int .i64 0, .int .u64 0]),
  (13, 0, [.int .u64 1, .int .u64 18446744073709551614]),
  (15, 0, [.int .u8 1]),
  (18, 3, [.int .u8 27, .int .i64 0, .int .u64 0, .int .u8 29, .int .i64 0, .int .u64 0, .int .u8 29, .int .i64 0, .int .u64 0, .int .u8 24, .int .i64 0, .int .u64 0]),
  (22, 0, [.int .i64 0, .ref 15 0 0 1 none, .bool false, .int .i64 (-1), .ref 12 1 0 5 (some 3), .int .i64 0, .nils, .bool false, .int .i64 (-1), .ref 18 3 0 4 (some 3)]),
  (24, 0, [.ref 22 0 0 2 (some 5)]),
  (25, 0, [.nils, .int .i64 0]),
  (26, 0, [.int .i64 1, .int .u64 0]),
  (28, 0, [.nils, .nils, .nils]),
  (81, 0, [.nils, .nils, .nils]),
  (4022, 1, [.int .i64 2, .int .i64 17, .int .i64 8, .nils, .nils, .int .i64 14, .int .i64 17, .int .i64 24, .int .i64 0, .nils, .nils, .int .i64 (-1)]),
  (4235, 23, [.int .u8 13, .int .u8 0, .int .u8 0, .int .u8 0, .int .u8 0, .int .u8 0, .int .u8 0, .int .u8 0, .int .u8 13, .int .u8 0, .int .u8 0, .int .u8 0, .int .u8 1, .int .u8 0, .int .u8 0, .int .u8 0, .int .u8 11, .int .u8 0, .int .u8 0, .int .u8 0, .int .u8 8, .int .u8 0, .int .u8 0, .int .u8 0, .int .u8 1, .int .u8 13, .int .u8 0, .int .u8 0, .int .u8 0, .int .u8 0, .int .u8 0, .int .u8 0, .int .u8 5, .int .u8 0, .int .u8 14, .int .u8 13, .int .u8 0, .int .u8 0, .int .u8 0, .int .u8 0, .int .u8 13, .int .u8 0, .int .u8 0, .int .u8 0, .int .u8 7, .int .u8 1, .int .u8 0, .int .u8 0, .int .u8 4, .int .u8 0, .int .u8 14, .int .u8 0, .int .u8 0, .int .u8 0, .int .u8 0, .int .u8 0, .int .u8 1, .int .u8 1, .int .u8 0, .int .u8 0, .int .u8 5, .int .u8 0, .int .u8 0, .int .u8 0, .int .u8 8, .int .u8 0, .int .u8 0, .int .u8 0, .int .u8 15, .int .u8 0, .int .u8 0, .int .u8 0, .int .u8 5, .int .u8 0, .int .u8 0, .int .u8 1, .int .u8 0, .int .u8 0, .int .u8 0, .int .u8 0, .int .u8 7, .int .u8 0, .int .u8 0, .int .u8 0, .int .u8 11, .int .u8 0, .int .u8 0, .int .u8 0, .int .u8 13, .int .u8 0, .int .u8 0, .int .u8 0, .int .u8 8, .int .u8 0, .int .u8 0, .int .u8 0, .int .u8 12, .int .u8 0, .int .u8 0, .int .u8 0, .int .u8 8, .int .u8 0, .int .u8 0, .int .u8 0, .int .u8 10, .int .u8 0, .int .u8 0, .int .u8 0, .int .u8 0, .int .u8 0, .int .u8 0, .int .u8 0, .int .u8 7, .int .u8 0, .int .u8 0, .int .u8 0, .int .u8 11, .int .u8 0, .int .u8 0, .int .u8 0, .int .u8 1, .int .u8 13, .int .u8 0, .int .u8 0, .int .u8 254, .int .u8 255, .int .u8 255, .int .u8 255, .int .u8 13, .int .u8 0, .int .u8 13, .int .u8 0, .int .u8 5, .int .u8 0, .int .u8 0, .int .u8 0, .int .u8 11, .int .u8 0, .int .u8 0, .int .u8 0, .int .u8 0, .int .u8 0, .int .u8 0, .int .u8 0, .int .u8 13, .int .u8 0, .int .u8 0, .int .u8 1, .int .u8 6, .int .u8 0, .int .u8 0, .int .u8 0, .int .u8 13, .int .u8 0, .int .u8 1, .int .u8 0, .int .u8 2, .int .u8 0, .int .u8 0, .int .u8 0, .int .u8 13, .int .u8 0, .int .u8 0, .int .u8 0, .int .u8 2, .int .u8 0, .int .u8 0, .int .u8 0, .int .u8 7, .int .u8 0, .int .u8 0, .int .u8 0, .int .u8 22, .int .u8 0, .int .u8 0, .int .u8 0, .int .u8 12, .int .u8 0, .int .u8 0, .int .u8 0, .int .u8 0, .int .u8 0, .int .u8 0, .int .u8 0, .int .u8 10, .int .u8 0, .int .u8 0, .int .u8 0, .int .u8 0, .int .u8 0, .int .u8 0, .int .u8 0])],
  [] ⟩
theorem nd4_e : chkM fs0 (runR Tryz.prog pvZ (codeT tabL) (ovA ovL []) 200) nd4 = true := by kernel_rfl
theorem nd4_ok : MemoOK Tryz.prog fs0 nd4 := chkM_ok (run_ok (ms := []) trivial) nd4_e
end Go.Proofs.YtklmiejnopdabaaGreatDoor
