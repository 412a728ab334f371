/- One case: known calls, evaluated by the kernel. Printed by a program. -/
import Derived.Test.YtklmiejnopdabaaGreatDoorWhH
namespace Go.Proofs.YtklmiejnopdabaaGreatDoor
set_option linter.constructorNameAsVariable false
set_option linter.unusedSimpArgs false
set_option linter.unusedVariables false
open Go Go.Ab Go.RowKit
set_option maxRecDepth 100000
set_option linter.unusedVariables false
def na0 : Memo := ⟨ 67, [.agg [.ref 334 1 0 2 (some 8)], .int .i64 0], 440,
  [(4, 0, [.int .u8 2, .int .i64 0, .int .u64 0, .int .u8 5, .int .i64 0, .int .u64 0, .int .u8 29, .int .i64 0, .int .u64 0, .int .u8 24, .int .i64 0, .int .u64 0]),
  (6, 0, [.int .u8 1]),
  (9, 3, [.int .u8 27, .int .i64 0, .int .u64 0, .int .u8 29, .int .i64 0, .int .u64 0, .int .u8 29, .int .i64 0, .int .u64 0, .int .u8 24, .int .i64 0, .int .u64 0]),
  (13, 0, [.int .i64 0, .ref 6 0 0 1 none, .bool false, .int .i64 (-1), .ref 4 0 0 4 (some 3), .int .i64 0, .nils, .bool false, .int .i64 (-1), .ref 9 3 0 4 (some 3)]),
  (15, 0, [.ref 13 0 0 2 (some 5)]),
  (16, 0, [.nils, .int .i64 0]),
  (17, 0, [.int .i64 2, .int .u64 18446744073709551614]),
  (19, 0, [.nils, .nils, .nils]),
  (60, 0, [.nils, .nils, .nils]),
  (282, 16, [.int .u8 1, .int .u8 0, .int .u8 1, .int .u8 0, .int .u8 1, .int .u8 0, .int .u8 1, .int .u8 0, .int .u8 1, .int .u8 0, .int .u8 1, .int .u8 0, .int .u8 1, .int .u8 0, .int .u8 1, .int .u8 0, .int .u8 1, .int .u8 0, .int .u8 1, .int .u8 0, .int .u8 1, .int .u8 0, .int .u8 1, .int .u8 0, .int .u8 1, .int .u8 0, .int .u8 1, .int .u8 0, .int .u8 1, .int .u8 0, .int .u8 1, .int .u8 0, .int .u8 1]),
  (308, 3, [.int .u8 2, .int .u8 0, .int .i64 2, .int .i64 0, .int .i64 0, .int .i64 0, .int .i64 0, .int .i64 0, .int .u64 0, .nils, .int .i64 1, .int .i64 0, .int .u8 7, .int .u8 0, .int .i64 1, .int .i64 0, .int .i64 2, .int .i64 0, .int .i64 0, .int .i64 0, .int .u64 0, .nils, .int .i64 2, .int .i64 0, .int .u8 17, .int .u8 0, .int .i64 0, .int .i64 0, .int .i64 1, .int .i64 0, .int .i64 0, .int .i64 0, .int .u64 0, .nils, .int .i64 3, .int .i64 0, .int .u8 12, .int .u8 0, .int .i64 0, .int .i64 0, .int .i64 (-1), .int .i64 0, .int .i64 0, .int .i64 0, .int .u64 0, .nils, .int .i64 3, .int .i64 0]),
  (334, 1, [.nils, .ref 282 16 0 33 none, .int .i64 0, .nils, .bool false, .int .i64 (-1), .ref 308 3 0 4 (some 12), .int .i64 0, .nils, .ref 339 15 0 32 none, .int .i64 0, .nils, .bool false, .int .i64 (-1), .ref 363 3 0 4 (some 12), .int .i64 0]),
  (339, 15, [.int .u8 0, .int .u8 1, .int .u8 0, .int .u8 1, .int .u8 0, .int .u8 1, .int .u8 0, .int .u8 1, .int .u8 0, .int .u8 1, .int .u8 0, .int .u8 1, .int .u8 0, .int .u8 1, .int .u8 0, .int .u8 1, .int .u8 0, .int .u8 1, .int .u8 0, .int .u8 1, .int .u8 0, .int .u8 1, .int .u8 0, .int .u8 1, .int .u8 0, .int .u8 1, .int .u8 0, .int .u8 1, .int .u8 0, .int .u8 1, .int .u8 0, .int .u8 1]),
  (363, 3, [.int .u8 15, .int .u8 0, .int .i64 0, .int .i64 2, .int .i64 0, .int .i64 0, .int .i64 0, .int .i64 0, .int .u64 0, .nils, .int .i64 1, .int .i64 0, .int .u8 17, .int .u8 0, .int .i64 0, .int .i64 0, .int .i64 2, .int .i64 0, .int .i64 0, .int .i64 0, .int .u64 0, .nils, .int .i64 2, .int .i64 0, .int .u8 17, .int .u8 0, .int .i64 0, .int .i64 0, .int .i64 0, .int .i64 0, .int .i64 0, .int .i64 0, .int .u64 0, .nils, .int .i64 3, .int .i64 0, .int .u8 12, .int .u8 0, .int .i64 0, .int .i64 0, .int .i64 (-1), .int .i64 0, .int .i64 0, .int .i64 0, .int .u64 0, .nils, .int .i64 3, .int .i64 0]),
  (389, 0, [.ref 334 1 0 2 (some 8)]),
  (390, 0, [.ref 334 1 0 2 (some 8)]),
  (391, 0, [.nils]),
  (392, 0, [.nils, .nils]),
  (436, 0, [.nils]),
  (437, 0, [.nils, .nils]),
  (438, 0, [.int .i64 (-1), .int .i64 (-1), .int .i64 (-1), .int .i64 (-1)]),
  (439, 0, [.ref 334 1 0 2 (some 8), .ptr 334 1 0, .nils, .nils, .nils, .int .i64 0, .nils, .bool false, .int .i64 0, .nils, .int .i64 0, .ref 438 0 0 4 none, .nils, .nils])],
  [],
  .tup [.ref 836 0 0 33 none, .int .i64 0], 849,
  [(4, 0, [.int .u8 2, .int .i64 0, .int .u64 0, .int .u8 5, .int .i64 0, .int .u64 0, .int .u8 29, .int .i64 0, .int .u64 0, .int .u8 24, .int .i64 0, .int .u64 0]),
  (6, 0, [.int .u8 1]),
  (9, 3, [.int .u8 27, .int .i64 0, .int .u64 0, .int .u8 29, .int .i64 0, .int .u64 0, .int .u8 29, .int .i64 0, .int .u64 0, .int .u8 24, .int .i64 0, .int .u64 0]),
  (13, 0, [.int .i64 0, .ref 6 0 0 1 none, .bool false, .int .i64 (-1), .ref 4 0 0 4 (some 3), .int .i64 0, .nils, .bool false, .int .i64 (-1), .ref 9 3 0 4 (some 3)]),
  (15, 0, [.ref 13 0 0 2 (some 5)]),
  (16, 0, [.nils, .int .i64 0]),
  (17, 0, [.int .i64 2, .int .u64 18446744073709551614]),
  (19, 0, [.nils, .nils, .nils]),
  (60, 0, [.nils, .nils, .nils]),
  (282, 16, [.int .u8 1, .int .u8 0, .int .u8 1, .int .u8 0, .int .u8 1, .int .u8 0, .int .u8 1, .int .u8 0, .int .u8 1, .int .u8 0, .int .u8 1, .int .u8 0, .int .u8 1, .int .u8 0, .int .u8 1, .int .u8 0, .int .u8 1, .int .u8 0, .int .u8 1, .int .u8 0, .int .u8 1, .int .u8 0, .int .u8 1, .int .u8 0, .int .u8 1, .int .u8 0, .int .u8 1, .int .u8 0, .int .u8 1, .int .u8 0, .int .u8 1, .int .u8 0, .int .u8 1]),
  (308, 3, [.int .u8 2, .int .u8 0, .int .i64 2, .int .i64 0, .int .i64 0, .int .i64 0, .int .i64 0, .int .i64 0, .int .u64 0, .nils, .int .i64 1, .int .i64 0, .int .u8 7, .int .u8 0, .int .i64 1, .int .i64 0, .int .i64 2, .int .i64 0, .int .i64 0, .int .i64 0, .int .u64 0, .nils, .int .i64 2, .int .i64 0, .int .u8 17, .int .u8 0, .int .i64 0, .int .i64 0, .int .i64 1, .int .i64 0, .int .i64 0, .int .i64 0, .int .u64 0, .nils, .int .i64 3, .int .i64 0, .int .u8 12, .int .u8 0, .int .i64 0, .int .i64 0, .int .i64 (-1), .int .i64 0, .int .i64 0, .int .i64 0, .int .u64 0, .nils, .int .i64 3, .int .i64 0]),
  (334, 1, [.nils, .ref 282 16 0 33 none, .int .i64 0, .nils, .bool false, .int .i64 (-1), .ref 308 3 0 4 (some 12), .int .i64 0, .nils, .ref 339 15 0 32 none, .int .i64 0, .nils, .bool false, .int .i64 (-1), .ref 363 3 0 4 (some 12), .int .i64 0]),
  (339, 15, [.int .u8 0, .int .u8 1, .int .u8 0, .int .u8 1, .int .u8 0, .int .u8 1, .int .u8 0, .int .u8 1, .int .u8 0, .int .u8 1, .int .u8 0, .int .u8 1, .int .u8 0, .int .u8 1, .int .u8 0, .int .u8 1, .int .u8 0, .int .u8 1, .int .u8 0, .int .u8 1, .int .u8 0, .int .u8 1, .int .u8 0, .int .u8 1, .int .u8 0, .int .u8 1, .int .u8 0, .int .u8 1, .int .u8 0, .int .u8 1, .int .u8 0, .int .u8 1]),
  (363, 3, [.int .u8 15, .int .u8 0, .int .i64 0, .int .i64 2, .int .i64 0, .int .i64 0, .int .i64 0, .int .i64 0, .int .u64 0, .nils, .int .i64 1, .int .i64 0, .int .u8 17, .int .u8 0, .int .i64 0, .int .i64 0, .int .i64 2, .int .i64 0, .int .i64 0, .int .i64 0, .int .u64 0, .nils, .int .i64 2, .int .i64 0, .int .u8 17, .int .u8 0, .int .i64 0, .int .i64 0, .int .i64 0, .int .i64 0, .int .i64 0, .int .i64 0, .int .u64 0, .nils, .int .i64 3, .int .i64 0, .int .u8 12, .int .u8 0, .int .i64 0, .int .i64 0, .int .i64 (-1), .int .i64 0, .int .i64 0, .int .i64 0, .int .u64 0, .nils, .int .i64 3, .int .i64 0]),
  (389, 0, [.ref 334 1 0 2 (some 8)]),
  (390, 0, [.ref 334 1 0 2 (some 8)]),
  (391, 0, [.nils]),
  (392, 0, [.nils, .nils]),
  (436, 0, [.nils]),
  (437, 0, [.nils, .nils]),
  (438, 0, [.int .i64 (-1), .int .i64 (-1), .int .i64 (-1), .int .i64 (-1)]),
  (439, 0, [.ref 334 1 0 2 (some 8), .ptr 334 1 0, .nils, .nils, .nils, .int .i64 0, .nils, .bool false, .int .i64 0, .nils, .int .i64 0, .ref 438 0 0 4 none, .nils, .nils]),
  (836, 0, [.int .i64 0, .int .i64 0, .int .i64 1, .int .i64 (-1), .int .i64 (-1), .int .i64 (-1), .int .i64 (-1), .int .i64 (-1), .int .i64 (-1), .int .i64 (-1), .int .i64 (-1), .int .i64 (-1), .int .i64 (-1), .int .i64 (-1), .int .i64 (-1), .int .i64 (-1), .int .i64 (-1), .int .i64 (-1), .int .i64 (-1), .int .i64 (-1), .int .i64 (-1), .int .i64 (-1), .int .i64 (-1), .int .i64 (-1), .int .i64 (-1), .int .i64 (-1), .int .i64 (-1), .int .i64 (-1), .int .i64 (-1), .int .i64 (-1), .int .i64 (-1), .int .i64 (-1), .int .i64 (-1)])],
  [] ⟩
theorem na0_e : chkM fs0 (runR Tryz.prog pvZ (codeT tabL) (ovA ovL []) 200) na0 = true := by kernel_rfl
theorem na0_ok : MemoOK Tryz.prog fs0 na0 := chkM_ok (run_ok (ms := []) trivial) na0_e
end Go.Proofs.YtklmiejnopdabaaGreatDoor
/- One case: known calls, evaluated by the kernel. Printed by a program. -/
namespace Go.Proofs.YtklmiejnopdabaaGreatDoor
set_option linter.constructorNameAsVariable false
set_option linter.unusedSimpArgs false
set_option linter.unusedVariables false
open Go Go.Ab Go.RowKit
set_option maxRecDepth 100000
set_option linter.unusedVariables false
def na1 : Memo := ⟨ 67, [.agg [.ref 334 1 0 2 (some 8)], .int .i64 1], 1244,
  [(4, 0, [.int .u8 2, .int .i64 0, .int .u64 0, .int .u8 5, .int .i64 0, .int .u64 0, .int .u8 29, .int .i64 0, .int .u64 0, .int .u8 24, .int .i64 0, .int .u64 0]),
  (6, 0, [.int .u8 1]),
  (9, 3, [.int .u8 27, .int .i64 0, .int .u64 0, .int .u8 29, .int .i64 0, .int .u64 0, .int .u8 29, .int .i64 0, .int .u64 0, .int .u8 24, .int .i64 0, .int .u64 0]),
  (13, 0, [.int .i64 0, .ref 6 0 0 1 none, .bool false, .int .i64 (-1), .ref 4 0 0 4 (some 3), .int .i64 0, .nils, .bool false, .int .i64 (-1), .ref 9 3 0 4 (some 3)]),
  (15, 0, [.ref 13 0 0 2 (some 5)]),
  (16, 0, [.nils, .int .i64 0]),
  (17, 0, [.int .i64 2, .int .u64 18446744073709551614]),
  (19, 0, [.nils, .nils, .nils]),
  (60, 0, [.nils, .nils, .nils]),
  (282, 16, [.int .u8 1, .int .u8 0, .int .u8 1, .int .u8 0, .int .u8 1, .int .u8 0, .int .u8 1, .int .u8 0, .int .u8 1, .int .u8 0, .int .u8 1, .int .u8 0, .int .u8 1, .int .u8 0, .int .u8 1, .int .u8 0, .int .u8 1, .int .u8 0, .int .u8 1, .int .u8 0, .int .u8 1, .int .u8 0, .int .u8 1, .int .u8 0, .int .u8 1, .int .u8 0, .int .u8 1, .int .u8 0, .int .u8 1, .int .u8 0, .int .u8 1, .int .u8 0, .int .u8 1]),
  (308, 3, [.int .u8 2, .int .u8 0, .int .i64 2, .int .i64 0, .int .i64 0, .int .i64 0, .int .i64 0, .int .i64 0, .int .u64 0, .nils, .int .i64 1, .int .i64 0, .int .u8 7, .int .u8 0, .int .i64 1, .int .i64 0, .int .i64 2, .int .i64 0, .int .i64 0, .int .i64 0, .int .u64 0, .nils, .int .i64 2, .int .i64 0, .int .u8 17, .int .u8 0, .int .i64 0, .int .i64 0, .int .i64 1, .int .i64 0, .int .i64 0, .int .i64 0, .int .u64 0, .nils, .int .i64 3, .int .i64 0, .int .u8 12, .int .u8 0, .int .i64 0, .int .i64 0, .int .i64 (-1), .int .i64 0, .int .i64 0, .int .i64 0, .int .u64 0, .nils, .int .i64 3, .int .i64 0]),
  (334, 1, [.nils, .ref 282 16 0 33 none, .int .i64 0, .nils, .bool false, .int .i64 (-1), .ref 308 3 0 4 (some 12), .int .i64 0, .nils, .ref 339 15 0 32 none, .int .i64 0, .nils, .bool false, .int .i64 (-1), .ref 363 3 0 4 (some 12), .int .i64 0]),
  (339, 15, [.int .u8 0, .int .u8 1, .int .u8 0, .int .u8 1, .int .u8 0, .int .u8 1, .int .u8 0, .int .u8 1, .int .u8 0, .int .u8 1, .int .u8 0, .int .u8 1, .int .u8 0, .int .u8 1, .int .u8 0, .int .u8 1, .int .u8 0, .int .u8 1, .int .u8 0, .int .u8 1, .int .u8 0, .int .u8 1, .int .u8 0, .int .u8 1, .int .u8 0, .int .u8 1, .int .u8 0, .int .u8 1, .int .u8 0, .int .u8 1, .int .u8 0, .int .u8 1]),
  (363, 3, [.int .u8 15, .int .u8 0, .int .i64 0, .int .i64 2, .int .i64 0, .int .i64 0, .int .i64 0, .int .i64 0, .int .u64 0, .nils, .int .i64 1, .int .i64 0, .int .u8 17, .int .u8 0, .int .i64 0, .int .i64 0, .int .i64 2, .int .i64 0, .int .i64 0, .int .i64 0, .int .u64 0, .nils, .int .i64 2, .int .i64 0, .int .u8 17, .int .u8 0, .int .i64 0, .int .i64 0, .int .i64 0, .int .i64 0, .int .i64 0, .int .i64 0, .int .u64 0, .nils, .int .i64 3, .int .i64 0, .int .u8 12, .int .u8 0, .int .i64 0, .int .i64 0, .int .i64 (-1), .int .i64 0, .int .i64 0, .int .i64 0, .int .u64 0, .nils, .int .i64 3, .int .i64 0]),
  (389, 0, [.ref 334 1 0 2 (some 8)]),
  (390, 0, [.ref 334 1 0 2 (some 8)]),
  (391, 0, [.nils]),
  (392, 0, [.nils, .nils]),
  (436, 0, [.ref 1237 0 0 1 (some 8)]),
  (437, 0, [.ref 1239 0 0 1 none, .ref 1241 0 0 1 none]),
  (438, 0, [.int .i64 2, .int .i64 3, .int .i64 4, .int .i64 5]),
  (836, 0, [.int .i64 0, .int .i64 0, .int .i64 1, .int .i64 (-1), .int .i64 (-1), .int .i64 (-1), .int .i64 (-1), .int .i64 (-1), .int .i64 (-1), .int .i64 (-1), .int .i64 (-1), .int .i64 (-1), .int .i64 (-1), .int .i64 (-1), .int .i64 (-1), .int .i64 (-1), .int .i64 (-1), .int .i64 (-1), .int .i64 (-1), .int .i64 (-1), .int .i64 (-1), .int .i64 (-1), .int .i64 (-1), .int .i64 (-1), .int .i64 (-1), .int .i64 (-1), .int .i64 (-1), .int .i64 (-1), .int .i64 (-1), .int .i64 (-1), .int .i64 (-1), .int .i64 (-1), .int .i64 (-1)]),
  (1161, 0, [.int .u8 0, .int .u8 0, .int .u8 0, .int .u8 0, .int .u8 0, .int .u8 0, .int .u8 0, .int .u8 0, .int .u8 0, .int .u8 0, .int .u8 0, .int .u8 0, .int .u8 0, .int .u8 0, .int .u8 0, .int .u8 0]),
  (1166, 5, [.int .u8 1, .int .u8 0, .int .i64 0, .int .i64 0, .int .i64 0, .int .i64 0, .int .i64 0, .int .i64 0, .int .u64 0, .nils, .int .i64 1, .int .i64 0, .int .u8 10, .int .u8 0, .int .i64 0, .int .i64 0, .int .i64 0, .int .i64 0, .int .i64 0, .int .i64 0, .int .u64 0, .nils, .int .i64 2, .int .i64 0, .int .u8 2, .int .u8 0, .int .i64 1, .int .i64 (-1), .int .i64 0, .int .i64 0, .int .i64 0, .int .i64 0, .int .u64 0, .nils, .int .i64 3, .int .i64 0, .int .u8 7, .int .u8 0, .int .i64 0, .int .i64 (-1), .int .i64 1, .int .i64 0, .int .i64 0, .int .i64 0, .int .u64 0, .nils, .int .i64 4, .int .i64 0, .int .u8 17, .int .u8 0, .int .i64 (-1), .int .i64 (-1), .int .i64 0, .int .i64 0, .int .i64 0, .int .i64 0, .int .u64 0, .nils, .int .i64 5, .int .i64 0, .int .u8 12, .int .u8 0, .int .i64 (-1), .int .i64 (-1), .int .i64 (-1), .int .i64 0, .int .i64 0, .int .i64 0, .int .u64 0, .nils, .int .i64 0, .int .i64 0]),
  (1237, 0, [.nils, .ref 1161 0 0 16 none, .int .i64 0, .nils, .bool false, .int .i64 (-1), .ref 1166 5 0 6 (some 12), .int .i64 0]),
  (1239, 0, [.ref 836 0 0 33 none]),
  (1241, 0, [.ref 438 0 0 4 none]),
  (1242, 0, [.int .i64 (-1), .int .i64 (-1), .int .i64 (-1), .int .i64 (-1)]),
  (1243, 0, [.ref 334 1 0 2 (some 8), .ptr 334 1 8, .nils, .nils, .nils, .int .i64 0, .nils, .bool false, .int .i64 0, .nils, .int .i64 0, .ref 1242 0 0 4 none, .nils, .nils])],
  [],
  .tup [.ref 1624 0 0 32 none, .int .i64 0], 1632,
  [(4, 0, [.int .u8 2, .int .i64 0, .int .u64 0, .int .u8 5, .int .i64 0, .int .u64 0, .int .u8 29, .int .i64 0, .int .u64 0, .int .u8 24, .int .i64 0, .int .u64 0]),
  (6, 0, [.int .u8 1]),
  (9, 3, [.int .u8 27, .int .i64 0, .int .u64 0, .int .u8 29, .int .i64 0, .int .u64 0, .int .u8 29, .int .i64 0, .int .u64 0, .int .u8 24, .int .i64 0, .int .u64 0]),
  (13, 0, [.int .i64 0, .ref 6 0 0 1 none, .bool false, .int .i64 (-1), .ref 4 0 0 4 (some 3), .int .i64 0, .nils, .bool false, .int .i64 (-1), .ref 9 3 0 4 (some 3)]),
  (15, 0, [.ref 13 0 0 2 (some 5)]),
  (16, 0, [.nils, .int .i64 0]),
  (17, 0, [.int .i64 2, .int .u64 18446744073709551614]),
  (19, 0, [.nils, .nils, .nils]),
  (60, 0, [.nils, .nils, .nils]),
  (282, 16, [.int .u8 1, .int .u8 0, .int .u8 1, .int .u8 0, .int .u8 1, .int .u8 0, .int .u8 1, .int .u8 0, .int .u8 1, .int .u8 0, .int .u8 1, .int .u8 0, .int .u8 1, .int .u8 0, .int .u8 1, .int .u8 0, .int .u8 1, .int .u8 0, .int .u8 1, .int .u8 0, .int .u8 1, .int .u8 0, .int .u8 1, .int .u8 0, .int .u8 1, .int .u8 0, .int .u8 1, .int .u8 0, .int .u8 1, .int .u8 0, .int .u8 1, .int .u8 0, .int .u8 1]),
  (308, 3, [.int .u8 2, .int .u8 0, .int .i64 2, .int .i64 0, .int .i64 0, .int .i64 0, .int .i64 0, .int .i64 0, .int .u64 0, .nils, .int .i64 1, .int .i64 0, .int .u8 7, .int .u8 0, .int .i64 1, .int .i64 0, .int .i64 2, .int .i64 0, .int .i64 0, .int .i64 0, .int .u64 0, .nils, .int .i64 2, .int .i64 0, .int .u8 17, .int .u8 0, .int .i64 0, .int .i64 0, .int .i64 1, .int .i64 0, .int .i64 0, .int .i64 0, .int .u64 0, .nils, .int .i64 3, .int .i64 0, .int .u8 12, .int .u8 0, .int .i64 0, .int .i64 0, .int .i64 (-1), .int .i64 0, .int .i64 0, .int .i64 0, .int .u64 0, .nils, .int .i64 3, .int .i64 0]),
  (334, 1, [.nils, .ref 282 16 0 33 none, .int .i64 0, .nils, .bool false, .int .i64 (-1), .ref 308 3 0 4 (some 12), .int .i64 0, .nils, .ref 339 15 0 32 none, .int .i64 0, .nils, .bool false, .int .i64 (-1), .ref 363 3 0 4 (some 12), .int .i64 0]),
  (339, 15, [.int .u8 0, .int .u8 1, .int .u8 0, .int .u8 1, .int .u8 0, .int .u8 1, .int .u8 0, .int .u8 1, .int .u8 0, .int .u8 1, .int .u8 0, .int .u8 1, .int .u8 0, .int .u8 1, .int .u8 0, .int .u8 1, .int .u8 0, .int .u8 1, .int .u8 0, .int .u8 1, .int .u8 0, .int .u8 1, .int .u8 0, .int .u8 1, .int .u8 0, .int .u8 1, .int .u8 0, .int .u8 1, .int .u8 0, .int .u8 1, .int .u8 0, .int .u8 1]),
  (363, 3, [.int .u8 15, .int .u8 0, .int .i64 0, .int .i64 2, .int .i64 0, .int .i64 0, .int .i64 0, .int .i64 0, .int .u64 0, .nils, .int .i64 1, .int .i64 0, .int .u8 17, .int .u8 0, .int .i64 0, .int .i64 0, .int .i64 2, .int .i64 0, .int .i64 0, .int .i64 0, .int .u64 0, .nils, .int .i64 2, .int .i64 0, .int .u8 17, .int .u8 0, .int .i64 0, .int .i64 0, .int .i64 0, .int .i64 0, .int .i64 0, .int .i64 0, .int .u64 0, .nils, .int .i64 3, .int .i64 0, .int .u8 12, .int .u8 0, .int .i64 0, .int .i64 0, .int .i64 (-1), .int .i64 0, .int .i64 0, .int .i64 0, .int .u64 0, .nils, .int .i64 3, .int .i64 0]),
  (389, 0, [.ref 334 1 0 2 (some 8)]),
  (390, 0, [.ref 334 1 0 2 (some 8)]),
  (391, 0, [.nils]),
  (392, 0, [.nils, .nils]),
  (436, 0, [.ref 1237 0 0 1 (some 8)]),
  (437, 0, [.ref 1239 0 0 1 none, .ref 1241 0 0 1 none]),
  (438, 0, [.int .i64 2, .int .i64 3, .int .i64 4, .int .i64 5]),
  (836, 0, [.int .i64 0, .int .i64 0, .int .i64 1, .int .i64 (-1), .int .i64 (-1), .int .i64 (-1), .int .i64 (-1), .int .i64 (-1), .int .i64 (-1), .int .i64 (-1), .int .i64 (-1), .int .i64 (-1), .int .i64 (-1), .int .i64 (-1), .int .i64 (-1), .int .i64 (-1), .int .i64 (-1), .int .i64 (-1), .int .i64 (-1), .int .i64 (-1), .int .i64 (-1), .int .i64 (-1), .int .i64 (-1), .int .i64 (-1), .int .i64 (-1), .int .i64 (-1), .int .i64 (-1), .int .i64 (-1), .int .i64 (-1), .int .i64 (-1), .int .i64 (-1), .int .i64 (-1), .int .i64 (-1)]),
  (1161, 0, [.int .u8 0, .int .u8 0, .int .u8 0, .int .u8 0, .int .u8 0, .int .u8 0, .int .u8 0, .int .u8 0, .int .u8 0, .int .u8 0, .int .u8 0, .int .u8 0, .int .u8 0, .int .u8 0, .int .u8 0, .int .u8 0]),
  (1166, 5, [.int .u8 1, .int .u8 0, .int .i64 0, .int .i64 0, .int .i64 0, .int .i64 0, .int .i64 0, .int .i64 0, .int .u64 0, .nils, .int .i64 1, .int .i64 0, .int .u8 10, .int .u8 0, .int .i64 0, .int .i64 0, .int .i64 0, .int .i64 0, .int .i64 0, .int .i64 0, .int .u64 0, .nils, .int .i64 2, .int .i64 0, .int .u8 2, .int .u8 0, .int .i64 1, .int .i64 (-1), .int .i64 0, .int .i64 0, .int .i64 0, .int .i64 0, .int .u64 0, .nils, .int .i64 3, .int .i64 0, .int .u8 7, .int .u8 0, .int .i64 0, .int .i64 (-1), .int .i64 1, .int .i64 0, .int .i64 0, .int .i64 0, .int .u64 0, .nils, .int .i64 4, .int .i64 0, .int .u8 17, .int .u8 0, .int .i64 (-1), .int .i64 (-1), .int .i64 0, .int .i64 0, .int .i64 0, .int .i64 0, .int .u64 0, .nils, .int .i64 5, .int .i64 0, .int .u8 12, .int .u8 0, .int .i64 (-1), .int .i64 (-1), .int .i64 (-1), .int .i64 0, .int .i64 0, .int .i64 0, .int .u64 0, .nils, .int .i64 0, .int .i64 0]),
  (1237, 0, [.nils, .ref 1161 0 0 16 none, .int .i64 0, .nils, .bool false, .int .i64 (-1), .ref 1166 5 0 6 (some 12), .int .i64 0]),
  (1239, 0, [.ref 836 0 0 33 none]),
  (1241, 0, [.ref 438 0 0 4 none]),
  (1242, 0, [.int .i64 (-1), .int .i64 (-1), .int .i64 (-1), .int .i64 (-1)]),
  (1243, 0, [.ref 334 1 0 2 (some 8), .ptr 334 1 8, .nils, .nils, .nils, .int .i64 0, .nils, .bool false, .int .i64 0, .nils, .int .i64 0, .ref 1242 0 0 4 none, .nils, .nils]),
  (1624, 0, [.int .i64 0, .int .i64 (-1), .int .i64 1, .int .i64 (-1), .int .i64 (-1), .int .i64 (-1), .int .i64 (-1), .int .i64 (-1), .int .i64 (-1), .int .i64 (-1), .int .i64 (-1), .int .i64 (-1), .int .i64 (-1), .int .i64 (-1), .int .i64 (-1), .int .i64 (-1), .int .i64 (-1), .int .i64 (-1), .int .i64 (-1), .int .i64 (-1), .int .i64 (-1), .int .i64 (-1), .int .i64 (-1), .int .i64 (-1), .int .i64 (-1), .int .i64 (-1), .int .i64 (-1), .int .i64 (-1), .int .i64 (-1), .int .i64 (-1), .int .i64 (-1), .int .i64 (-1)])],
  [] ⟩
theorem na1_e : chkM fs0 (runR Tryz.prog pvZ (codeT tabL) (ovA ovL []) 200) na1 = true := by kernel_rfl
theorem na1_ok : MemoOK Tryz.prog fs0 na1 := chkM_ok (run_ok (ms := []) trivial) na1_e
end Go.Proofs.YtklmiejnopdabaaGreatDoor
/- One case: known calls, evaluated by the kernel. Printed by a program. -/
namespace Go.Proofs.YtklmiejnopdabaaGreatDoor
set_option linter.constructorNameAsVariable false
set_option linter.unusedSimpArgs false
set_option linter.unusedVariables false
open Go Go.Ab Go.RowKit
set_option maxRecDepth 100000
set_option linter.unusedVariables false
def na2 : Memo := ⟨ 39, [.agg [.ref 334 1 0 2 (some 8)]], 390,
  [(4, 0, [.int .u8 2, .int .i64 0, .int .u64 0, .int .u8 5, .int .i64 0, .int .u64 0, .int .u8 29, .int .i64 0, .int .u64 0, .int .u8 24, .int .i64 0, .int .u64 0]),
  (6, 0, [.int .u8 1]),
  (9, 3, [.int .u8 27, .int .i64 0, .int .u64 0, .int .u8 29, .int .i64 0, .int .u64 0, .int .u8 29, .int .i64 0, .int .u64 0, .int .u8 24, .int .i64 0, .int .u64 0]),
  (13, 0, [.int .i64 0, .ref 6 0 0 1 none, .bool false, .int .i64 (-1), .ref 4 0 0 4 (some 3), .int .i64 0, .nils, .bool false, .int .i64 (-1), .ref 9 3 0 4 (some 3)]),
  (15, 0, [.ref 13 0 0 2 (some 5)]),
  (16, 0, [.nils, .int .i64 0]),
  (17, 0, [.int .i64 2, .int .u64 18446744073709551614]),
  (19, 0, [.nils, .nils, .nils]),
  (60, 0, [.nils, .nils, .nils]),
  (282, 16, [.int .u8 1, .int .u8 0, .int .u8 1, .int .u8 0, .int .u8 1, .int .u8 0, .int .u8 1, .int .u8 0, .int .u8 1, .int .u8 0, .int .u8 1, .int .u8 0, .int .u8 1, .int .u8 0, .int .u8 1, .int .u8 0, .int .u8 1, .int .u8 0, .int .u8 1, .int .u8 0, .int .u8 1, .int .u8 0, .int .u8 1, .int .u8 0, .int .u8 1, .int .u8 0, .int .u8 1, .int .u8 0, .int .u8 1, .int .u8 0, .int .u8 1, .int .u8 0, .int .u8 1]),
  (308, 3, [.int .u8 2, .int .u8 0, .int .i64 2, .int .i64 0, .int .i64 0, .int .i64 0, .int .i64 0, .int .i64 0, .int .u64 0, .nils, .int .i64 1, .int .i64 0, .int .u8 7, .int .u8 0, .int .i64 1, .int .i64 0, .int .i64 2, .int .i64 0, .int .i64 0, .int .i64 0, .int .u64 0, .nils, .int .i64 2, .int .i64 0, .int .u8 17, .int .u8 0, .int .i64 0, .int .i64 0, .int .i64 1, .int .i64 0, .int .i64 0, .int .i64 0, .int .u64 0, .nils, .int .i64 3, .int .i64 0, .int .u8 12, .int .u8 0, .int .i64 0, .int .i64 0, .int .i64 (-1), .int .i64 0, .int .i64 0, .int .i64 0, .int .u64 0, .nils, .int .i64 3, .int .i64 0]),
  (334, 1, [.nils, .ref 282 16 0 33 none, .int .i64 0, .nils, .bool false, .int .i64 (-1), .ref 308 3 0 4 (some 12), .int .i64 0, .nils, .ref 339 15 0 32 none, .int .i64 0, .nils, .bool false, .int .i64 (-1), .ref 363 3 0 4 (some 12), .int .i64 0]),
  (339, 15, [.int .u8 0, .int .u8 1, .int .u8 0, .int .u8 1, .int .u8 0, .int .u8 1, .int .u8 0, .int .u8 1, .int .u8 0, .int .u8 1, .int .u8 0, .int .u8 1, .int .u8 0, .int .u8 1, .int .u8 0, .int .u8 1, .int .u8 0, .int .u8 1, .int .u8 0, .int .u8 1, .int .u8 0, .int .u8 1, .int .u8 0, .int .u8 1, .int .u8 0, .int .u8 1, .int .u8 0, .int .u8 1, .int .u8 0, .int .u8 1, .int .u8 0, .int .u8 1]),
  (363, 3, [.int .u8 15, .int .u8 0, .int .i64 0, .int .i64 2, .int .i64 0, .int .i64 0, .int .i64 0, .int .i64 0, .int .u64 0, .nils, .int .i64 1, .int .i64 0, .int .u8 17, .int .u8 0, .int .i64 0, .int .i64 0, .int .i64 2, .int .i64 0, .int .i64 0, .int .i64 0, .int .u64 0, .nils, .int .i64 2, .int .i64 0, .int .u8 17, .int .u8 0, .int .i64 0, .int .i64 0, .int .i64 0, .int .i64 0, .int .i64 0, .int .i64 0, .int .u64 0, .nils, .int .i64 3, .int .i64 0, .int .u8 12, .int .u8 0, .int .i64 0, .int .i64 0, .int .i64 (-1), .int .i64 0, .int .i64 0, .int .i64 0, .int .u64 0, .nils, .int .i64 3, .int .i64 0]),
  (389, 0, [.ref 334 1 0 2 (some 8)])],
  [],
  .tup [.agg [.ref 1237 1 0 2 (some 8)], .agg [.ref 1239 1 0 2 none, .ref 1241 1 0 2 none], .int .i64 0], 2056,
  [(4, 0, [.int .u8 2, .int .i64 0, .int .u64 0, .int .u8 5, .int .i64 0, .int .u64 0, .int .u8 29, .int .i64 0, .int .u64 0, .int .u8 24, .int .i64 0, .int .u64 0]),
  (6, 0, [.int .u8 1]),
  (9, 3, [.int .u8 27, .int .i64 0, .int .u64 0, .int .u8 29, .int .i64 0, .int .u64 0, .int .u8 29, .int .i64 0, .int .u64 0, .int .u8 24, .int .i64 0, .int .u64 0]),
  (13, 0, [.int .i64 0, .ref 6 0 0 1 none, .bool false, .int .i64 (-1), .ref 4 0 0 4 (some 3), .int .i64 0, .nils, .bool false, .int .i64 (-1), .ref 9 3 0 4 (some 3)]),
  (15, 0, [.ref 13 0 0 2 (some 5)]),
  (16, 0, [.nils, .int .i64 0]),
  (17, 0, [.int .i64 2, .int .u64 18446744073709551614]),
  (19, 0, [.nils, .nils, .nils]),
  (60, 0, [.nils, .nils, .nils]),
  (282, 16, [.int .u8 1, .int .u8 0, .int .u8 1, .int .u8 0, .int .u8 1, .int .u8 0, .int .u8 1, .int .u8 0, .int .u8 1, .int .u8 0, .int .u8 1, .int .u8 0, .int .u8 1, .int .u8 0, .int .u8 1, .int .u8 0, .int .u8 1, .int .u8 0, .int .u8 1, .int .u8 0, .int .u8 1, .int .u8 0, .int .u8 1, .int .u8 0, .int .u8 1, .int .u8 0, .int .u8 1, .int .u8 0, .int .u8 1, .int .u8 0, .int .u8 1, .int .u8 0, .int .u8 1]),
  (308, 3, [.int .u8 2, .int .u8 0, .int .i64 2, .int .i64 0, .int .i64 0, .int .i64 0, .int .i64 0, .int .i64 0, .int .u64 0, .nils, .int .i64 1, .int .i64 0, .int .u8 7, .int .u8 0, .int .i64 1, .int .i64 0, .int .i64 2, .int .i64 0, .int .i64 0, .int .i64 0, .int .u64 0, .nils, .int .i64 2, .int .i64 0, .int .u8 17, .int .u8 0, .int .i64 0, .int .i64 0, .int .i64 1, .int .i64 0, .int .i64 0, .int .i64 0, .int .u64 0, .nils, .int .i64 3, .int .i64 0, .int .u8 12, .int .u8 0, .int .i64 0, .int .i64 0, .int .i64 (-1), .int .i64 0, .int .i64 0, .int .i64 0, .int .u64 0, .nils, .int .i64 3, .int .i64 0]),
  (334, 1, [.nils, .ref 282 16 0 33 none, .int .i64 0, .nils, .bool false, .int .i64 (-1), .ref 308 3 0 4 (some 12), .int .i64 0, .nils, .ref 339 15 0 32 none, .int .i64 0, .nils, .bool false, .int .i64 (-1), .ref 363 3 0 4 (some 12), .int .i64 0]),
  (339, 15, [.int .u8 0, .int .u8 1, .int .u8 0, .int .u8 1, .int .u8 0, .int .u8 1, .int .u8 0, .int .u8 1, .int .u8 0, .int .u8 1, .int .u8 0, .int .u8 1, .int .u8 0, .int .u8 1, .int .u8 0, .int .u8 1, .int .u8 0, .int .u8 1, .int .u8 0, .int .u8 1, .int .u8 0, .int .u8 1, .int .u8 0, .int .u8 1, .int .u8 0, .int .u8 1, .int .u8 0, .int .u8 1, .int .u8 0, .int .u8 1, .int .u8 0, .int .u8 1]),
  (363, 3, [.int .u8 15, .int .u8 0, .int .i64 0, .int .i64 2, .int .i64 0, .int .i64 0, .int .i64 0, .int .i64 0, .int .u64 0, .nils, .int .i64 1, .int .i64 0, .int .u8 17, .int .u8 0, .int .i64 0, .int .i64 0, .int .i64 2, .int .i64 0, .int .i64 0, .int .i64 0, .int .u64 0, .nils, .int .i64 2, .int .i64 0, .int .u8 17, .int .u8 0, .int .i64 0, .int .i64 0, .int .i64 0, .int .i64 0, .int .i64 0, .int .i64 0, .int .u64 0, .nils, .int .i64 3, .int .i64 0, .int .u8 12, .int .u8 0, .int .i64 0, .int .i64 0, .int .i64 (-1), .int .i64 0, .int .i64 0, .int .i64 0, .int .u64 0, .nils, .int .i64 3, .int .i64 0]),
  (389, 0, [.ref 334 1 0 2 (some 8)]),
  (438, 0, [.int .i64 2, .int .i64 3, .int .i64 4, .int .i64 5]),
  (836, 0, [.int .i64 0, .int .i64 0, .int .i64 1, .int .i64 (-1), .int .i64 (-1), .int .i64 (-1), .int .i64 (-1), .int .i64 (-1), .int .i64 (-1), .int .i64 (-1), .int .i64 (-1), .int .i64 (-1), .int .i64 (-1), .int .i64 (-1), .int .i64 (-1), .int .i64 (-1), .int .i64 (-1), .int .i64 (-1), .int .i64 (-1), .int .i64 (-1), .int .i64 (-1), .int .i64 (-1), .int .i64 (-1), .int .i64 (-1), .int .i64 (-1), .int .i64 (-1), .int .i64 (-1), .int .i64 (-1), .int .i64 (-1), .int .i64 (-1), .int .i64 (-1), .int .i64 (-1), .int .i64 (-1)]),
  (1161, 0, [.int .u8 0, .int .u8 0, .int .u8 0, .int .u8 0, .int .u8 0, .int .u8 0, .int .u8 0, .int .u8 0, .int .u8 0, .int .u8 0, .int .u8 0, .int .u8 0, .int .u8 0, .int .u8 0, .int .u8 0, .int .u8 0]),
  (1166, 5, [.int .u8 1, .int .u8 0, .int .i64 0, .int .i64 0, .int .i64 0, .int .i64 0, .int .i64 0, .int .i64 0, .int .u64 0, .nils, .int .i64 1, .int .i64 0, .int .u8 10, .int .u8 0, .int .i64 0, .int .i64 0, .int .i64 0, .int .i64 0, .int .i64 0, .int .i64 0, .int .u64 0, .nils, .int .i64 2, .int .i64 0, .int .u8 2, .int .u8 0, .int .i64 1, .int .i64 (-1), .int .i64 0, .int .i64 0, .int .i64 0, .int .i64 0, .int .u64 0, .nils, .int .i64 3, .int .i64 0, .int .u8 7, .int .u8 0, .int .i64 0, .int .i64 (-1), .int .i64 1, .int .i64 0, .int .i64 0, .int .i64 0, .int .u64 0, .nils, .int .i64 4, .int .i64 0, .int .u8 17, .int .u8 0, .int .i64 (-1), .int .i64 (-1), .int .i64 0, .int .i64 0, .int .i64 0, .int .i64 0, .int .u64 0, .nils, .int .i64 5, .int .i64 0, .int .u8 12, .int .u8 0, .int .i64 (-1), .int .i64 (-1), .int .i64 (-1), .int .i64 0, .int .i64 0, .int .i64 0, .int .u64 0, .nils, .int .i64 0, .int .i64 0]),
  (1237, 1, [.nils, .ref 1161 0 0 16 none, .int .i64 0, .nils, .bool false, .int .i64 (-1), .ref 1166 5 0 6 (some 12), .int .i64 0, .nils, .ref 1932 0 0 16 none, .int .i64 0, .nils, .bool false, .int .i64 (-1), .ref 1937 4 0 5 (some 12), .int .i64 0]),
  (1239, 1, [.ref 836 0 0 33 none, .ref 1624 0 0 32 none]),
  (1241, 1, [.ref 438 0 0 4 none, .ref 1242 0 0 4 none]),
  (1242, 0, [.int .i64 1, .int .i64 2, .int .i64 3, .int .i64 4]),
  (1624, 0, [.int .i64 0, .int .i64 (-1), .int .i64 1, .int .i64 (-1), .int .i64 (-1), .int .i64 (-1), .int .i64 (-1), .int .i64 (-1), .int .i64 (-1), .int .i64 (-1), .int .i64 (-1), .int .i64 (-1), .int .i64 (-1), .int .i64 (-1), .int .i64 (-1), .int .i64 (-1), .int .i64 (-1), .int .i64 (-1), .int .i64 (-1), .int .i64 (-1), .int .i64 (-1), .int .i64 (-1), .int .i64 (-1), .int .i64 (-1), .int .i64 (-1), .int .i64 (-1), .int .i64 (-1), .int .i64 (-1), .int .i64 (-1), .int .i64 (-1), .int .i64 (-1), .int .i64 (-1)]),
  (1932, 0, [.int .u8 0, .int .u8 0, .int .u8 0, .int .u8 0, .int .u8 0, .int .u8 0, .int .u8 0, .int .u8 0, .int .u8 0, .int .u8 0, .int .u8 0, .int .u8 0, .int .u8 0, .int .u8 0, .int .u8 0, .int .u8 0]),
  (1937, 4, [.int .u8 10, .int .u8 0, .int .i64 0, .int .i64 0, .int .i64 0, .int .i64 0, .int .i64 0, .int .i64 0, .int .u64 0, .nils, .int .i64 1, .int .i64 0, .int .u8 15, .int .u8 0, .int .i64 0, .int .i64 1, .int .i64 (-1), .int .i64 0, .int .i64 0, .int .i64 0, .int .u64 0, .nils, .int .i64 2, .int .i64 0, .int .u8 17, .int .u8 0, .int .i64 (-1), .int .i64 (-1), .int .i64 1, .int .i64 0, .int .i64 0, .int .i64 0, .int .u64 0, .nils, .int .i64 3, .int .i64 0, .int .u8 17, .int .u8 0, .int .i64 (-1), .int .i64 (-1), .int .i64 0, .int .i64 0, .int .i64 0, .int .i64 0, .int .u64 0, .nils, .int .i64 4, .int .i64 0, .int .u8 12, .int .u8 0, .int .i64 (-1), .int .i64 (-1), .int .i64 (-1), .int .i64 0, .int .i64 0, .int .i64 0, .int .u64 0, .nils, .int .i64 0, .int .i64 0])],
  [] ⟩
theorem na2_e : chkM fs0 (runR Tryz.prog pvZ (codeT tabL) (ovA ovL [na0, na1]) 200) na2 = true := by kernel_rfl
theorem na2_ok : MemoOK Tryz.prog fs0 na2 := chkM_ok (run_ok (ms := [na0, na1]) ⟨na0_ok, na1_ok, trivial⟩) na2_e
end Go.Proofs.YtklmiejnopdabaaGreatDoor
/- One case: known calls, evaluated by the kernel. Printed by a program. -/
namespace Go.Proofs.YtklmiejnopdabaaGreatDoor
set_option linter.constructorNameAsVariable false
set_option linter.unusedSimpArgs false
set_option linter.unusedVariables false
open Go Go.Ab Go.RowKit
set_option maxRecDepth 100000
set_option linter.unusedVariables false
def na3 : Memo := ⟨ 40, [.agg [.ref 334 1 0 2 (some 8)], .agg [.ref 1237 1 0 2 (some 8)], .agg [.ref 1239 1 0 2 none, .ref 1241 1 0 2 none]], 2058,
  [(4, 0, [.int .u8 2, .int .i64 0, .int .u64 0, .int .u8 5, .int .i64 0, .int .u64 0, .int .u8 29, .int .i64 0, .int .u64 0, .int .u8 24, .int .i64 0, .int .u64 0]),
  (6, 0, [.int .u8 1]),
  (9, 3, [.int .u8 27, .int .i64 0, .int .u64 0, .int .u8 29, .int .i64 0, .int .u64 0, .int .u8 29, .int .i64 0, .int .u64 0, .int .u8 24, .int .i64 0, .int .u64 0]),
  (13, 0, [.int .i64 0, .ref 6 0 0 1 none, .bool false, .int .i64 (-1), .ref 4 0 0 4 (some 3), .int .i64 0, .nils, .bool false, .int .i64 (-1), .ref 9 3 0 4 (some 3)]),
  (15, 0, [.ref 13 0 0 2 (some 5)]),
  (16, 0, [.nils, .int .i64 0]),
  (17, 0, [.int .i64 2, .int .u64 18446744073709551614]),
  (19, 0, [.nils, .nils, .nils]),
  (60, 0, [.nils, .nils, .nils]),
  (282, 16, [.int .u8 1, .int .u8 0, .int .u8 1, .int .u8 0, .int .u8 1, .int .u8 0, .int .u8 1, .int .u8 0, .int .u8 1, .int .u8 0, .int .u8 1, .int .u8 0, .int .u8 1, .int .u8 0, .int .u8 1, .int .u8 0, .int .u8 1, .int .u8 0, .int .u8 1, .int .u8 0, .int .u8 1, .int .u8 0, .int .u8 1, .int .u8 0, .int .u8 1, .int .u8 0, .int .u8 1, .int .u8 0, .int .u8 1, .int .u8 0, .int .u8 1, .int .u8 0, .int .u8 1]),
  (308, 3, [.int .u8 2, .int .u8 0, .int .i64 2, .int .i64 0, .int .i64 0, .int .i64 0, .int .i64 0, .int .i64 0, .int .u64 0, .nils, .int .i64 1, .int .i64 0, .int .u8 7, .int .u8 0, .int .i64 1, .int .i64 0, .int .i64 2, .int .i64 0, .int .i64 0, .int .i64 0, .int .u64 0, .nils, .int .i64 2, .int .i64 0, .int .u8 17, .int .u8 0, .int .i64 0, .int .i64 0, .int .i64 1, .int .i64 0, .int .i64 0, .int .i64 0, .int .u64 0, .nils, .int .i64 3, .int .i64 0, .int .u8 12, .int .u8 0, .int .i64 0, .int .i64 0, .int .i64 (-1), .int .i64 0, .int .i64 0, .int .i64 0, .int .u64 0, .nils, .int .i64 3, .int .i64 0]),
  (334, 1, [.nils, .ref 282 16 0 33 none, .int .i64 0, .nils, .bool false, .int .i64 (-1), .ref 308 3 0 4 (some 12), .int .i64 0, .nils, .ref 339 15 0 32 none, .int .i64 0, .nils, .bool false, .int .i64 (-1), .ref 363 3 0 4 (some 12), .int .i64 0]),
  (339, 15, [.int .u8 0, .int .u8 1, .int .u8 0, .int .u8 1, .int .u8 0, .int .u8 1, .int .u8 0, .int .u8 1, .int .u8 0, .int .u8 1, .int .u8 0, .int .u8 1, .int .u8 0, .int .u8 1, .int .u8 0, .int .u8 1, .int .u8 0, .int .u8 1, .int .u8 0, .int .u8 1, .int .u8 0, .int .u8 1, .int .u8 0, .int .u8 1, .int .u8 0, .int .u8 1, .int .u8 0, .int .u8 1, .int .u8 0, .int .u8 1, .int .u8 0, .int .u8 1]),
  (363, 3, [.int .u8 15, .int .u8 0, .int .i64 0, .int .i64 2, .int .i64 0, .int .i64 0, .int .i64 0, .int .i64 0, .int .u64 0, .nils, .int .i64 1, .int .i64 0, .int .u8 17, .int .u8 0, .int .i64 0, .int .i64 0, .int .i64 2, .int .i64 0, .int .i64 0, .int .i64 0, .int .u64 0, .nils, .int .i64 2, .int .i64 0, .int .u8 17, .int .u8 0, .int .i64 0, .int .i64 0, .int .i64 0, .int .i64 0, .int .i64 0, .int .i64 0, .int .u64 0, .nils, .int .i64 3, .int .i64 0, .int .u8 12, .int .u8 0, .int .i64 0, .int .i64 0, .int .i64 (-1), .int .i64 0, .int .i64 0, .int .i64 0, .int .u64 0, .nils, .int .i64 3, .int .i64 0]),
  (438, 0, [.int .i64 2, .int .i64 3, .int .i64 4, .int .i64 5]),
  (836, 0, [.int .i64 0, .int .i64 0, .int .i64 1, .int .i64 (-1), .int .i64 (-1), .int .i64 (-1), .int .i64 (-1), .int .i64 (-1), .int .i64 (-1), .int .i64 (-1), .int .i64 (-1), .int .i64 (-1), .int .i64 (-1), .int .i64 (-1), .int .i64 (-1), .int .i64 (-1), .int .i64 (-1), .int .i64 (-1), .int .i64 (-1), .int .i64 (-1), .int .i64 (-1), .int .i64 (-1), .int .i64 (-1), .int .i64 (-1), .int .i64 (-1), .int .i64 (-1), .int .i64 (-1), .int .i64 (-1), .int .i64 (-1), .int .i64 (-1), .int .i64 (-1), .int .i64 (-1), .int .i64 (-1)]),
  (1161, 0, [.int .u8 0, .int .u8 0, .int .u8 0, .int .u8 0, .int .u8 0, .int .u8 0, .int .u8 0, .int .u8 0, .int .u8 0, .int .u8 0, .int .u8 0, .int .u8 0, .int .u8 0, .int .u8 0, .int .u8 0, .int .u8 0]),
  (1166, 5, [.int .u8 1, .int .u8 0, .int .i64 0, .int .i64 0, .int .i64 0, .int .i64 0, .int .i64 0, .int .i64 0, .int .u64 0, .nils, .int .i64 1, .int .i64 0, .int .u8 10, .int .u8 0, .int .i64 0, .int .i64 0, .int .i64 0, .int .i64 0, .int .i64 0, .int .i64 0, .int .u64 0, .nils, .int .i64 2, .int .i64 0, .int .u8 2, .int .u8 0, .int .i64 1, .int .i64 (-1), .int .i64 0, .int .i64 0, .int .i64 0, .int .i64 0, .int .u64 0, .nils, .int .i64 3, .int .i64 0, .int .u8 7, .int .u8 0, .int .i64 0, .int .i64 (-1), .int .i64 1, .int .i64 0, .int .i64 0, .int .i64 0, .int .u64 0, .nils, .int .i64 4, .int .i64 0, .int .u8 17, .int .u8 0, .int .i64 (-1), .int .i64 (-1), .int .i64 0, .int .i64 0, .int .i64 0, .int .i64 0, .int .u64 0, .nils, .int .i64 5, .int .i64 0, .int .u8 12, .int .u8 0, .int .i64 (-1), .int .i64 (-1), .int .i64 (-1), .int .i64 0, .int .i64 0, .int .i64 0, .int .u64 0, .nils, .int .i64 0, .int .i64 0]),
  (1237, 1, [.nils, .ref 1161 0 0 16 none, .int .i64 0, .nils, .bool false, .int .i64 (-1), .ref 1166 5 0 6 (some 12), .int .i64 0, .nils, .ref 1932 0 0 16 none, .int .i64 0, .nils, .bool false, .int .i64 (-1), .ref 1937 4 0 5 (some 12), .int .i64 0]),
  (1239, 1, [.ref 836 0 0 33 none, .ref 1624 0 0 32 none]),
  (1241, 1, [.ref 438 0 0 4 none, .ref 1242 0 0 4 none]),
  (1242, 0, [.int .i64 1, .int .i64 2, .int .i64 3, .int .i64 4]),
  (1624, 0, [.int .i64 0, .int .i64 (-1), .int .i64 1, .int .i64 (-1), .int .i64 (-1), .int .i64 (-1), .int .i64 (-1), .int .i64 (-1), .int .i64 (-1), .int .i64 (-1), .int .i64 (-1), .int .i64 (-1), .int .i64 (-1), .int .i64 (-1), .int .i64 (-1), .int .i64 (-1), .int .i64 (-1), .int .i64 (-1), .int .i64 (-1), .int .i64 (-1), .int .i64 (-1), .int .i64 (-1), .int .i64 (-1), .int .i64 (-1), .int .i64 (-1), .int .i64 (-1), .int .i64 (-1), .int .i64 (-1), .int .i64 (-1), .int .i64 (-1), .int .i64 (-1), .int .i64 (-1)]),
  (1932, 0, [.int .u8 0, .int .u8 0, .int .u8 0, .int .u8 0, .int .u8 0, .int .u8 0, .int .u8 0, .int .u8 0, .int .u8 0, .int .u8 0, .int .u8 0, .int .u8 0, .int .u8 0, .int .u8 0, .int .u8 0, .int .u8 0]),
  (1937, 4, [.int .u8 10, .int .u8 0, .int .i64 0, .int .i64 0, .int .i64 0, .int .i64 0, .int .i64 0, .int .i64 0, .int .u64 0, .nils, .int .i64 1, .int .i64 0, .int .u8 15, .int .u8 0, .int .i64 0, .int .i64 1, .int .i64 (-1), .int .i64 0, .int .i64 0, .int .i64 0, .int .u64 0, .nils, .int .i64 2, .int .i64 0, .int .u8 17, .int .u8 0, .int .i64 (-1), .int .i64 (-1), .int .i64 1, .int .i64 0, .int .i64 0, .int .i64 0, .int .u64 0, .nils, .int .i64 3, .int .i64 0, .int .u8 17, .int .u8 0, .int .i64 (-1), .int .i64 (-1), .int .i64 0, .int .i64 0, .int .i64 0, .int .i64 0, .int .u64 0, .nils, .int .i64 4, .int .i64 0, .int .u8 12, .int .u8 0, .int .i64 (-1), .int .i64 (-1), .int .i64 (-1), .int .i64 0, .int .i64 0, .int .i64 0, .int .u64 0, .nils, .int .i64 0, .int .i64 0]),
  (2056, 0, [.ref 1237 1 0 2 (some 8)])],
  [],
  .int .i64 0, 3160,
  [(4, 0, [.int .u8 2, .int .i64 0, .int .u64 0, .int .u8 5, .int .i64 0, .int .u64 0, .int .u8 29, .int .i64 0, .int .u64 0, .int .u8 24, .int .i64 0, .int .u64 0]),
  (6, 0, [.int .u8 1]),
  (9, 3, [.int .u8 27, .int .i64 0, .int .u64 0, .int .u8 29, .int .i64 0, .int .u64 0, .int .u8 29, .int .i64 0, .int .u64 0, .int .u8 24, .int .i64 0, .int .u64 0]),
  (13, 0, [.int .i64 0, .ref 6 0 0 1 none, .bool false, .int .i64 (-1), .ref 4 0 0 4 (some 3), .int .i64 0, .nils, .bool false, .int .i64 (-1), .ref 9 3 0 4 (some 3)]),
  (15, 0, [.ref 13 0 0 2 (some 5)]),
  (16, 0, [.nils, .int .i64 0]),
  (17, 0, [.int .i64 2, .int .u64 18446744073709551614]),
  (19, 0, [.nils, .nils, .nils]),
  (60, 0, [.nils, .nils, .nils]),
  (1161, 0, [.int .u8 0, .int .u8 0, .int .u8 0, .int .u8 0, .int .u8 0, .int .u8 0, .int .u8 0, .int .u8 0, .int .u8 0, .int .u8 0, .int .u8 0, .int .u8 0, .int .u8 0, .int .u8 0, .int .u8 0, .int .u8 0]),
  (1166, 5, [.int .u8 1, .int .u8 0, .int .i64 0, .int .i64 0, .int .i64 0, .int .i64 0, .int .i64 0, .int .i64 0, .int .u64 0, .nils, .int .i64 1, .int .i64 0, .int .u8 10, .int .u8 0, .int .i64 0, .int .i64 0, .int .i64 0, .int .i64 0, .int .i64 0, .int .i64 0, .int .u64 0, .nils, .int .i64 2, .int .i64 0, .int .u8 2, .int .u8 0, .int .i64 1, .int .i64 (-1), .int .i64 0, .int .i64 0, .int .i64 0, .int .i64 0, .int .u64 0, .nils, .int .i64 3, .int .i64 0, .int .u8 7, .int .u8 0, .int .i64 0, .int .i64 (-1), .int .i64 1, .int .i64 0, .int .i64 0, .int .i64 0, .int .u64 0, .nils, .int .i64 4, .int .i64 0, .int .u8 17, .int .u8 0, .int .i64 (-1), .int .i64 (-1), .int .i64 0, .int .i64 0, .int .i64 0, .int .i64 0, .int .u64 0, .nils, .int .i64 5, .int .i64 0, .int .u8 12, .int .u8 0, .int .i64 (-1), .int .i64 (-1), .int .i64 (-1), .int .i64 0, .int .i64 0, .int .i64 0, .int .u64 0, .nils, .int .i64 0, .int .i64 0]),
  (1237, 1, [.nils, .ref 1161 0 0 16 none, .int .i64 0, .nils, .bool false, .int .i64 (-1), .ref 1166 5 0 6 (some 12), .int .i64 0, .nils, .ref 1932 0 0 16 none, .int .i64 0, .nils, .bool false, .int .i64 (-1), .ref 1937 4 0 5 (some 12), .int .i64 0]),
  (1932, 0, [.int .u8 0, .int .u8 0, .int .u8 0, .int .u8 0, .int .u8 0, .int .u8 0, .int .u8 0, .int .u8 0, .int .u8 0, .int .u8 0, .int .u8 0, .int .u8 0, .int .u8 0, .int .u8 0, .int .u8 0, .int .u8 0]),
  (1937, 4, [.int .u8 10, .int .u8 0, .int .i64 0, .int .i64 0, .int .i64 0, .int .i64 0, .int .i64 0, .int .i64 0, .int .u64 0, .nils, .int .i64 1, .int .i64 0, .int .u8 15, .int .u8 0, .int .i64 0, .int .i64 1, .int .i64 (-1), .int .i64 0, .int .i64 0, .int .i64 0, .int .u64 0, .nils, .int .i64 2, .int .i64 0, .int .u8 17, .int .u8 0, .int .i64 (-1), .int .i64 (-1), .int .i64 1, .int .i64 0, .int .i64 0, .int .i64 0, .int .u64 0, .nils, .int .i64 3, .int .i64 0, .int .u8 17, .int .u8 0, .int .i64 (-1), .int .i64 (-1), .int .i64 0, .int .i64 0, .int .i64 0, .int .i64 0, .int .u64 0, .nils, .int .i64 4, .int .i64 0, .int .u8 12, .int .u8 0, .int .i64 (-1), .int .i64 (-1), .int .i64 (-1), .int .i64 0, .int .i64 0, .int .i64 0, .int .u64 0, .nils, .int .i64 0, .int .i64 0]),
  (2056, 0, [.ref 1237 1 0 2 (some 8)])],
  [] ⟩
theorem na3_e : chkM fs0 (runR Tryz.prog pvZ (codeT tabL) (ovA ovL []) 200) na3 = true := by kernel_rfl
theorem na3_ok : MemoOK Tryz.prog fs0 na3 := chkM_ok (run_ok (ms := []) trivial) na3_e
end Go.Proofs.YtklmiejnopdabaaGreatDoor
/- One case: known calls, evaluated by the kernel. Printed by a program. -/
namespace Go.Proofs.YtklmiejnopdabaaGreatDoor
set_option linter.constructorNameAsVariable false
set_option linter.unusedSimpArgs false
set_option linter.unusedVariables false
open Go Go.Ab Go.RowKit
set_option maxRecDepth 100000
set_option linter.unusedVariables false
def na4 : Memo := ⟨ 41, [.agg [.ref 1237 1 0 2 (some 8)]], 3160,
  [(4, 0, [.int .u8 2, .int .i64 0, .int .u64 0, .int .u8 5, .int .i64 0, .int .u64 0, .int .u8 29, .int .i64 0, .int .u64 0, .int .u8 24, .int .i64 0, .int .u64 0]),
  (6, 0, [.int .u8 1]),
  (9, 3, [.int .u8 27, .int .i64 0, .int .u64 0, .int .u8 29, .int .i64 0, .int .u64 0, .int .u8 29, .int .i64 0, .int .u64 0, .int .u8 24, .int .i64 0, .int .u64 0]),
  (13, 0, [.int .i64 0, .ref 6 0 0 1 none, .bool false, .int .i64 (-1), .ref 4 0 0 4 (some 3), .int .i64 0, .nils, .bool false, .int .i64 (-1), .ref 9 3 0 4 (some 3)]),
  (15, 0, [.ref 13 0 0 2 (some 5)]),
  (16, 0, [.nils, .int .i64 0]),
  (17, 0, [.int .i64 2, .int .u64 18446744073709551614]),
  (19, 0, [.nils, .nils, .nils]),
  (60, 0, [.nils, .nils, .nils]),
  (1161, 0, [.int .u8 0, .int .u8 0, .int .u8 0, .int .u8 0, .int .u8 0, .int .u8 0, .int .u8 0, .int .u8 0, .int .u8 0, .int .u8 0, .int .u8 0, .int .u8 0, .int .u8 0, .int .u8 0, .int .u8 0, .int .u8 0]),
  (1166, 5, [.int .u8 1, .int .u8 0, .int .i64 0, .int .i64 0, .int .i64 0, .int .i64 0, .int .i64 0, .int .i64 0, .int .u64 0, .nils, .int .i64 1, .int .i64 0, .int .u8 10, .int .u8 0, .int .i64 0, .int .i64 0, .int .i64 0, .int .i64 0, .int .i64 0, .int .i64 0, .int .u64 0, .nils, .int .i64 2, .int .i64 0, .int .u8 2, .int .u8 0, .int .i64 1, .int .i64 (-1), .int .i64 0, .int .i64 0, .int .i64 0, .int .i64 0, .int .u64 0, .nils, .int .i64 3, .int .i64 0, .int .u8 7, .int .u8 0, .int .i64 0, .int .i64 (-1), .int .i64 1, .int .i64 0, .int .i64 0, .int .i64 0, .int .u64 0, .nils, .int .i64 4, .int .i64 0, .int .u8 17, .int .u8 0, .int .i64 (-1), .int .i64 (-1), .int .i64 0, .int .i64 0, .int .i64 0, .int .i64 0, .int .u64 0, .nils, .int .i64 5, .int .i64 0, .int .u8 12, .int .u8 0, .int .i64 (-1), .int .i64 (-1), .int .i64 (-1), .int .i64 0, .int .i64 0, .int .i64 0, .int .u64 0, .nils, .int .i64 0, .int .i64 0]),
  (1237, 1, [.nils, .ref 1161 0 0 16 none, .int .i64 0, .nils, .bool false, .int .i64 (-1), .ref 1166 5 0 6 (some 12), .int .i64 0, .nils, .ref 1932 0 0 16 none, .int .i64 0, .nils, .bool false, .int .i64 (-1), .ref 1937 4 0 5 (some 12), .int .i64 0]),
  (1932, 0, [.int .u8 0, .int .u8 0, .int .u8 0, .int .u8 0, .int .u8 0, .int .u8 0, .int .u8 0, .int .u8 0, .int .u8 0, .int .u8 0, .int .u8 0, .int .u8 0, .int .u8 0, .int .u8 0, .int .u8 0, .int .u8 0]),
  (1937, 4, [.int .u8 10, .int .u8 0, .int .i64 0, .int .i64 0, .int .i64 0, .int .i64 0, .int .i64 0, .int .i64 0, .int .u64 0, .nils, .int .i64 1, .int .i64 0, .int .u8 15, .int .u8 0, .int .i64 0, .int .i64 1, .int .i64 (-1), .int .i64 0, .int .i64 0, .int .i64 0, .int .u64 0, .nils, .int .i64 2, .int .i64 0, .int .u8 17, .int .u8 0, .int .i64 (-1), .int .i64 (-1), .int .i64 1, .int .i64 0, .int .i64 0, .int .i64 0, .int .u64 0, .nils, .int .i64 3, .int .i64 0, .int .u8 17, .int .u8 0, .int .i64 (-1), .int .i64 (-1), .int .i64 0, .int .i64 0, .int .i64 0, .int .i64 0, .int .u64 0, .nils, .int .i64 4, .int .i64 0, .int .u8 12, .int .u8 0, .int .i64 (-1), .int .i64 (-1), .int .i64 (-1), .int .i64 0, .int .i64 0, .int .i64 0, .int .u64 0, .nils, .int .i64 0, .int .i64 0])],
  [],
  .tup [.agg [.ref 3894 19 0 160 none, .ref 3681 1 0 2 (some 6), .nils], .int .i64 0], 3971,
  [(4, 0, [.int .u8 2, .int .i64 0, .int .u64 0, .int .u8 5, .int .i64 0, .int .u64 0, .int .u8 29, .int .i64 0, .int .u64 0, .int .u8 24, .int .i64 0, .int .u64 0]),
  (6, 0, [.int .u8 1]),
  (9, 3, [.int .u8 27, .int .i64 0, .int .u64 0, .int .u8 29, .int .i64 0, .int .u64 0, .int .u8 29, .int .i64 0, .int .u64 0, .int .u8 24, .int .i64 0, .int .u64 0]),
  (13, 0, [.int .i64 0, .ref 6 0 0 1 none, .bool false, .int .i64 (-1), .ref 4 0 0 4 (some 3), .int .i64 0, .nils, .bool false, .int .i64 (-1), .ref 9 3 0 4 (some 3)]),
  (15, 0, [.ref 13 0 0 2 (some 5)]),
  (16, 0, [.nils, .int .i64 0]),
  (17, 0, [.int .i64 2, .int .u64 18446744073709551614]),
  (19, 0, [.nils, .nils, .nils]),
  (60, 0, [.nils, .nils, .nils]),
  (3681, 1, [.int .i64 2, .int .i64 13, .int .i64 0, .nils, .nils, .int .i64 (-1), .int .i64 13, .int .i64 20, .int .i64 0, .nils, .nils, .int .i64 (-1)]),
  (3894, 19, [.int .u8 13, .int .u8 0, .int .u8 0, .int .u8 0, .int .u8 0, .int .u8 0, .int .u8 0, .int .u8 0, .int .u8 13, .int .u8 0, .int .u8 0, .int .u8 0, .int .u8 1, .int .u8 0, .int .u8 0, .int .u8 0, .int .u8 11, .int .u8 0, .int .u8 0, .int .u8 0, .int .u8 0, .int .u8 0, .int .u8 0, .int .u8 0, .int .u8 1, .int .u8 0, .int .u8 0, .int .u8 0, .int .u8 0, .int .u8 0, .int .u8 0, .int .u8 0, .int .u8 3, .int .u8 1, .int .u8 0, .int .u8 0, .int .u8 0, .int .u8 0, .int .u8 0, .int .u8 0, .int .u8 8, .int .u8 0, .int .u8 1, .int .u8 0, .int .u8 11, .int .u8 0, .int .u8 0, .int .u8 0, .int .u8 4, .int .u8 0, .int .u8 1, .int .u8 0, .int .u8 0, .int .u8 0, .int .u8 0, .int .u8 0, .int .u8 13, .int .u8 0, .int .u8 0, .int .u8 0, .int .u8 2, .int .u8 0, .int .u8 0, .int .u8 0, .int .u8 7, .int .u8 0, .int .u8 0, .int .u8 0, .int .u8 9, .int .u8 0, .int .u8 0, .int .u8 0, .int .u8 12, .int .u8 0, .int .u8 0, .int .u8 0, .int .u8 0, .int .u8 0, .int .u8 0, .int .u8 0, .int .u8 10, .int .u8 0, .int .u8 0, .int .u8 0, .int .u8 0, .int .u8 0, .int .u8 0, .int .u8 0, .int .u8 1, .int .u8 13, .int .u8 0, .int .u8 0, .int .u8 254, .int .u8 255, .int .u8 255, .int .u8 255, .int .u8 13, .int .u8 0, .int .u8 13, .int .u8 0, .int .u8 5, .int .u8 0, .int .u8 0, .int .u8 0, .int .u8 11, .int .u8 0, .int .u8 0, .int .u8 0, .int .u8 0, .int .u8 0, .int .u8 0, .int .u8 0, .int .u8 13, .int .u8 0, .int .u8 0, .int .u8 1, .int .u8 6, .int .u8 0, .int .u8 0, .int .u8 0, .int .u8 13, .int .u8 0, .int .u8 1, .int .u8 0, .int .u8 2, .int .u8 0, .int .u8 0, .int .u8 0, .int .u8 13, .int .u8 0, .int .u8 0, .int .u8 0, .int .u8 2, .int .u8 0, .int .u8 0, .int .u8 0, .int .u8 7, .int .u8 0, .int .u8 0, .int .u8 0, .int .u8 18, .int .u8 0, .int .u8 0, .int .u8 0, .int .u8 12, .int .u8 0, .int .u8 0, .int .u8 0, .int .u8 0, .int .u8 0, .int .u8 0, .int .u8 0, .int .u8 10, .int .u8 0, .int .u8 0, .int .u8 0, .int .u8 0, .int .u8 0, .int .u8 0, .int .u8 0])],
  [] ⟩
theorem na4_e : chkM fs0 (runR Tryz.prog pvZ (codeT tabL) (ovA ovL []) 200) na4 = true := by kernel_rfl
theorem na4_ok : MemoOK Tryz.prog fs0 na4 := chkM_ok (run_ok (ms := []) trivial) na4_e
end Go.Proofs.YtklmiejnopdabaaGreatDoor
