/- One case: known calls, evaluated by the kernel. Printed by a program. -/
import Derived.Test.YtklmiejnopdabaaGreatDoorWhH
namespace Go.Proofs.YtklmiejnopdabaaGreatDoor
set_option linter.constructorNameAsVariable false
set_option linter.unusedSimpArgs false
set_option linter.unusedVariables false
open Go Go.Ab Go.RowKit
set_option maxRecDepth 100000
set_option linter.unusedVariables false
def nc0 : Memo := ⟨ 67, [.agg [.ref 370 1 0 2 (some 8)], .int .i64 0], 481,
  [(7, 1, [.int .u8 25, .int .i64 1, .int .u64 0, .int .u8 2, .int .i64 0, .int .u64 0, .int .u8 5, .int .i64 0, .int .u64 0, .int .u8 29, .int .i64 0, .int .u64 0, .int .u8 24, .int .i64 0, .int .u64 0]),
  (8, 0, [.int .u64 1, .int .u64 18446744073709551614]),
  (10, 0, [.int .u8 1]),
  (13, 3, [.int .u8 27, .int .i64 0, .int .u64 0, .int .u8 29, .int .i64 0, .int .u64 0, .int .u8 29, .int .i64 0, .int .u64 0, .int .u8 24, .int .i64 0, .int .u64 0]),
  (17, 0, [.int .i64 0, .ref 10 0 0 1 none, .bool false, .int .i64 (-1), .ref 7 1 0 5 (some 3), .int .i64 0, .nils, .bool false, .int .i64 (-1), .ref 13 3 0 4 (some 3)]),
  (19, 0, [.ref 17 0 0 2 (some 5)]),
  (20, 0, [.nils, .int .i64 0]),
  (21, 0, [.int .i64 1, .int .u64 0]),
  (23, 0, [.nils, .nils, .nils]),
  (68, 0, [.nils, .nils, .nils]),
  (310, 16, [.int .u8 1, .int .u8 0, .int .u8 1, .int .u8 0, .int .u8 1, .int .u8 0, .int .u8 1, .int .u8 0, .int .u8 1, .int .u8 0, .int .u8 1, .int .u8 0, .int .u8 1, .int .u8 0, .int .u8 1, .int .u8 0, .int .u8 1, .int .u8 0, .int .u8 1, .int .u8 0, .int .u8 1, .int .u8 0, .int .u8 1, .int .u8 0, .int .u8 1, .int .u8 0, .int .u8 1, .int .u8 0, .int .u8 1, .int .u8 0, .int .u8 1, .int .u8 0, .int .u8 1]),
  (335, 4, [.int .u8 13, .int .u8 0, .int .i64 0, .int .i64 0, .int .i64 0, .int .i64 0, .int .i64 1, .int .i64 0, .int .u64 0, .nils, .int .i64 1, .int .i64 0, .int .u8 2, .int .u8 0, .int .i64 2, .int .i64 0, .int .i64 0, .int .i64 0, .int .i64 0, .int .i64 0, .int .u64 0, .nils, .int .i64 2, .int .i64 0, .int .u8 7, .int .u8 0, .int .i64 1, .int .i64 0, .int .i64 2, .int .i64 0, .int .i64 0, .int .i64 0, .int .u64 0, .nils, .int .i64 3, .int .i64 0, .int .u8 17, .int .u8 0, .int .i64 0, .int .i64 0, .int .i64 1, .int .i64 0, .int .i64 0, .int .i64 0, .int .u64 0, .nils, .int .i64 4, .int .i64 0, .int .u8 12, .int .u8 0, .int .i64 0, .int .i64 0, .int .i64 (-1), .int .i64 0, .int .i64 0, .int .i64 0, .int .u64 0, .nils, .int .i64 4, .int .i64 0]),
  (370, 1, [.nils, .ref 310 16 0 33 none, .int .i64 0, .nils, .bool false, .int .i64 (-1), .ref 335 4 0 5 (some 12), .int .i64 0, .nils, .ref 375 15 0 32 none, .int .i64 0, .nils, .bool false, .int .i64 (-1), .ref 399 3 0 4 (some 12), .int .i64 0]),
  (375, 15, [.int .u8 0, .int .u8 1, .int .u8 0, .int .u8 1, .int .u8 0, .int .u8 1, .int .u8 0, .int .u8 1, .int .u8 0, .int .u8 1, .int .u8 0, .int .u8 1, .int .u8 0, .int .u8 1, .int .u8 0, .int .u8 1, .int .u8 0, .int .u8 1, .int .u8 0, .int .u8 1, .int .u8 0, .int .u8 1, .int .u8 0, .int .u8 1, .int .u8 0, .int .u8 1, .int .u8 0, .int .u8 1, .int .u8 0, .int .u8 1, .int .u8 0, .int .u8 1]),
  (399, 3, [.int .u8 15, .int .u8 0, .int .i64 0, .int .i64 2, .int .i64 0, .int .i64 0, .int .i64 0, .int .i64 0, .int .u64 0, .nils, .int .i64 1, .int .i64 0, .int .u8 17, .int .u8 0, .int .i64 0, .int .i64 0, .int .i64 2, .int .i64 0, .int .i64 0, .int .i64 0, .int .u64 0, .nils, .int .i64 2, .int .i64 0, .int .u8 17, .int .u8 0, .int .i64 0, .int .i64 0, .int .i64 0, .int .i64 0, .int .i64 0, .int .i64 0, .int .u64 0, .nils, .int .i64 3, .int .i64 0, .int .u8 12, .int .u8 0, .int .i64 0, .int .i64 0, .int .i64 (-1), .int .i64 0, .int .i64 0, .int .i64 0, .int .u64 0, .nils, .int .i64 3, .int .i64 0]),
  (425, 0, [.ref 370 1 0 2 (some 8)]),
  (426, 0, [.ref 370 1 0 2 (some 8)]),
  (427, 0, [.nils]),
  (428, 0, [.nils, .nils]),
  (477, 0, [.nils]),
  (478, 0, [.nils, .nils]),
  (479, 0, [.int .i64 (-1), .int .i64 (-1), .int .i64 (-1), .int .i64 (-1), .int .i64 (-1)]),
  (480, 0, [.ref 370 1 0 2 (some 8), .ptr 370 1 0, .nils, .nils, .nils, .int .i64 0, .nils, .bool false, .int .i64 0, .nils, .int .i64 0, .ref 479 0 0 5 none, .nils, .nils])],
  [],
  .tup [.ref 940 0 0 33 none, .int .i64 0], 957,
  [(7, 1, [.int .u8 25, .int .i64 1, .int .u64 0, .int .u8 2, .int .i64 0, .int .u64 0, .int .u8 5, .int .i64 0, .int .u64 0, .int .u8 29, .int .i64 0, .int .u64 0, .int .u8 24, .int .i64 0, .int .u64 0]),
  (8, 0, [.int .u64 1, .int .u64 18446744073709551614]),
  (10, 0, [.int .u8 1]),
  (13, 3, [.int .u8 27, .int .i64 0, .int .u64 0, .int .u8 29, .int .i64 0, .int .u64 0, .int .u8 29, .int .i64 0, .int .u64 0, .int .u8 24, .int .i64 0, .int .u64 0]),
  (17, 0, [.int .i64 0, .ref 10 0 0 1 none, .bool false, .int .i64 (-1), .ref 7 1 0 5 (some 3), .int .i64 0, .nils, .bool false, .int .i64 (-1), .ref 13 3 0 4 (some 3)]),
  (19, 0, [.ref 17 0 0 2 (some 5)]),
  (20, 0, [.nils, .int .i64 0]),
  (21, 0, [.int .i64 1, .int .u64 0]),
  (23, 0, [.nils, .nils, .nils]),
  (68, 0, [.nils, .nils, .nils]),
  (310, 16, [.int .u8 1, .int .u8 0, .int .u8 1, .int .u8 0, .int .u8 1, .int .u8 0, .int .u8 1, .int .u8 0, .int .u8 1, .int .u8 0, .int .u8 1, .int .u8 0, .int .u8 1, .int .u8 0, .int .u8 1, .int .u8 0, .int .u8 1, .int .u8 0, .int .u8 1, .int .u8 0, .int .u8 1, .int .u8 0, .int .u8 1, .int .u8 0, .int .u8 1, .int .u8 0, .int .u8 1, .int .u8 0, .int .u8 1, .int .u8 0, .int .u8 1, .int .u8 0, .int .u8 1]),
  (335, 4, [.int .u8 13, .int .u8 0, .int .i64 0, .int .i64 0, .int .i64 0, .int .i64 0, .int .i64 1, .int .i64 0, .int .u64 0, .nils, .int .i64 1, .int .i64 0, .int .u8 2, .int .u8 0, .int .i64 2, .int .i64 0, .int .i64 0, .int .i64 0, .int .i64 0, .int .i64 0, .int .u64 0, .nils, .int .i64 2, .int .i64 0, .int .u8 7, .int .u8 0, .int .i64 1, .int .i64 0, .int .i64 2, .int .i64 0, .int .i64 0, .int .i64 0, .int .u64 0, .nils, .int .i64 3, .int .i64 0, .int .u8 17, .int .u8 0, .int .i64 0, .int .i64 0, .int .i64 1, .int .i64 0, .int .i64 0, .int .i64 0, .int .u64 0, .nils, .int .i64 4, .int .i64 0, .int .u8 12, .int .u8 0, .int .i64 0, .int .i64 0, .int .i64 (-1), .int .i64 0, .int .i64 0, .int .i64 0, .int .u64 0, .nils, .int .i64 4, .int .i64 0]),
  (370, 1, [.nils, .ref 310 16 0 33 none, .int .i64 0, .nils, .bool false, .int .i64 (-1), .ref 335 4 0 5 (some 12), .int .i64 0, .nils, .ref 375 15 0 32 none, .int .i64 0, .nils, .bool false, .int .i64 (-1), .ref 399 3 0 4 (some 12), .int .i64 0]),
  (375, 15, [.int .u8 0, .int .u8 1, .int .u8 0, .int .u8 1, .int .u8 0, .int .u8 1, .int .u8 0, .int .u8 1, .int .u8 0, .int .u8 1, .int .u8 0, .int .u8 1, .int .u8 0, .int .u8 1, .int .u8 0, .int .u8 1, .int .u8 0, .int .u8 1, .int .u8 0, .int .u8 1, .int .u8 0, .int .u8 1, .int .u8 0, .int .u8 1, .int .u8 0, .int .u8 1, .int .u8 0, .int .u8 1, .int .u8 0, .int .u8 1, .int .u8 0, .int .u8 1]),
  (399, 3, [.int .u8 15, .int .u8 0, .int .i64 0, .int .i64 2, .int .i64 0, .int .i64 0, .int .i64 0, .int .i64 0, .int .u64 0, .nils, .int .i64 1, .int .i64 0, .int .u8 17, .int .u8 0, .int .i64 0, .int .i64 0, .int .i64 2, .int .i64 0, .int .i64 0, .int .i64 0, .int .u64 0, .nils, .int .i64 2, .int .i64 0, .int .u8 17, .int .u8 0, .int .i64 0, .int .i64 0, .int .i64 0, .int .i64 0, .int .i64 0, .int .i64 0, .int .u64 0, .nils, .int .i64 3, .int .i64 0, .int .u8 12, .int .u8 0, .int .i64 0, .int .i64 0, .int .i64 (-1), .int .i64 0, .int .i64 0, .int .i64 0, .int .u64 0, .nils, .int .i64 3, .int .i64 0]),
  (425, 0, [.ref 370 1 0 2 (some 8)]),
  (426, 0, [.ref 370 1 0 2 (some 8)]),
  (427, 0, [.nils]),
  (428, 0, [.nils, .nils]),
  (477, 0, [.nils]),
  (478, 0, [.nils, .nils]),
  (479, 0, [.int .i64 (-1), .int .i64 (-1), .int .i64 (-1), .int .i64 (-1), .int .i64 (-1)]),
  (480, 0, [.ref 370 1 0 2 (some 8), .ptr 370 1 0, .nils, .nils, .nils, .int .i64 0, .nils, .bool false, .int .i64 0, .nils, .int .i64 0, .ref 479 0 0 5 none, .nils, .nils]),
  (940, 0, [.int .i64 16, .int .i64 1, .int .i64 0, .int .i64 (-1), .int .i64 (-1), .int .i64 (-1), .int .i64 (-1), .int .i64 (-1), .int .i64 (-1), .int .i64 (-1), .int .i64 (-1), .int .i64 (-1), .int .i64 (-1), .int .i64 (-1), .int .i64 (-1), .int .i64 (-1), .int .i64 (-1), .int .i64 (-1), .int .i64 (-1), .int .i64 (-1), .int .i64 (-1), .int .i64 (-1), .int .i64 (-1), .int .i64 (-1), .int .i64 (-1), .int .i64 (-1), .int .i64 (-1), .int .i64 (-1), .int .i64 (-1), .int .i64 (-1), .int .i64 (-1), .int .i64 (-1), .int .i64 (-1)])],
  [] ⟩
theorem nc0_e : chkM fs0 (runR Tryz.prog pvZ (codeT tabL) (ovA ovL []) 200) nc0 = true := by kernel_rfl
theorem nc0_ok : MemoOK Tryz.prog fs0 nc0 := chkM_ok (run_ok (ms := []) trivial) nc0_e
end Go.Proofs.YtklmiejnopdabaaGreatDoor
/- One case: known calls, evaluated by the kernel. Printed by a program. -/
namespace Go.Proofs.YtklmiejnopdabaaGreatDoor
set_option linter.constructorNameAsVariable false
set_option linter.unusedSimpArgs false
set_option linter.unusedVariables false
open Go Go.Ab Go.RowKit
set_option maxRecDepth 100000
set_option linter.unusedVariables false
def nc1 : Memo := ⟨ 67, [.agg [.ref 370 1 0 2 (some 8)], .int .i64 1], 1420,
  [(7, 1, [.int .u8 25, .int .i64 1, .int .u64 0, .int .u8 2, .int .i64 0, .int .u64 0, .int .u8 5, .int .i64 0, .int .u64 0, .int .u8 29, .int .i64 0, .int .u64 0, .int .u8 24, .int .i64 0, .int .u64 0]),
  (8, 0, [.int .u64 1, .int .u64 18446744073709551614]),
  (10, 0, [.int .u8 1]),
  (13, 3, [.int .u8 27, .int .i64 0, .int .u64 0, .int .u8 29, .int .i64 0, .int .u64 0, .int .u8 29, .int .i64 0, .int .u64 0, .int .u8 24, .int .i64 0, .int .u64 0]),
  (17, 0, [.int .i64 0, .ref 10 0 0 1 none, .bool false, .int .i64 (-1), .ref 7 1 0 5 (some 3), .int .i64 0, .nils, .bool false, .int .i64 (-1), .ref 13 3 0 4 (some 3)]),
  (19, 0, [.ref 17 0 0 2 (some 5)]),
  (20, 0, [.nils, .int .i64 0]),
  (21, 0, [.int .i64 1, .int .u64 0]),
  (23, 0, [.nils, .nils, .nils]),
  (68, 0, [.nils, .nils, .nils]),
  (310, 16, [.int .u8 1, .int .u8 0, .int .u8 1, .int .u8 0, .int .u8 1, .int .u8 0, .int .u8 1, .int .u8 0, .int .u8 1, .int .u8 0, .int .u8 1, .int .u8 0, .int .u8 1, .int .u8 0, .int .u8 1, .int .u8 0, .int .u8 1, .int .u8 0, .int .u8 1, .int .u8 0, .int .u8 1, .int .u8 0, .int .u8 1, .int .u8 0, .int .u8 1, .int .u8 0, .int .u8 1, .int .u8 0, .int .u8 1, .int .u8 0, .int .u8 1, .int .u8 0, .int .u8 1]),
  (335, 4, [.int .u8 13, .int .u8 0, .int .i64 0, .int .i64 0, .int .i64 0, .int .i64 0, .int .i64 1, .int .i64 0, .int .u64 0, .nils, .int .i64 1, .int .i64 0, .int .u8 2, .int .u8 0, .int .i64 2, .int .i64 0, .int .i64 0, .int .i64 0, .int .i64 0, .int .i64 0, .int .u64 0, .nils, .int .i64 2, .int .i64 0, .int .u8 7, .int .u8 0, .int .i64 1, .int .i64 0, .int .i64 2, .int .i64 0, .int .i64 0, .int .i64 0, .int .u64 0, .nils, .int .i64 3, .int .i64 0, .int .u8 17, .int .u8 0, .int .i64 0, .int .i64 0, .int .i64 1, .int .i64 0, .int .i64 0, .int .i64 0, .int .u64 0, .nils, .int .i64 4, .int .i64 0, .int .u8 12, .int .u8 0, .int .i64 0, .int .i64 0, .int .i64 (-1), .int .i64 0, .int .i64 0, .int .i64 0, .int .u64 0, .nils, .int .i64 4, .int .i64 0]),
  (370, 1, [.nils, .ref 310 16 0 33 none, .int .i64 0, .nils, .bool false, .int .i64 (-1), .ref 335 4 0 5 (some 12), .int .i64 0, .nils, .ref 375 15 0 32 none, .int .i64 0, .nils, .bool false, .int .i64 (-1), .ref 399 3 0 4 (some 12), .int .i64 0]),
  (375, 15, [.int .u8 0, .int .u8 1, .int .u8 0, .int .u8 1, .int .u8 0, .int .u8 1, .int .u8 0, .int .u8 1, .int .u8 0, .int .u8 1, .int .u8 0, .int .u8 1, .int .u8 0, .int .u8 1, .int .u8 0, .int .u8 1, .int .u8 0, .int .u8 1, .int .u8 0, .int .u8 1, .int .u8 0, .int .u8 1, .int .u8 0, .int .u8 1, .int .u8 0, .int .u8 1, .int .u8 0, .int .u8 1, .int .u8 0, .int .u8 1, .int .u8 0, .int .u8 1]),
  (399, 3, [.int .u8 15, .int .u8 0, .int .i64 0, .int .i64 2, .int .i64 0, .int .i64 0, .int .i64 0, .int .i64 0, .int .u64 0, .nils, .int .i64 1, .int .i64 0, .int .u8 17, .int .u8 0, .int .i64 0, .int .i64 0, .int .i64 2, .int .i64 0, .int .i64 0, .int .i64 0, .int .u64 0, .nils, .int .i64 2, .int .i64 0, .int .u8 17, .int .u8 0, .int .i64 0, .int .i64 0, .int .i64 0, .int .i64 0, .int .i64 0, .int .i64 0, .int .u64 0, .nils, .int .i64 3, .int .i64 0, .int .u8 12, .int .u8 0, .int .i64 0, .int .i64 0, .int .i64 (-1), .int .i64 0, .int .i64 0, .int .i64 0, .int .u64 0, .nils, .int .i64 3, .int .i64 0]),
  (425, 0, [.ref 370 1 0 2 (some 8)]),
  (426, 0, [.ref 370 1 0 2 (some 8)]),
  (427, 0, [.nils]),
  (428, 0, [.nils, .nils]),
  (477, 0, [.ref 1413 0 0 1 (some 8)]),
  (478, 0, [.ref 1415 0 0 1 none, .ref 1417 0 0 1 none]),
  (479, 0, [.int .i64 1, .int .i64 2, .int .i64 3, .int .i64 4, .int .i64 5]),
  (940, 0, [.int .i64 16, .int .i64 1, .int .i64 0, .int .i64 (-1), .int .i64 (-1), .int .i64 (-1), .int .i64 (-1), .int .i64 (-1), .int .i64 (-1), .int .i64 (-1), .int .i64 (-1), .int .i64 (-1), .int .i64 (-1), .int .i64 (-1), .int .i64 (-1), .int .i64 (-1), .int .i64 (-1), .int .i64 (-1), .int .i64 (-1), .int .i64 (-1), .int .i64 (-1), .int .i64 (-1), .int .i64 (-1), .int .i64 (-1), .int .i64 (-1), .int .i64 (-1), .int .i64 (-1), .int .i64 (-1), .int .i64 (-1), .int .i64 (-1), .int .i64 (-1), .int .i64 (-1), .int .i64 (-1)]),
  (1329, 1, [.int .u8 0, .int .u8 0, .int .u8 0, .int .u8 0, .int .u8 0, .int .u8 0, .int .u8 0, .int .u8 0, .int .u8 0, .int .u8 0, .int .u8 0, .int .u8 0, .int .u8 0, .int .u8 0, .int .u8 0, .int .u8 0, .int .u8 1]),
  (1335, 5, [.int .u8 10, .int .u8 0, .int .i64 0, .int .i64 0, .int .i64 0, .int .i64 0, .int .i64 0, .int .i64 0, .int .u64 0, .nils, .int .i64 1, .int .i64 0, .int .u8 13, .int .u8 0, .int .i64 (-1), .int .i64 0, .int .i64 0, .int .i64 0, .int .i64 1, .int .i64 0, .int .u64 0, .nils, .int .i64 2, .int .i64 0, .int .u8 2, .int .u8 0, .int .i64 0, .int .i64 (-1), .int .i64 16, .int .i64 0, .int .i64 0, .int .i64 0, .int .u64 0, .nils, .int .i64 3, .int .i64 0, .int .u8 7, .int .u8 0, .int .i64 1, .int .i64 (-1), .int .i64 0, .int .i64 0, .int .i64 0, .int .i64 0, .int .u64 0, .nils, .int .i64 4, .int .i64 0, .int .u8 17, .int .u8 0, .int .i64 (-1), .int .i64 (-1), .int .i64 1, .int .i64 0, .int .i64 0, .int .i64 0, .int .u64 0, .nils, .int .i64 5, .int .i64 0, .int .u8 12, .int .u8 0, .int .i64 (-1), .int .i64 (-1), .int .i64 (-1), .int .i64 0, .int .i64 0, .int .i64 0, .int .u64 0, .nils, .int .i64 0, .int .i64 0]),
  (1413, 0, [.nils, .ref 1329 1 0 17 none, .int .i64 0, .nils, .bool false, .int .i64 (-1), .ref 1335 5 0 6 (some 12), .int .i64 0]),
  (1415, 0, [.ref 940 0 0 33 none]),
  (1417, 0, [.ref 479 0 0 5 none]),
  (1418, 0, [.int .i64 (-1), .int .i64 (-1), .int .i64 (-1), .int .i64 (-1)]),
  (1419, 0, [.ref 370 1 0 2 (some 8), .ptr 370 1 8, .nils, .nils, .nils, .int .i64 0, .nils, .bool false, .int .i64 0, .nils, .int .i64 0, .ref 1418 0 0 4 none, .nils, .nils])],
  [],
  .tup [.ref 1810 0 0 32 none, .int .i64 0], 1818,
  [(7, 1, [.int .u8 25, .int .i64 1, .int .u64 0, .int .u8 2, .int .i64 0, .int .u64 0, .int .u8 5, .int .i64 0, .int .u64 0, .int .u8 29, .int .i64 0, .int .u64 0, .int .u8 24, .int .i64 0, .int .u64 0]),
  (8, 0, [.int .u64 1, .int .u64 18446744073709551614]),
  (10, 0, [.int .u8 1]),
  (13, 3, [.int .u8 27, .int .i64 0, .int .u64 0, .int .u8 29, .int .i64 0, .int .u64 0, .int .u8 29, .int .i64 0, .int .u64 0, .int .u8 24, .int .i64 0, .int .u64 0]),
  (17, 0, [.int .i64 0, .ref 10 0 0 1 none, .bool false, .int .i64 (-1), .ref 7 1 0 5 (some 3), .int .i64 0, .nils, .bool false, .int .i64 (-1), .ref 13 3 0 4 (some 3)]),
  (19, 0, [.ref 17 0 0 2 (some 5)]),
  (20, 0, [.nils, .int .i64 0]),
  (21, 0, [.int .i64 1, .int .u64 0]),
  (23, 0, [.nils, .nils, .nils]),
  (68, 0, [.nils, .nils, .nils]),
  (310, 16, [.int .u8 1, .int .u8 0, .int .u8 1, .int .u8 0, .int .u8 1, .int .u8 0, .int .u8 1, .int .u8 0, .int .u8 1, .int .u8 0, .int .u8 1, .int .u8 0, .int .u8 1, .int .u8 0, .int .u8 1, .int .u8 0, .int .u8 1, .int .u8 0, .int .u8 1, .int .u8 0, .int .u8 1, .int .u8 0, .int .u8 1, .int .u8 0, .int .u8 1, .int .u8 0, .int .u8 1, .int .u8 0, .int .u8 1, .int .u8 0, .int .u8 1, .int .u8 0, .int .u8 1]),
  (335, 4, [.int .u8 13, .int .u8 0, .int .i64 0, .int .i64 0, .int .i64 0, .int .i64 0, .int .i64 1, .int .i64 0, .int .u64 0, .nils, .int .i64 1, .int .i64 0, .int .u8 2, .int .u8 0, .int .i64 2, .int .i64 0, .int .i64 0, .int .i64 0, .int .i64 0, .int .i64 0, .int .u64 0, .nils, .int .i64 2, .int .i64 0, .int .u8 7, .int .u8 0, .int .i64 1, .int .i64 0, .int .i64 2, .int .i64 0, .int .i64 0, .int .i64 0, .int .u64 0, .nils, .int .i64 3, .int .i64 0, .int .u8 17, .int .u8 0, .int .i64 0, .int .i64 0, .int .i64 1, .int .i64 0, .int .i64 0, .int .i64 0, .int .u64 0, .nils, .int .i64 4, .int .i64 0, .int .u8 12, .int .u8 0, .int .i64 0, .int .i64 0, .int .i64 (-1), .int .i64 0, .int .i64 0, .int .i64 0, .int .u64 0, .nils, .int .i64 4, .int .i64 0]),
  (370, 1, [.nils, .ref 310 16 0 33 none, .int .i64 0, .nils, .bool false, .int .i64 (-1), .ref 335 4 0 5 (some 12), .int .i64 0, .nils, .ref 375 15 0 32 none, .int .i64 0, .nils, .bool false, .int .i64 (-1), .ref 399 3 0 4 (some 12), .int .i64 0]),
  (375, 15, [.int .u8 0, .int .u8 1, .int .u8 0, .int .u8 1, .int .u8 0, .int .u8 1, .int .u8 0, .int .u8 1, .int .u8 0, .int .u8 1, .int .u8 0, .int .u8 1, .int .u8 0, .int .u8 1, .int .u8 0, .int .u8 1, .int .u8 0, .int .u8 1, .int .u8 0, .int .u8 1, .int .u8 0, .int .u8 1, .int .u8 0, .int .u8 1, .int .u8 0, .int .u8 1, .int .u8 0, .int .u8 1, .int .u8 0, .int .u8 1, .int .u8 0, .int .u8 1]),
  (399, 3, [.int .u8 15, .int .u8 0, .int .i64 0, .int .i64 2, .int .i64 0, .int .i64 0, .int .i64 0, .int .i64 0, .int .u64 0, .nils, .int .i64 1, .int .i64 0, .int .u8 17, .int .u8 0, .int .i64 0, .int .i64 0, .int .i64 2, .int .i64 0, .int .i64 0, .int .i64 0, .int .u64 0, .nils, .int .i64 2, .int .i64 0, .int .u8 17, .int .u8 0, .int .i64 0, .int .i64 0, .int .i64 0, .int .i64 0, .int .i64 0, .int .i64 0, .int .u64 0, .nils, .int .i64 3, .int .i64 0, .int .u8 12, .int .u8 0, .int .i64 0, .int .i64 0, .int .i64 (-1), .int .i64 0, .int .i64 0, .int .i64 0, .int .u64 0, .nils, .int .i64 3, .int .i64 0]),
  (425, 0, [.ref 370 1 0 2 (some 8)]),
  (426, 0, [.ref 370 1 0 2 (some 8)]),
  (427, 0, [.nils]),
  (428, 0, [.nils, .nils]),
  (477, 0, [.ref 1413 0 0 1 (some 8)]),
  (478, 0, [.ref 1415 0 0 1 none, .ref 1417 0 0 1 none]),
  (479, 0, [.int .i64 1, .int .i64 2, .int .i64 3, .int .i64 4, .int .i64 5]),
  (940, 0, [.int .i64 16, .int .i64 1, .int .i64 0, .int .i64 (-1), .int .i64 (-1), .int .i64 (-1), .int .i64 (-1), .int .i64 (-1), .int .i64 (-1), .int .i64 (-1), .int .i64 (-1), .int .i64 (-1), .int .i64 (-1), .int .i64 (-1), .int .i64 (-1), .int .i64 (-1), .int .i64 (-1), .int .i64 (-1), .int .i64 (-1), .int .i64 (-1), .int .i64 (-1), .int .i64 (-1), .int .i64 (-1), .int .i64 (-1), .int .i64 (-1), .int .i64 (-1), .int .i64 (-1), .int .i64 (-1), .int .i64 (-1), .int .i64 (-1), .int .i64 (-1), .int .i64 (-1), .int .i64 (-1)]),
  (1329, 1, [.int .u8 0, .int .u8 0, .int .u8 0, .int .u8 0, .int .u8 0, .int .u8 0, .int .u8 0, .int .u8 0, .int .u8 0, .int .u8 0, .int .u8 0, .int .u8 0, .int .u8 0, .int .u8 0, .int .u8 0, .int .u8 0, .int .u8 1]),
  (1335, 5, [.int .u8 10, .int .u8 0, .int .i64 0, .int .i64 0, .int .i64 0, .int .i64 0, .int .i64 0, .int .i64 0, .int .u64 0, .nils, .int .i64 1, .int .i64 0, .int .u8 13, .int .u8 0, .int .i64 (-1), .int .i64 0, .int .i64 0, .int .i64 0, .int .i64 1, .int .i64 0, .int .u64 0, .nils, .int .i64 2, .int .i64 0, .int .u8 2, .int .u8 0, .int .i64 0, .int .i64 (-1), .int .i64 16, .int .i64 0, .int .i64 0, .int .i64 0, .int .u64 0, .nils, .int .i64 3, .int .i64 0, .int .u8 7, .int .u8 0, .int .i64 1, .int .i64 (-1), .int .i64 0, .int .i64 0, .int .i64 0, .int .i64 0, .int .u64 0, .nils, .int .i64 4, .int .i64 0, .int .u8 17, .int .u8 0, .int .i64 (-1), .int .i64 (-1), .int .i64 1, .int .i64 0, .int .i64 0, .int .i64 0, .int .u64 0, .nils, .int .i64 5, .int .i64 0, .int .u8 12, .int .u8 0, .int .i64 (-1), .int .i64 (-1), .int .i64 (-1), .int .i64 0, .int .i64 0, .int .i64 0, .int .u64 0, .nils, .int .i64 0, .int .i64 0]),
  (1413, 0, [.nils, .ref 1329 1 0 17 none, .int .i64 0, .nils, .bool false, .int .i64 (-1), .ref 1335 5 0 6 (some 12), .int .i64 0]),
  (1415, 0, [.ref 940 0 0 33 none]),
  (1417, 0, [.ref 479 0 0 5 none]),
  (1418, 0, [.int .i64 (-1), .int .i64 (-1), .int .i64 (-1), .int .i64 (-1)]),
  (1419, 0, [.ref 370 1 0 2 (some 8), .ptr 370 1 8, .nils, .nils, .nils, .int .i64 0, .nils, .bool false, .int .i64 0, .nils, .int .i64 0, .ref 1418 0 0 4 none, .nils, .nils]),
  (1810, 0, [.int .i64 0, .int .i64 (-1), .int .i64 1, .int .i64 (-1), .int .i64 (-1), .int .i64 (-1), .int .i64 (-1), .int .i64 (-1), .int .i64 (-1), .int .i64 (-1), .int .i64 (-1), .int .i64 (-1), .int .i64 (-1), .int .i64 (-1), .int .i64 (-1), .int .i64 (-1), .int .i64 (-1), .int .i64 (-1), .int .i64 (-1), .int .i64 (-1), .int .i64 (-1), .int .i64 (-1), .int .i64 (-1), .int .i64 (-1), .int .i64 (-1), .int .i64 (-1), .int .i64 (-1), .int .i64 (-1), .int .i64 (-1), .int .i64 (-1), .int .i64 (-1), .int .i64 (-1)])],
  [] ⟩
theorem nc1_e : chkM fs0 (runR Tryz.prog pvZ (codeT tabL) (ovA ovL []) 200) nc1 = true := by kernel_rfl
theorem nc1_ok : MemoOK Tryz.prog fs0 nc1 := chkM_ok (run_ok (ms := []) trivial) nc1_e
end Go.Proofs.YtklmiejnopdabaaGreatDoor
/- One case: known calls, evaluated by the kernel. Printed by a program. -/
namespace Go.Proofs.YtklmiejnopdabaaGreatDoor
set_option linter.constructorNameAsVariable false
set_option linter.unusedSimpArgs false
set_option linter.unusedVariables false
open Go Go.Ab Go.RowKit
set_option maxRecDepth 100000
set_option linter.unusedVariables false
def nc2 : Memo := ⟨ 39, [.agg [.ref 370 1 0 2 (some 8)]], 426,
  [(7, 1, [.int .u8 25, .int .i64 1, .int .u64 0, .int .u8 2, .int .i64 0, .int .u64 0, .int .u8 5, .int .i64 0, .int .u64 0, .int .u8 29, .int .i64 0, .int .u64 0, .int .u8 24, .int .i64 0, .int .u64 0]),
  (8, 0, [.int .u64 1, .int .u64 18446744073709551614]),
  (10, 0, [.int .u8 1]),
  (13, 3, [.int .u8 27, .int .i64 0, .int .u64 0, .int .u8 29, .int .i64 0, .int .u64 0, .int .u8 29, .int .i64 0, .int .u64 0, .int .u8 24, .int .i64 0, .int .u64 0]),
  (17, 0, [.int .i64 0, .ref 10 0 0 1 none, .bool false, .int .i64 (-1), .ref 7 1 0 5 (some 3), .int .i64 0, .nils, .bool false, .int .i64 (-1), .ref 13 3 0 4 (some 3)]),
  (19, 0, [.ref 17 0 0 2 (some 5)]),
  (20, 0, [.nils, .int .i64 0]),
  (21, 0, [.int .i64 1, .int .u64 0]),
  (23, 0, [.nils, .nils, .nils]),
  (68, 0, [.nils, .nils, .nils]),
  (310, 16, [.int .u8 1, .int .u8 0, .int .u8 1, .int .u8 0, .int .u8 1, .int .u8 0, .int .u8 1, .int .u8 0, .int .u8 1, .int .u8 0, .int .u8 1, .int .u8 0, .int .u8 1, .int .u8 0, .int .u8 1, .int .u8 0, .int .u8 1, .int .u8 0, .int .u8 1, .int .u8 0, .int .u8 1, .int .u8 0, .int .u8 1, .int .u8 0, .int .u8 1, .int .u8 0, .int .u8 1, .int .u8 0, .int .u8 1, .int .u8 0, .int .u8 1, .int .u8 0, .int .u8 1]),
  (335, 4, [.int .u8 13, .int .u8 0, .int .i64 0, .int .i64 0, .int .i64 0, .int .i64 0, .int .i64 1, .int .i64 0, .int .u64 0, .nils, .int .i64 1, .int .i64 0, .int .u8 2, .int .u8 0, .int .i64 2, .int .i64 0, .int .i64 0, .int .i64 0, .int .i64 0, .int .i64 0, .int .u64 0, .nils, .int .i64 2, .int .i64 0, .int .u8 7, .int .u8 0, .int .i64 1, .int .i64 0, .int .i64 2, .int .i64 0, .int .i64 0, .int .i64 0, .int .u64 0, .nils, .int .i64 3, .int .i64 0, .int .u8 17, .int .u8 0, .int .i64 0, .int .i64 0, .int .i64 1, .int .i64 0, .int .i64 0, .int .i64 0, .int .u64 0, .nils, .int .i64 4, .int .i64 0, .int .u8 12, .int .u8 0, .int .i64 0, .int .i64 0, .int .i64 (-1), .int .i64 0, .int .i64 0, .int .i64 0, .int .u64 0, .nils, .int .i64 4, .int .i64 0]),
  (370, 1, [.nils, .ref 310 16 0 33 none, .int .i64 0, .nils, .bool false, .int .i64 (-1), .ref 335 4 0 5 (some 12), .int .i64 0, .nils, .ref 375 15 0 32 none, .int .i64 0, .nils, .bool false, .int .i64 (-1), .ref 399 3 0 4 (some 12), .int .i64 0]),
  (375, 15, [.int .u8 0, .int .u8 1, .int .u8 0, .int .u8 1, .int .u8 0, .int .u8 1, .int .u8 0, .int .u8 1, .int .u8 0, .int .u8 1, .int .u8 0, .int .u8 1, .int .u8 0, .int .u8 1, .int .u8 0, .int .u8 1, .int .u8 0, .int .u8 1, .int .u8 0, .int .u8 1, .int .u8 0, .int .u8 1, .int .u8 0, .int .u8 1, .int .u8 0, .int .u8 1, .int .u8 0, .int .u8 1, .int .u8 0, .int .u8 1, .int .u8 0, .int .u8 1]),
  (399, 3, [.int .u8 15, .int .u8 0, .int .i64 0, .int .i64 2, .int .i64 0, .int .i64 0, .int .i64 0, .int .i64 0, .int .u64 0, .nils, .int .i64 1, .int .i64 0, .int .u8 17, .int .u8 0, .int .i64 0, .int .i64 0, .int .i64 2, .int .i64 0, .int .i64 0, .int .i64 0, .int .u64 0, .nils, .int .i64 2, .int .i64 0, .int .u8 17, .int .u8 0, .int .i64 0, .int .i64 0, .int .i64 0, .int .i64 0, .int .i64 0, .int .i64 0, .int .u64 0, .nils, .int .i64 3, .int .i64 0, .int .u8 12, .int .u8 0, .int .i64 0, .int .i64 0, .int .i64 (-1), .int .i64 0, .int .i64 0, .int .i64 0, .int .u64 0, .nils, .int .i64 3, .int .i64 0]),
  (425, 0, [.ref 370 1 0 2 (some 8)])],
  [],
  .tup [.agg [.ref 1413 1 0 2 (some 8)], .agg [.ref 1415 1 0 2 none, .ref 1417 1 0 2 none], .int .i64 0], 2252,
  [(7, 1, [.int .u8 25, .int .i64 1, .int .u64 0, .int .u8 2, .int .i64 0, .int .u64 0, .int .u8 5, .int .i64 0, .int .u64 0, .int .u8 29, .int .i64 0, .int .u64 0, .int .u8 24, .int .i64 0, .int .u64 0]),
  (8, 0, [.int .u64 1, .int .u64 18446744073709551614]),
  (10, 0, [.int .u8 1]),
  (13, 3, [.int .u8 27, .int .i64 0, .int .u64 0, .int .u8 29, .int .i64 0, .int .u64 0, .int .u8 29, .int .i64 0, .int .u64 0, .int .u8 24, .int .i64 0, .int .u64 0]),
  (17, 0, [.int .i64 0, .ref 10 0 0 1 none, .bool false, .int .i64 (-1), .ref 7 1 0 5 (some 3), .int .i64 0, .nils, .bool false, .int .i64 (-1), .ref 13 3 0 4 (some 3)]),
  (19, 0, [.ref 17 0 0 2 (some 5)]),
  (20, 0, [.nils, .int .i64 0]),
  (21, 0, [.int .i64 1, .int .u64 0]),
  (23, 0, [.nils, .nils, .nils]),
  (68, 0, [.nils, .nils, .nils]),
  (310, 16, [.int .u8 1, .int .u8 0, .int .u8 1, .int .u8 0, .int .u8 1, .int .u8 0, .int .u8 1, .int .u8 0, .int .u8 1, .int .u8 0, .int .u8 1, .int .u8 0, .int .u8 1, .int .u8 0, .int .u8 1, .int .u8 0, .int .u8 1, .int .u8 0, .int .u8 1, .int .u8 0, .int .u8 1, .int .u8 0, .int .u8 1, .int .u8 0, .int .u8 1, .int .u8 0, .int .u8 1, .int .u8 0, .int .u8 1, .int .u8 0, .int .u8 1, .int .u8 0, .int .u8 1]),
  (335, 4, [.int .u8 13, .int .u8 0, .int .i64 0, .int .i64 0, .int .i64 0, .int .i64 0, .int .i64 1, .int .i64 0, .int .u64 0, .nils, .int .i64 1, .int .i64 0, .int .u8 2, .int .u8 0, .int .i64 2, .int .i64 0, .int .i64 0, .int .i64 0, .int .i64 0, .int .i64 0, .int .u64 0, .nils, .int .i64 2, .int .i64 0, .int .u8 7, .int .u8 0, .int .i64 1, .int .i64 0, .int .i64 2, .int .i64 0, .int .i64 0, .int .i64 0, .int .u64 0, .nils, .int .i64 3, .int .i64 0, .int .u8 17, .int .u8 0, .int .i64 0, .int .i64 0, .int .i64 1, .int .i64 0, .int .i64 0, .int .i64 0, .int .u64 0, .nils, .int .i64 4, .int .i64 0, .int .u8 12, .int .u8 0, .int .i64 0, .int .i64 0, .int .i64 (-1), .int .i64 0, .int .i64 0, .int .i64 0, .int .u64 0, .nils, .int .i64 4, .int .i64 0]),
  (370, 1, [.nils, .ref 310 16 0 33 none, .int .i64 0, .nils, .bool false, .int .i64 (-1), .ref 335 4 0 5 (some 12), .int .i64 0, .nils, .ref 375 15 0 32 none, .int .i64 0, .nils, .bool false, .int .i64 (-1), .ref 399 3 0 4 (some 12), .int .i64 0]),
  (375, 15, [.int .u8 0, .int .u8 1, .int .u8 0, .int .u8 1, .int .u8 0, .int .u8 1, .int .u8 0, .int .u8 1, .int .u8 0, .int .u8 1, .int .u8 0, .int .u8 1, .int .u8 0, .int .u8 1, .int .u8 0, .int .u8 1, .int .u8 0, .int .u8 1, .int .u8 0, .int .u8 1, .int .u8 0, .int .u8 1, .int .u8 0, .int .u8 1, .int .u8 0, .int .u8 1, .int .u8 0, .int .u8 1, .int .u8 0, .int .u8 1, .int .u8 0, .int .u8 1]),
  (399, 3, [.int .u8 15, .int .u8 0, .int .i64 0, .int .i64 2, .int .i64 0, .int .i64 0, .int .i64 0, .int .i64 0, .int .u64 0, .nils, .int .i64 1, .int .i64 0, .int .u8 17, .int .u8 0, .int .i64 0, .int .i64 0, .int .i64 2, .int .i64 0, .int .i64 0, .int .i64 0, .int .u64 0, .nils, .int .i64 2, .int .i64 0, .int .u8 17, .int .u8 0, .int .i64 0, .int .i64 0, .int .i64 0, .int .i64 0, .int .i64 0, .int .i64 0, .int .u64 0, .nils, .int .i64 3, .int .i64 0, .int .u8 12, .int .u8 0, .int .i64 0, .int .i64 0, .int .i64 (-1), .int .i64 0, .int .i64 0, .int .i64 0, .int .u64 0, .nils, .int .i64 3, .int .i64 0]),
  (425, 0, [.ref 370 1 0 2 (some 8)]),
  (479, 0, [.int .i64 1, .int .i64 2, .int .i64 3, .int .i64 4, .int .i64 5]),
  (940, 0, [.int .i64 16, .int .i64 1, .int .i64 0, .int .i64 (-1), .int .i64 (-1), .int .i64 (-1), .int .i64 (-1), .int .i64 (-1), .int .i64 (-1), .int .i64 (-1), .int .i64 (-1), .int .i64 (-1), .int .i64 (-1), .int .i64 (-1), .int .i64 (-1), .int .i64 (-1), .int .i64 (-1), .int .i64 (-1), .int .i64 (-1), .int .i64 (-1), .int .i64 (-1), .int .i64 (-1), .int .i64 (-1), .int .i64 (-1), .int .i64 (-1), .int .i64 (-1), .int .i64 (-1), .int .i64 (-1), .int .i64 (-1), .int .i64 (-1), .int .i64 (-1), .int .i64 (-1), .int .i64 (-1)]),
  (1329, 1, [.int .u8 0, .int .u8 0, .int .u8 0, .int .u8 0, .int .u8 0, .int .u8 0, .int .u8 0, .int .u8 0, .int .u8 0, .int .u8 0, .int .u8 0, .int .u8 0, .int .u8 0, .int .u8 0, .int .u8 0, .int .u8 0, .int .u8 1]),
  (1335, 5, [.int .u8 10, .int .u8 0, .int .i64 0, .int .i64 0, .int .i64 0, .int .i64 0, .int .i64 0, .int .i64 0, .int .u64 0, .nils, .int .i64 1, .int .i64 0, .int .u8 13, .int .u8 0, .int .i64 (-1), .int .i64 0, .int .i64 0, .int .i64 0, .int .i64 1, .int .i64 0, .int .u64 0, .nils, .int .i64 2, .int .i64 0, .int .u8 2, .int .u8 0, .int .i64 0, .int .i64 (-1), .int .i64 16, .int .i64 0, .int .i64 0, .int .i64 0, .int .u64 0, .nils, .int .i64 3, .int .i64 0, .int .u8 7, .int .u8 0, .int .i64 1, .int .i64 (-1), .int .i64 0, .int .i64 0, .int .i64 0, .int .i64 0, .int .u64 0, .nils, .int .i64 4, .int .i64 0, .int .u8 17, .int .u8 0, .int .i64 (-1), .int .i64 (-1), .int .i64 1, .int .i64 0, .int .i64 0, .int .i64 0, .int .u64 0, .nils, .int .i64 5, .int .i64 0, .int .u8 12, .int .u8 0, .int .i64 (-1), .int .i64 (-1), .int .i64 (-1), .int .i64 0, .int .i64 0, .int .i64 0, .int .u64 0, .nils, .int .i64 0, .int .i64 0]),
  (1413, 1, [.nils, .ref 1329 1 0 17 none, .int .i64 0, .nils, .bool false, .int .i64 (-1), .ref 1335 5 0 6 (some 12), .int .i64 0, .nils, .ref 2128 0 0 16 none, .int .i64 0, .nils, .bool false, .int .i64 (-1), .ref 2133 4 0 5 (some 12), .int .i64 0]),
  (1415, 1, [.ref 940 0 0 33 none, .ref 1810 0 0 32 none]),
  (1417, 1, [.ref 479 0 0 5 none, .ref 1418 0 0 4 none]),
  (1418, 0, [.int .i64 1, .int .i64 2, .int .i64 3, .int .i64 4]),
  (1810, 0, [.int .i64 0, .int .i64 (-1), .int .i64 1, .int .i64 (-1), .int .i64 (-1), .int .i64 (-1), .int .i64 (-1), .int .i64 (-1), .int .i64 (-1), .int .i64 (-1), .int .i64 (-1), .int .i64 (-1), .int .i64 (-1), .int .i64 (-1), .int .i64 (-1), .int .i64 (-1), .int .i64 (-1), .int .i64 (-1), .int .i64 (-1), .int .i64 (-1), .int .i64 (-1), .int .i64 (-1), .int .i64 (-1), .int .i64 (-1), .int .i64 (-1), .int .i64 (-1), .int .i64 (-1), .int .i64 (-1), .int .i64 (-1), .int .i64 (-1), .int .i64 (-1), .int .i64 (-1)]),
  (2128, 0, [.int .u8 0, .int .u8 0, .int .u8 0, .int .u8 0, .int .u8 0, .int .u8 0, .int .u8 0, .int .u8 0, .int .u8 0, .int .u8 0, .int .u8 0, .int .u8 0, .int .u8 0, .int .u8 0, .int .u8 0, .int .u8 0]),
  (2133, 4, [.int .u8 10, .int .u8 0, .int .i64 0, .int .i64 0, .int .i64 0, .int .i64 0, .int .i64 0, .int .i64 0, .int .u64 0, .nils, .int .i64 1, .int .i64 0, .int .u8 15, .int .u8 0, .int .i64 0, .int .i64 1, .int .i64 (-1), .int .i64 0, .int .i64 0, .int .i64 0, .int .u64 0, .nils, .int .i64 2, .int .i64 0, .int .u8 17, .int .u8 0, .int .i64 (-1), .int .i64 (-1), .int .i64 1, .int .i64 0, .int .i64 0, .int .i64 0, .int .u64 0, .nils, .int .i64 3, .int .i64 0, .int .u8 17, .int .u8 0, .int .i64 (-1), .int .i64 (-1), .int .i64 0, .int .i64 0, .int .i64 0, .int .i64 0, .int .u64 0, .nils, .int .i64 4, .int .i64 0, .int .u8 12, .int .u8 0, .int .i64 (-1), .int .i64 (-1), .int .i64 (-1), .int .i64 0, .int .i64 0, .int .i64 0, .int .u64 0, .nils, .int .i64 0, .int .i64 0])],
  [] ⟩
theorem nc2_e : chkM fs0 (runR Tryz.prog pvZ (codeT tabL) (ovA ovL [nc0, nc1]) 200) nc2 = true := by kernel_rfl
theorem nc2_ok : MemoOK Tryz.prog fs0 nc2 := chkM_ok (run_ok (ms := [nc0, nc1]) ⟨nc0_ok, nc1_ok, trivial⟩) nc2_e
end Go.Proofs.YtklmiejnopdabaaGreatDoor
/- One case: known calls, evaluated by the kernel. Printed by a program. -/
namespace Go.Proofs.YtklmiejnopdabaaGreatDoor
set_option linter.constructorNameAsVariable false
set_option linter.unusedSimpArgs false
set_option linter.unusedVariables false
open Go Go.Ab Go.RowKit
set_option maxRecDepth 100000
set_option linter.unusedVariables false
def nc3 : Memo := ⟨ 40, [.agg [.ref 370 1 0 2 (some 8)], .agg [.ref 1413 1 0 2 (some 8)], .agg [.ref 1415 1 0 2 none, .ref 1417 1 0 2 none]], 2254,
  [(7, 1, [.int .u8 25, .int .i64 1, .int .u64 0, .int .u8 2, .int .i64 0, .int .u64 0, .int .u8 5, .int .i64 0, .int .u64 0, .int .u8 29, .int .i64 0, .int .u64 0, .int .u8 24, .int .i64 0, .int .u64 0]),
  (8, 0, [.int .u64 1, .int .u64 18446744073709551614]),
  (10, 0, [.int .u8 1]),
  (13, 3, [.int .u8 27, .int .i64 0, .int .u64 0, .int .u8 29, .int .i64 0, .int .u64 0, .int .u8 29, .int .i64 0, .int .u64 0, .int .u8 24, .int .i64 0, .int .u64 0]),
  (17, 0, [.int .i64 0, .ref 10 0 0 1 none, .bool false, .int .i64 (-1), .ref 7 1 0 5 (some 3), .int .i64 0, .nils, .bool false, .int .i64 (-1), .ref 13 3 0 4 (some 3)]),
  (19, 0, [.ref 17 0 0 2 (some 5)]),
  (20, 0, [.nils, .int .i64 0]),
  (21, 0, [.int .i64 1, .int .u64 0]),
  (23, 0, [.nils, .nils, .nils]),
  (68, 0, [.nils, .nils, .nils]),
  (310, 16, [.int .u8 1, .int .u8 0, .int .u8 1, .int .u8 0, .int .u8 1, .int .u8 0, .int .u8 1, .int .u8 0, .int .u8 1, .int .u8 0, .int .u8 1, .int .u8 0, .int .u8 1, .int .u8 0, .int .u8 1, .int .u8 0, .int .u8 1, .int .u8 0, .int .u8 1, .int .u8 0, .int .u8 1, .int .u8 0, .int .u8 1, .int .u8 0, .int .u8 1, .int .u8 0, .int .u8 1, .int .u8 0, .int .u8 1, .int .u8 0, .int .u8 1, .int .u8 0, .int .u8 1]),
  (335, 4, [.int .u8 13, .int .u8 0, .int .i64 0, .int .i64 0, .int .i64 0, .int .i64 0, .int .i64 1, .int .i64 0, .int .u64 0, .nils, .int .i64 1, .int .i64 0, .int .u8 2, .int .u8 0, .int .i64 2, .int .i64 0, .int .i64 0, .int .i64 0, .int .i64 0, .int .i64 0, .int .u64 0, .nils, .int .i64 2, .int .i64 0, .int .u8 7, .int .u8 0, .int .i64 1, .int .i64 0, .int .i64 2, .int .i64 0, .int .i64 0, .int .i64 0, .int .u64 0, .nils, .int .i64 3, .int .i64 0, .int .u8 17, .int .u8 0, .int .i64 0, .int .i64 0, .int .i64 1, .int .i64 0, .int .i64 0, .int .i64 0, .int .u64 0, .nils, .int .i64 4, .int .i64 0, .int .u8 12, .int .u8 0, .int .i64 0, .int .i64 0, .int .i64 (-1), .int .i64 0, .int .i64 0, .int .i64 0, .int .u64 0, .nils, .int .i64 4, .int .i64 0]),
  (370, 1, [.nils, .ref 310 16 0 33 none, .int .i64 0, .nils, .bool false, .int .i64 (-1), .ref 335 4 0 5 (some 12), .int .i64 0, .nils, .ref 375 15 0 32 none, .int .i64 0, .nils, .bool false, .int .i64 (-1), .ref 399 3 0 4 (some 12), .int .i64 0]),
  (375, 15, [.int .u8 0, .int .u8 1, .int .u8 0, .int .u8 1, .int .u8 0, .int .u8 1, .int .u8 0, .int .u8 1, .int .u8 0, .int .u8 1, .int .u8 0, .int .u8 1, .int .u8 0, .int .u8 1, .int .u8 0, .int .u8 1, .int .u8 0, .int .u8 1, .int .u8 0, .int .u8 1, .int .u8 0, .int .u8 1, .int .u8 0, .int .u8 1, .int .u8 0, .int .u8 1, .int .u8 0, .int .u8 1, .int .u8 0, .int .u8 1, .int .u8 0, .int .u8 1]),
  (399, 3, [.int .u8 15, .int .u8 0, .int .i64 0, .int .i64 2, .int .i64 0, .int .i64 0, .int .i64 0, .int .i64 0, .int .u64 0, .nils, .int .i64 1, .int .i64 0, .int .u8 17, .int .u8 0, .int .i64 0, .int .i64 0, .int .i64 2, .int .i64 0, .int .i64 0, .int .i64 0, .int .u64 0, .nils, .int .i64 2, .int .i64 0, .int .u8 17, .int .u8 0, .int .i64 0, .int .i64 0, .int .i64 0, .int .i64 0, .int .i64 0, .int .i64 0, .int .u64 0, .nils, .int .i64 3, .int .i64 0, .int .u8 12, .int .u8 0, .int .i64 0, .int .i64 0, .int .i64 (-1), .int .i64 0, .int .i64 0, .int .i64 0, .int .u64 0, .nils, .int .i64 3, .int .i64 0]),
  (479, 0, [.int .i64 1, .int .i64 2, .int .i64 3, .int .i64 4, .int .i64 5]),
  (940, 0, [.int .i64 16, .int .i64 1, .int .i64 0, .int .i64 (-1), .int .i64 (-1), .int .i64 (-1), .int .i64 (-1), .int .i64 (-1), .int .i64 (-1), .int .i64 (-1), .int .i64 (-1), .int .i64 (-1), .int .i64 (-1), .int .i64 (-1), .int .i64 (-1), .int .i64 (-1), .int .i64 (-1), .int .i64 (-1), .int .i64 (-1), .int .i64 (-1), .int .i64 (-1), .int .i64 (-1), .int .i64 (-1), .int .i64 (-1), .int .i64 (-1), .int .i64 (-1), .int .i64 (-1), .int .i64 (-1), .int .i64 (-1), .int .i64 (-1), .int .i64 (-1), .int .i64 (-1), .int .i64 (-1)]),
  (1329, 1, [.int .u8 0, .int .u8 0, .int .u8 0, .int .u8 0, .int .u8 0, .int .u8 0, .int .u8 0, .int .u8 0, .int .u8 0, .int .u8 0, .int .u8 0, .int .u8 0, .int .u8 0, .int .u8 0, .int .u8 0, .int .u8 0, .int .u8 1]),
  (1335, 5, [.int .u8 10, .int .u8 0, .int .i64 0, .int .i64 0, .int .i64 0, .int .i64 0, .int .i64 0, .int .i64 0, .int .u64 0, .nils, .int .i64 1, .int .i64 0, .int .u8 13, .int .u8 0, .int .i64 (-1), .int .i64 0, .int .i64 0, .int .i64 0, .int .i64 1, .int .i64 0, .int .u64 0, .nils, .int .i64 2, .int .i64 0, .int .u8 2, .int .u8 0, .int .i64 0, .int .i64 (-1), .int .i64 16, .int .i64 0, .int .i64 0, .int .i64 0, .int .u64 0, .nils, .int .i64 3, .int .i64 0, .int .u8 7, .int .u8 0, .int .i64 1, .int .i64 (-1), .int .i64 0, .int .i64 0, .int .i64 0, .int .i64 0, .int .u64 0, .nils, .int .i64 4, .int .i64 0, .int .u8 17, .int .u8 0, .int .i64 (-1), .int .i64 (-1), .int .i64 1, .int .i64 0, .int .i64 0, .int .i64 0, .int .u64 0, .nils, .int .i64 5, .int .i64 0, .int .u8 12, .int .u8 0, .int .i64 (-1), .int .i64 (-1), .int .i64 (-1), .int .i64 0, .int .i64 0, .int .i64 0, .int .u64 0, .nils, .int .i64 0, .int .i64 0]),
  (1413, 1, [.nils, .ref 1329 1 0 17 none, .int .i64 0, .nils, .bool false, .int .i64 (-1), .ref 1335 5 0 6 (some 12), .int .i64 0, .nils, .ref 2128 0 0 16 none, .int .i64 0, .nils, .bool false, .int .i64 (-1), .ref 2133 4 0 5 (some 12), .int .i64 0]),
  (1415, 1, [.ref 940 0 0 33 none, .ref 1810 0 0 32 none]),
  (1417, 1, [.ref 479 0 0 5 none, .ref 1418 0 0 4 none]),
  (1418, 0, [.int .i64 1, .int .i64 2, .int .i64 3, .int .i64 4]),
  (1810, 0, [.int .i64 0, .int .i64 (-1), .int .i64 1, .int .i64 (-1), .int .i64 (-1), .int .i64 (-1), .int .i64 (-1), .int .i64 (-1), .int .i64 (-1), .int .i64 (-1), .int .i64 (-1), .int .i64 (-1), .int .i64 (-1), .int .i64 (-1), .int .i64 (-1), .int .i64 (-1), .int .i64 (-1), .int .i64 (-1), .int .i64 (-1), .int .i64 (-1), .int .i64 (-1), .int .i64 (-1), .int .i64 (-1), .int .i64 (-1), .int .i64 (-1), .int .i64 (-1), .int .i64 (-1), .int .i64 (-1), .int .i64 (-1), .int .i64 (-1), .int .i64 (-1), .int .i64 (-1)]),
  (2128, 0, [.int .u8 0, .int .u8 0, .int .u8 0, .int .u8 0, .int .u8 0, .int .u8 0, .int .u8 0, .int .u8 0, .int .u8 0, .int .u8 0, .int .u8 0, .int .u8 0, .int .u8 0, .int .u8 0, .int .u8 0, .int .u8 0]),
  (2133, 4, [.int .u8 10, .int .u8 0, .int .i64 0, .int .i64 0, .int .i64 0, .int .i64 0, .int .i64 0, .int .i64 0, .int .u64 0, .nils, .int .i64 1, .int .i64 0, .int .u8 15, .int .u8 0, .int .i64 0, .int .i64 1, .int .i64 (-1), .int .i64 0, .int .i64 0, .int .i64 0, .int .u64 0, .nils, .int .i64 2, .int .i64 0, .int .u8 17, .int .u8 0, .int .i64 (-1), .int .i64 (-1), .int .i64 1, .int .i64 0, .int .i64 0, .int .i64 0, .int .u64 0, .nils, .int .i64 3, .int .i64 0, .int .u8 17, .int .u8 0, .int .i64 (-1), .int .i64 (-1), .int .i64 0, .int .i64 0, .int .i64 0, .int .i64 0, .int .u64 0, .nils, .int .i64 4, .int .i64 0, .int .u8 12, .int .u8 0, .int .i64 (-1), .int .i64 (-1), .int .i64 (-1), .int .i64 0, .int .i64 0, .int .i64 0, .int .u64 0, .nils, .int .i64 0, .int .i64 0]),
  (2252, 0, [.ref 1413 1 0 2 (some 8)])],
  [],
  .int .i64 0, 3475,
  [(7, 1, [.int .u8 25, .int .i64 1, .int .u64 0, .int .u8 2, .int .i64 0, .int .u64 0, .int .u8 5, .int .i64 0, .int .u64 0, .int .u8 29, .int .i64 0, .int .u64 0, .int .u8 24, .int .i64 0, .int .u64 0]),
  (8, 0, [.int .u64 1, .int .u64 18446744073709551614]),
  (10, 0, [.int .u8 1]),
  (13, 3, [.int .u8 27, .int .i64 0, .int .u64 0, .int .u8 29, .int .i64 0, .int .u64 0, .int .u8 29, .int .i64 0, .int .u64 0, .int .u8 24, .int .i64 0, .int .u64 0]),
  (17, 0, [.int .i64 0, .ref 10 0 0 1 none, .bool false, .int .i64 (-1), .ref 7 1 0 5 (some 3), .int .i64 0, .nils, .bool false, .int .i64 (-1), .ref 13 3 0 4 (some 3)]),
  (19, 0, [.ref 17 0 0 2 (some 5)]),
  (20, 0, [.nils, .int .i64 0]),
  (21, 0, [.int .i64 1, .int .u64 0]),
  (23, 0, [.nils, .nils, .nils]),
  (68, 0, [.nils, .nils, .nils]),
  (1329, 1, [.int .u8 0, .int .u8 0, .int .u8 0, .int .u8 0, .int .u8 0, .int .u8 0, .int .u8 0, .int .u8 0, .int .u8 0, .int .u8 0, .int .u8 0, .int .u8 0, .int .u8 0, .int .u8 0, .int .u8 0, .int .u8 0, .int .u8 1]),
  (1335, 5, [.int .u8 10, .int .u8 0, .int .i64 0, .int .i64 0, .int .i64 0, .int .i64 0, .int .i64 0, .int .i64 0, .int .u64 0, .nils, .int .i64 1, .int .i64 0, .int .u8 13, .int .u8 0, .int .i64 (-1), .int .i64 0, .int .i64 0, .int .i64 0, .int .i64 1, .int .i64 0, .int .u64 0, .nils, .int .i64 2, .int .i64 0, .int .u8 2, .int .u8 0, .int .i64 0, .int .i64 (-1), .int .i64 16, .int .i64 0, .int .i64 0, .int .i64 0, .int .u64 0, .nils, .int .i64 3, .int .i64 0, .int .u8 7, .int .u8 0, .int .i64 1, .int .i64 (-1), .int .i64 0, .int .i64 0, .int .i64 0, .int .i64 0, .int .u64 0, .nils, .int .i64 4, .int .i64 0, .int .u8 17, .int .u8 0, .int .i64 (-1), .int .i64 (-1), .int .i64 1, .int .i64 0, .int .i64 0, .int .i64 0, .int .u64 0, .nils, .int .i64 5, .int .i64 0, .int .u8 12, .int .u8 0, .int .i64 (-1), .int .i64 (-1), .int .i64 (-1), .int .i64 0, .int .i64 0, .int .i64 0, .int .u64 0, .nils, .int .i64 0, .int .i64 0]),
  (1413, 1, [.nils, .ref 1329 1 0 17 none, .int .i64 0, .nils, .bool false, .int .i64 (-1), .ref 1335 5 0 6 (some 12), .int .i64 0, .nils, .ref 2128 0 0 16 none, .int .i64 0, .nils, .bool false, .int .i64 (-1), .ref 2133 4 0 5 (some 12), .int .i64 0]),
  (2128, 0, [.int .u8 0, .int .u8 0, .int .u8 0, .int .u8 0, .int .u8 0, .int .u8 0, .int .u8 0, .int .u8 0, .int .u8 0, .int .u8 0, .int .u8 0, .int .u8 0, .int .u8 0, .int .u8 0, .int .u8 0, .int .u8 0]),
  (2133, 4, [.int .u8 10, .int .u8 0, .int .i64 0, .int .i64 0, .int .i64 0, .int .i64 0, .int .i64 0, .int .i64 0, .int .u64 0, .nils, .int .i64 1, .int .i64 0, .int .u8 15, .int .u8 0, .int .i64 0, .int .i64 1, .int .i64 (-1), .int .i64 0, .int .i64 0, .int .i64 0, .int .u64 0, .nils, .int .i64 2, .int .i64 0, .int .u8 17, .int .u8 0, .int .i64 (-1), .int .i64 (-1), .int .i64 1, .int .i64 0, .int .i64 0, .int .i64 0, .int .u64 0, .nils, .int .i64 3, .int .i64 0, .int .u8 17, .int .u8 0, .int .i64 (-1), .int .i64 (-1), .int .i64 0, .int .i64 0, .int .i64 0, .int .i64 0, .int .u64 0, .nils, .int .i64 4, .int .i64 0, .int .u8 12, .int .u8 0, .int .i64 (-1), .int .i64 (-1), .int .i64 (-1), .int .i64 0, .int .i64 0, .int .i64 0, .int .u64 0, .nils, .int .i64 0, .int .i64 0]),
  (2252, 0, [.ref 1413 1 0 2 (some 8)])],
  [] ⟩
theorem nc3_e : chkM fs0 (runR Tryz.prog pvZ (codeT tabL) (ovA ovL []) 200) nc3 = true := by kernel_rfl
theorem nc3_ok : MemoOK Tryz.prog fs0 nc3 := chkM_ok (run_ok (ms := []) trivial) nc3_e
end Go.Proofs.YtklmiejnopdabaaGreatDoor
/- One case: known calls, evaluated by the kernel. Printed by a program. -/
namespace Go.Proofs.YtklmiejnopdabaaGreatDoor
set_option linter.constructorNameAsVariable false
set_option linter.unusedSimpArgs false
set_option linter.unusedVariables false
open Go Go.Ab Go.RowKit
set_option maxRecDepth 100000
set_option linter.unusedVariables false
def nc4 : Memo := ⟨ 41, [.agg [.ref 1413 1 0 2 (some 8)]], 3475,
  [(7, 1, [.int .u8 25, .int .i64 1, .int .u64 0, .int .u8 2, .int .i64 0, .int .u64 0, .int .u8 5, .int .i64 0, .int .u64 0, .int .u8 29, .int .i64 0, .int .u64 0, .int .u8 24, .int .i64 0, .int .u64 0]),
  (8, 0, [.int .u64 1, .int .u64 18446744073709551614]),
  (10, 0, [.int .u8 1]),
  (13, 3, [.int .u8 27, .int .i64 0, .int .u64 0, .int .u8 29, .int .i64 0, .int .u64 0, .int .u8 29, .int .i64 0, .int .u64 0, .int .u8 24, .int .i64 0, .int .u64 0]),
  (17, 0, [.int .i64 0, .ref 10 0 0 1 none, .bool false, .int .i64 (-1), .ref 7 1 0 5 (some 3), .int .i64 0, .nils, .bool false, .int .i64 (-1), .ref 13 3 0 4 (some 3)]),
  (19, 0, [.ref 17 0 0 2 (some 5)]),
  (20, 0, [.nils, .int .i64 0]),
  (21, 0, [.int .i64 1, .int .u64 0]),
  (23, 0, [.nils, .nils, .nils]),
  (68, 0, [.nils, .nils, .nils]),
  (1329, 1, [.int .u8 0, .int .u8 0, .int .u8 0, .int .u8 0, .int .u8 0, .int .u8 0, .int .u8 0, .int .u8 0, .int .u8 0, .int .u8 0, .int .u8 0, .int .u8 0, .int .u8 0, .int .u8 0, .int .u8 0, .int .u8 0, .int .u8 1]),
  (1335, 5, [.int .u8 10, .int .u8 0, .int .i64 0, .int .i64 0, .int .i64 0, .int .i64 0, .int .i64 0, .int .i64 0, .int .u64 0, .nils, .int .i64 1, .int .i64 0, .int .u8 13, .int .u8 0, .int .i64 (-1), .int .i64 0, .int .i64 0, .int .i64 0, .int .i64 1, .int .i64 0, .int .u64 0, .nils, .int .i64 2, .int .i64 0, .int .u8 2, .int .u8 0, .int .i64 0, .int .i64 (-1), .int .i64 16, .int .i64 0, .int .i64 0, .int .i64 0, .int .u64 0, .nils, .int .i64 3, .int .i64 0, .int .u8 7, .int .u8 0, .int .i64 1, .int .i64 (-1), .int .i64 0, .int .i64 0, .int .i64 0, .int .i64 0, .int .u64 0, .nils, .int .i64 4, .int .i64 0, .int .u8 17, .int .u8 0, .int .i64 (-1), .int .i64 (-1), .int .i64 1, .int .i64 0, .int .i64 0, .int .i64 0, .int .u64 0, .nils, .int .i64 5, .int .i64 0, .int .u8 12, .int .u8 0, .int .i64 (-1), .int .i64 (-1), .int .i64 (-1), .int .i64 0, .int .i64 0, .int .i64 0, .int .u64 0, .nils, .int .i64 0, .int .i64 0]),
  (1413, 1, [.nils, .ref 1329 1 0 17 none, .int .i64 0, .nils, .bool false, .int .i64 (-1), .ref 1335 5 0 6 (some 12), .int .i64 0, .nils, .ref 2128 0 0 16 none, .int .i64 0, .nils, .bool false, .int .i64 (-1), .ref 2133 4 0 5 (some 12), .int .i64 0]),
  (2128, 0, [.int .u8 0, .int .u8 0, .int .u8 0, .int .u8 0, .int .u8 0, .int .u8 0, .int .u8 0, .int .u8 0, .int .u8 0, .int .u8 0, .int .u8 0, .int .u8 0, .int .u8 0, .int .u8 0, .int .u8 0, .int .u8 0]),
  (2133, 4, [.int .u8 10, .int .u8 0, .int .i64 0, .int .i64 0, .int .i64 0, .int .i64 0, .int .i64 0, .int .i64 0, .int .u64 0, .nils, .int .i64 1, .int .i64 0, .int .u8 15, .int .u8 0, .int .i64 0, .int .i64 1, .int .i64 (-1), .int .i64 0, .int .i64 0, .int .i64 0, .int .u64 0, .nils, .int .i64 2, .int .i64 0, .int .u8 17, .int .u8 0, .int .i64 (-1), .int .i64 (-1), .int .i64 1, .int .i64 0, .int .i64 0, .int .i64 0, .int .u64 0, .nils, .int .i64 3, .int .i64 0, .int .u8 17, .int .u8 0, .int .i64 (-1), .int .i64 (-1), .int .i64 0, .int .i64 0, .int .i64 0, .int .i64 0, .int .u64 0, .nils, .int .i64 4, .int .i64 0, .int .u8 12, .int .u8 0, .int .i64 (-1), .int .i64 (-1), .int .i64 (-1), .int .i64 0, .int .i64 0, .int .i64 0, .int .u64 0, .nils, .int .i64 0, .int .i64 0])],
  [],
  .tup [.agg [.ref 4209 23 0 192 none, .ref 3996 1 0 2 (some 6), .nils], .int .i64 0], 4302,
  [(7, 1, [.int .u8 25, .int .i64 1, .int .u64 0, .int .u8 2, .int .i64 0, .int .u64 0, .int .u8 5, .int .i64 0, .int .u64 0, .int .u8 29, .int .i64 0, .int .u64 0, .int .u8 24, .int .i64 0, .int .u64 0]),
  (8, 0, [.int .u64 1, .int .u64 18446744073709551614]),
  (10, 0, [.int .u8 1]),
  (13, 3, [.int .u8 27, .int .i64 0, .int .u64 0, .int .u8 29, .int .i64 0, .int .u64 0, .int .u8 29, .int .i64 0, .int .u64 0, .int .u8 24, .int .i64 0, .int .u64 0]),
  (17, 0, [.int .i64 0, .ref 10 0 0 1 none, .bool false, .int .i64 (-1), .ref 7 1 0 5 (some 3), .int .i64 0, .nils, .bool false, .int .i64 (-1), .ref 13 3 0 4 (some 3)]),
  (19, 0, [.ref 17 0 0 2 (some 5)]),
  (20, 0, [.nils, .int .i64 0]),
  (21, 0, [.int .i64 1, .int .u64 0]),
  (23, 0, [.nils, .nils, .nils]),
  (68, 0, [.nils, .nils, .nils]),
  (3996, 1, [.int .i64 2, .int .i64 17, .int .i64 8, .nils, .nils, .int .i64 14, .int .i64 17, .int .i64 24, .int .i64 0, .nils, .nils, .int .i64 (-1)]),
  (4209, 23, [.int .u8 13, .int .u8 0, .int .u8 0, .int .u8 0, .int .u8 0, .int .u8 0, .int .u8 0, .int .u8 0, .int .u8 13, .int .u8 0, .int .u8 0, .int .u8 0, .int .u8 1, .int .u8 0, .int .u8 0, .int .u8 0, .int .u8 11, .int .u8 0, .int .u8 0, .int .u8 0, .int .u8 8, .int .u8 0, .int .u8 0, .int .u8 0, .int .u8 1, .int .u8 13, .int .u8 0, .int .u8 0, .int .u8 0, .int .u8 0, .int .u8 0, .int .u8 0, .int .u8 5, .int .u8 0, .int .u8 14, .int .u8 13, .int .u8 0, .int .u8 0, .int .u8 0, .int .u8 0, .int .u8 13, .int .u8 0, .int .u8 0, .int .u8 0, .int .u8 7, .int .u8 1, .int .u8 0, .int .u8 0, .int .u8 4, .int .u8 0, .int .u8 14, .int .u8 0, .int .u8 0, .int .u8 0, .int .u8 0, .int .u8 0, .int .u8 8, .int .u8 0, .int .u8 0, .int .u8 0, .int .u8 15, .int .u8 0, .int .u8 0, .int .u8 0, .int .u8 4, .int .u8 1, .int .u8 0, .int .u8 0, .int .u8 0, .int .u8 0, .int .u8 0, .int .u8 0, .int .u8 13, .int .u8 0, .int .u8 1, .int .u8 0, .int .u8 2, .int .u8 0, .int .u8 0, .int .u8 0, .int .u8 7, .int .u8 0, .int .u8 0, .int .u8 0, .int .u8 11, .int .u8 0, .int .u8 0, .int .u8 0, .int .u8 13, .int .u8 0, .int .u8 0, .int .u8 0, .int .u8 8, .int .u8 0, .int .u8 0, .int .u8 0, .int .u8 12, .int .u8 0, .int .u8 0, .int .u8 0, .int .u8 8, .int .u8 0, .int .u8 0, .int .u8 0, .int .u8 10, .int .u8 0, .int .u8 0, .int .u8 0, .int .u8 0, .int .u8 0, .int .u8 0, .int .u8 0, .int .u8 7, .int .u8 0, .int .u8 0, .int .u8 0, .int .u8 11, .int .u8 0, .int .u8 0, .int .u8 0, .int .u8 1, .int .u8 13, .int .u8 0, .int .u8 0, .int .u8 254, .int .u8 255, .int .u8 255, .int .u8 255, .int .u8 13, .int .u8 0, .int .u8 13, .int .u8 0, .int .u8 5, .int .u8 0, .int .u8 0, .int .u8 0, .int .u8 11, .int .u8 0, .int .u8 0, .int .u8 0, .int .u8 0, .int .u8 0, .int .u8 0, .int .u8 0, .int .u8 13, .int .u8 0, .int .u8 0, .int .u8 1, .int .u8 6, .int .u8 0, .int .u8 0, .int .u8 0, .int .u8 13, .int .u8 0, .int .u8 1, .int .u8 0, .int .u8 2, .int .u8 0, .int .u8 0, .int .u8 0, .int .u8 13, .int .u8 0, .int .u8 0, .int .u8 0, .int .u8 2, .int .u8 0, .int .u8 0, .int .u8 0, .int .u8 7, .int .u8 0, .int .u8 0, .int .u8 0, .int .u8 22, .int .u8 0, .int .u8 0, .int .u8 0, .int .u8 12, .int .u8 0, .int .u8 0, .int .u8 0, .int .u8 0, .int .u8 0, .int .u8 0, .int .u8 0, .int .u8 10, .int .u8 0, .int .u8 0, .int .u8 0, .int .u8 0, .int .u8 0, .int .u8 0, .int .u8 0])],
  [] ⟩
theorem nc4_e : chkM fs0 (runR Tryz.prog pvZ (codeT tabL) (ovA ovL []) 200) nc4 = true := by kernel_rfl
theorem nc4_ok : MemoOK Tryz.prog fs0 nc4 := chkM_ok (run_ok (ms := []) trivial) nc4_e
end Go.Proofs.YtklmiejnopdabaaGreatDoor
