/- One case: known calls, evaluated by the kernel. Printed by a program. -/
import Derived.Test.YtklmiejnopdabaaGreatDoorWh_nc4
import Derived.Test.YtklmiejnopdabaaGreatDoorWhH
namespace Go.Proofs.YtklmiejnopdabaaGreatDoor
set_option linter.constructorNameAsVariable false
set_option linter.unusedSimpArgs false
set_option linter.unusedVariables false
open Go Go.Ab Go.RowKit
set_option maxRecDepth 100000
set_option linter.unusedVariables false
def nc5 : Memo := ⟨ 21, [.ref 25 20 0 27 none], 68,
  [(7, 1, [.int .u8 25, .int .i64 1, .int .u64 0, .int .u8 2, .int .i64 0, .int .u64 0, .int .u8 5, .int .i64 0, .int .u64 0, .int .u8 29, .int .i64 0, .int .u64 0, .int .u8 24, .int .i64 0, .int .u64 0]),
  (8, 0, [.int .u64 1, .int .u64 18446744073709551614]),
  (10, 0, [.int .u8 1]),
  (13, 3, [.int .u8 27, .int .i64 0, .int .u64 0, .int .u8 29, .int .i64 0, .int .u64 0, .int .u8 29, .int .i64 0, .int .u64 0, .int .u8 24, .int .i64 0, .int .u64 0]),
  (17, 0, [.int .i64 0, .ref 10 0 0 1 none, .bool false, .int .i64 (-1), .ref 7 1 0 5 (some 3), .int .i64 0, .nils, .bool false, .int .i64 (-1), .ref 13 3 0 4 (some 3)]),
  (19, 0, [.ref 17 0 0 2 (some 5)]),
  (20, 0, [.nils, .int .i64 0]),
  (21, 0, [.int .i64 1, .int .u64 0]),
  (23, 0, [.nils, .nils, .nils]),
  (25, 20, [.int .u8 87, .int .u8 76, .int .u8 2, .int .u8 0, .int .u8 1, .int .u8 1, .int .u8 0, .int .u8 255, .int .u8 5, .int .u8 0, .int .u8 25, .int .u8 1, .int .u8 2, .int .u8 0, .int .u8 5, .int .u8 29, .int .u8 24, .int .u8 0, .int .u8 0, .int .u8 0, .int .u8 255, .int .u8 4, .int .u8 0, .int .u8 27, .int .u8 29, .int .u8 29, .int .u8 24])],
  [],
  .tup [.agg [.ref 4209 23 0 192 none, .ref 3996 1 0 2 (some 6), .nils], .int .i64 0], 4302,
  [(7, 1, [.int .u8 25, .int .i64 1, .int .u64 0, .int .u8 2, .int .i64 0, .int .u64 0, .int .u8 5, .int .i64 0, .int .u64 0, .int .u8 29, .int .i64 0, .int .u64 0, .int .u8 24, .int .i64 0, .int .u64 0]),
  (8, 0, [.int .u64 1, .int .u64 18446744073709551614]),
  (10, 0, [.int .u8 1]),
  (13, 3, [.int .u8 27, .int .i64 0, .int .u64 0, .int .u8 29, .int .i64 0, .int .u64 0, .int .u8 29, .int .i64 0, .int .u64 0, .int .u8 24, .int .i64 0, .int .u64 0]),
  (17, 0, [.int .i64 0, .ref 10 0 0 1 none, .bool false, .int .i64 (-1), .ref 7 1 0 5 (some 3), .int .i64 0, .nils, .bool false, .int .i64 (-1), .ref 13 3 0 4 (some 3)]),
  (19, 0, [.ref 17 0 0 2 (some 5)]),
  (20, 0, [.nils, .int .i64 0]),
  (21, 0, [.int .i64 1, .int .u64 0]),
  (23, 0, [.nils, .nils, .nils]),
  (3996, 1, [.int .i64 2, .int .i64 17, .int .i64 8, .nils, .nils, .int .i64 14, .int .i64 17, .int .i64 24, .int .i64 0, .nils, .nils, .int .i64 (-1)]),
  (4209, 23, [.int .u8 13, .int .u8 0, .int .u8 0, .int .u8 0, .int .u8 0, .int .u8 0, .int .u8 0, .int .u8 0, .int .u8 13, .int .u8 0, .int .u8 0, .int .u8 0, .int .u8 1, .int .u8 0, .int .u8 0, .int .u8 0, .int .u8 11, .int .u8 0, .int .u8 0, .int .u8 0, .int .u8 8, .int .u8 0, .int .u8 0, .int .u8 0, .int .u8 1, .int .u8 13, .int .u8 0, .int .u8 0, .int .u8 0, .int .u8 0, .int .u8 0, .int .u8 0, .int .u8 5, .int .u8 0, .int .u8 14, .int .u8 13, .int .u8 0, .int .u8 0, .int .u8 0, .int .u8 0, .int .u8 13, .int .u8 0, .int .u8 0, .int .u8 0, .int .u8 7, .int .u8 1, .int .u8 0, .int .u8 0, .int .u8 4, .int .u8 0, .int .u8 14, .int .u8 0, .int .u8 0, .int .u8 0, .int .u8 0, .int .u8 0, .int .u8 8, .int .u8 0, .int .u8 0, .int .u8 0, .int .u8 15, .int .u8 0, .int .u8 0, .int .u8 0, .int .u8 4, .int .u8 1, .int .u8 0, .int .u8 0, .int .u8 0, .int .u8 0, .int .u8 0, .int .u8 0, .int .u8 13, .int .u8 0, .int .u8 1, .int .u8 0, .int .u8 2, .int .u8 0, .int .u8 0, .int .u8 0, .int .u8 7, .int .u8 0, .int .u8 0, .int .u8 0, .int .u8 11, .int .u8 0, .int .u8 0, .int .u8 0, .int .u8 13, .int .u8 0, .int .u8 0, .int .u8 0, .int .u8 8, .int .u8 0, .int .u8 0, .int .u8 0, .int .u8 12, .int .u8 0, .int .u8 0, .int .u8 0, .int .u8 8, .int .u8 0, .int .u8 0, .int .u8 0, .int .u8 10, .int .u8 0, .int .u8 0, .int .u8 0, .int .u8 0, .int .u8 0, .int .u8 0, .int .u8 0, .int .u8 7, .int .u8 0, .int .u8 0, .int .u8 0, .int .u8 11, .int .u8 0, .int .u8 0, .int .u8 0, .int .u8 1, .int .u8 13, .int .u8 0, .int .u8 0, .int .u8 254, .int .u8 255, .int .u8 255, .int .u8 255, .int .u8 13, .int .u8 0, .int .u8 13, .int .u8 0, .int .u8 5, .int .u8 0, .int .u8 0, .int .u8 0, .int .u8 11, .int .u8 0, .int .u8 0, .int .u8 0, .int .u8 0, .int .u8 0, .int .u8 0, .int .u8 0, .int .u8 13, .int .u8 0, .int .u8 0, .int .u8 1, .int .u8 6, .int .u8 0, .int .u8 0, .int .u8 0, .int .u8 13, .int .u8 0, .int .u8 1, .int .u8 0, .int .u8 2, .int .u8 0, .int .u8 0, .int .u8 0, .int .u8 13, .int .u8 0, .int .u8 0, .int .u8 0, .int .u8 2, .int .u8 0, .int .u8 0, .int .u8 0, .int .u8 7, .int .u8 0, .int .u8 0, .int .u8 0, .int .u8 22, .int .u8 0, .int .u8 0, .int .u8 0, .int .u8 12, .int .u8 0, .int .u8 0, .int .u8 0, .int .u8 0, .int .u8 0, .int .u8 0, .int .u8 0, .int .u8 10, .int .u8 0, .int .u8 0, .int .u8 0, .int .u8 0, .int .u8 0, .int .u8 0, .int .u8 0])],
  [] ⟩
theorem nc5_e : chkM fs0 (runR Tryz.prog pvZ (codeT tabL) (ovA ovL [nc2, nc3, nc4]) 200) nc5 = true := by kernel_rfl
theorem nc5_ok : MemoOK Tryz.prog fs0 nc5 := chkM_ok (run_ok (ms := [nc2, nc3, nc4]) ⟨nc2_ok, nc3_ok, nc4_ok, trivial⟩) nc5_e
end Go.Proofs.YtklmiejnopdabaaGreatDoor
/- One case: known calls, evaluated by the kernel. Printed by a program. -/
namespace Go.Proofs.YtklmiejnopdabaaGreatDoor
set_option linter.constructorNameAsVariable false
set_option linter.unusedSimpArgs false
set_option linter.unusedVariables false
open Go Go.Ab Go.RowKit
set_option maxRecDepth 100000
set_option linter.unusedVariables false
def nc6 : Memo := ⟨ 17, [.agg [.ref 17 0 0 2 (some 5)], .nils, .int .i64 1048576], 4304,
  [(7, 1, [.int .u8 25, .int .i64 1, .int .u64 0, .int .u8 2, .int .i64 0, .int .u64 0, .int .u8 5, .int .i64 0, .int .u64 0, .int .u8 29, .int .i64 0, .int .u64 0, .int .u8 24, .int .i64 0, .int .u64 0]),
  (8, 0, [.int .u64 1, .int .u64 18446744073709551614]),
  (10, 0, [.int .u8 1]),
  (13, 3, [.int .u8 27, .int .i64 0, .int .u64 0, .int .u8 29, .int .i64 0, .int .u64 0, .int .u8 29, .int .i64 0, .int .u64 0, .int .u8 24, .int .i64 0, .int .u64 0]),
  (17, 0, [.int .i64 0, .ref 10 0 0 1 none, .bool false, .int .i64 (-1), .ref 7 1 0 5 (some 3), .int .i64 0, .nils, .bool false, .int .i64 (-1), .ref 13 3 0 4 (some 3)]),
  (20, 0, [.nils, .int .i64 0]),
  (21, 0, [.int .i64 1, .int .u64 0]),
  (3996, 1, [.int .i64 2, .int .i64 17, .int .i64 8, .nils, .nils, .int .i64 14, .int .i64 17, .int .i64 24, .int .i64 0, .nils, .nils, .int .i64 (-1)]),
  (4209, 23, [.int .u8 13, .int .u8 0, .int .u8 0, .int .u8 0, .int .u8 0, .int .u8 0, .int .u8 0, .int .u8 0, .int .u8 13, .int .u8 0, .int .u8 0, .int .u8 0, .int .u8 1, .int .u8 0, .int .u8 0, .int .u8 0, .int .u8 11, .int .u8 0, .int .u8 0, .int .u8 0, .int .u8 8, .int .u8 0, .int .u8 0, .int .u8 0, .int .u8 1, .int .u8 13, .int .u8 0, .int .u8 0, .int .u8 0, .int .u8 0, .int .u8 0, .int .u8 0, .int .u8 5, .int .u8 0, .int .u8 14, .int .u8 13, .int .u8 0, .int .u8 0, .int .u8 0, .int .u8 0, .int .u8 13, .int .u8 0, .int .u8 0, .int .u8 0, .int .u8 7, .int .u8 1, .int .u8 0, .int .u8 0, .int .u8 4, .int .u8 0, .int .u8 14, .int .u8 0, .int .u8 0, .int .u8 0, .int .u8 0, .int .u8 0, .int .u8 8, .int .u8 0, .int .u8 0, .int .u8 0, .int .u8 15, .int .u8 0, .int .u8 0, .int .u8 0, .int .u8 4, .int .u8 1, .int .u8 0, .int .u8 0, .int .u8 0, .int .u8 0, .int .u8 0, .int .u8 0, .int .u8 13, .int .u8 0, .int .u8 1, .int .u8 0, .int .u8 2, .int .u8 0, .int .u8 0, .int .u8 0, .int .u8 7, .int .u8 0, .int .u8 0, .int .u8 0, .int .u8 11, .int .u8 0, .int .u8 0, .int .u8 0, .int .u8 13, .int .u8 0, .int .u8 0, .int .u8 0, .int .u8 8, .int .u8 0, .int .u8 0, .int .u8 0, .int .u8 12, .int .u8 0, .int .u8 0, .int .u8 0, .int .u8 8, .int .u8 0, .int .u8 0, .int .u8 0, .int .u8 10, .int .u8 0, .int .u8 0, .int .u8 0, .int .u8 0, .int .u8 0, .int .u8 0, .int .u8 0, .int .u8 7, .int .u8 0, .int .u8 0, .int .u8 0, .int .u8 11, .int .u8 0, .int .u8 0, .int .u8 0, .int .u8 1, .int .u8 13, .int .u8 0, .int .u8 0, .int .u8 254, .int .u8 255, .int .u8 255, .int .u8 255, .int .u8 13, .int .u8 0, .int .u8 13, .int .u8 0, .int .u8 5, .int .u8 0, .int .u8 0, .int .u8 0, .int .u8 11, .int .u8 0, .int .u8 0, .int .u8 0, .int .u8 0, .int .u8 0, .int .u8 0, .int .u8 0, .int .u8 13, .int .u8 0, .int .u8 0, .int .u8 1, .int .u8 6, .int .u8 0, .int .u8 0, .int .u8 0, .int .u8 13, .int .u8 0, .int .u8 1, .int .u8 0, .int .u8 2, .int .u8 0, .int .u8 0, .int .u8 0, .int .u8 13, .int .u8 0, .int .u8 0, .int .u8 0, .int .u8 2, .int .u8 0, .int .u8 0, .int .u8 0, .int .u8 7, .int .u8 0, .int .u8 0, .int .u8 0, .int .u8 22, .int .u8 0, .int .u8 0, .int .u8 0, .int .u8 12, .int .u8 0, .int .u8 0, .int .u8 0, .int .u8 0, .int .u8 0, .int .u8 0, .int .u8 0, .int .u8 10, .int .u8 0, .int .u8 0, .int .u8 0, .int .u8 0, .int .u8 0, .int .u8 0, .int .u8 0]),
  (4303, 0, [.ref 4209 23 0 192 none, .ref 3996 1 0 2 (some 6), .nils])],
  [],
  .tup [.agg [.ref 4533 1 0 2 (some 2), .int .i64 1, .int .u64 0, .int .i64 7, .int .i64 2, .int .i64 1, .int .i64 1], .int .i64 0], 4534,
  [(8, 0, [.int .u64 1, .int .u64 18446744073709551614]),
  (20, 0, [.nils, .int .i64 0]),
  (21, 0, [.int .i64 1, .int .u64 0]),
  (3996, 1, [.int .i64 2, .int .i64 17, .int .i64 8, .nils, .nils, .int .i64 14, .int .i64 17, .int .i64 24, .int .i64 0, .nils, .nils, .int .i64 (-1)]),
  (4209, 23, [.int .u8 13, .int .u8 0, .int .u8 0, .int .u8 0, .int .u8 0, .int .u8 0, .int .u8 0, .int .u8 0, .int .u8 13, .int .u8 0, .int .u8 0, .int .u8 0, .int .u8 1, .int .u8 0, .int .u8 0, .int .u8 0, .int .u8 11, .int .u8 0, .int .u8 0, .int .u8 0, .int .u8 8, .int .u8 0, .int .u8 0, .int .u8 0, .int .u8 1, .int .u8 13, .int .u8 0, .int .u8 0, .int .u8 0, .int .u8 0, .int .u8 0, .int .u8 0, .int .u8 5, .int .u8 0, .int .u8 14, .int .u8 13, .int .u8 0, .int .u8 0, .int .u8 0, .int .u8 0, .int .u8 13, .int .u8 0, .int .u8 0, .int .u8 0, .int .u8 7, .int .u8 1, .int .u8 0, .int .u8 0, .int .u8 4, .int .u8 0, .int .u8 14, .int .u8 0, .int .u8 0, .int .u8 0, .int .u8 0, .int .u8 0, .int .u8 8, .int .u8 0, .int .u8 0, .int .u8 0, .int .u8 15, .int .u8 0, .int .u8 0, .int .u8 0, .int .u8 4, .int .u8 1, .int .u8 0, .int .u8 0, .int .u8 0, .int .u8 0, .int .u8 0, .int .u8 0, .int .u8 13, .int .u8 0, .int .u8 1, .int .u8 0, .int .u8 2, .int .u8 0, .int .u8 0, .int .u8 0, .int .u8 7, .int .u8 0, .int .u8 0, .int .u8 0, .int .u8 11, .int .u8 0, .int .u8 0, .int .u8 0, .int .u8 13, .int .u8 0, .int .u8 0, .int .u8 0, .int .u8 8, .int .u8 0, .int .u8 0, .int .u8 0, .int .u8 12, .int .u8 0, .int .u8 0, .int .u8 0, .int .u8 8, .int .u8 0, .int .u8 0, .int .u8 0, .int .u8 10, .int .u8 0, .int .u8 0, .int .u8 0, .int .u8 0, .int .u8 0, .int .u8 0, .int .u8 0, .int .u8 7, .int .u8 0, .int .u8 0, .int .u8 0, .int .u8 11, .int .u8 0, .int .u8 0, .int .u8 0, .int .u8 1, .int .u8 13, .int .u8 0, .int .u8 0, .int .u8 254, .int .u8 255, .int .u8 255, .int .u8 255, .int .u8 13, .int .u8 0, .int .u8 13, .int .u8 0, .int .u8 5, .int .u8 0, .int .u8 0, .int .u8 0, .int .u8 11, .int .u8 0, .int .u8 0, .int .u8 0, .int .u8 0, .int .u8 0, .int .u8 0, .int .u8 0, .int .u8 13, .int .u8 0, .int .u8 0, .int .u8 1, .int .u8 6, .int .u8 0, .int .u8 0, .int .u8 0, .int .u8 13, .int .u8 0, .int .u8 1, .int .u8 0, .int .u8 2, .int .u8 0, .int .u8 0, .int .u8 0, .int .u8 13, .int .u8 0, .int .u8 0, .int .u8 0, .int .u8 2, .int .u8 0, .int .u8 0, .int .u8 0, .int .u8 7, .int .u8 0, .int .u8 0, .int .u8 0, .int .u8 22, .int .u8 0, .int .u8 0, .int .u8 0, .int .u8 12, .int .u8 0, .int .u8 0, .int .u8 0, .int .u8 0, .int .u8 0, .int .u8 0, .int .u8 0, .int .u8 10, .int .u8 0, .int .u8 0, .int .u8 0, .int .u8 0, .int .u8 0, .int .u8 0, .int .u8 0]),
  (4303, 0, [.ref 4209 23 0 192 none, .ref 3996 1 0 2 (some 6), .nils]),
  (4533, 1, [.int .i64 1, .int .u64 1, .int .i64 1, .int .u64 18446744073709551614])],
  [] ⟩
theorem nc6_e : chkM fs0 (runR Tryz.prog pvZ (codeT tabL) (ovA ovL []) 200) nc6 = true := by kernel_rfl
theorem nc6_ok : MemoOK Tryz.prog fs0 nc6 := chkM_ok (run_ok (ms := []) trivial) nc6_e
end Go.Proofs.YtklmiejnopdabaaGreatDoor
