/- One case: known calls, evaluated by the kernel. Printed by a program. -/
import Derived.Test.YtklmiejnopdabaaGreatDoorWh_na4
namespace Go.Proofs.YtklmiejnopdabaaGreatDoor
set_option linter.constructorNameAsVariable false
set_option linter.unusedSimpArgs false
set_option linter.unusedVariables false
open Go Go.Ab Go.RowKit
set_option maxRecDepth 100000
set_option linter.unusedVariables false
def na5 : Memo := ⟨ 21, [.ref 21 18 0 25 none], 60,
  [(4, 0, [.int .u8 2, .int .i64 0, .int .u64 0, .int .u8 5, .int .i64 0, .int .u64 0, .int .u8 29, .int .i64 0, .int .u64 0, .int .u8 24, .int .i64 0, .int .u64 0]),
  (6, 0, [.int .u8 1]),
  (9, 3, [.int .u8 27, .int .i64 0, .int .u64 0, .int .u8 29, .int .i64 0, .int .u64 0, .int .u8 29, .int .i64 0, .int .u64 0, .int .u8 24, .int .i64 0, .int .u64 0]),
  (13, 0, [.int .i64 0, .ref 6 0 0 1 none, .bool false, .int .i64 (-1), .ref 4 0 0 4 (some 3), .int .i64 0, .nils, .bool false, .int .i64 (-1), .ref 9 3 0 4 (some 3)]),
  (15, 0, [.ref 13 0 0 2 (some 5)]),
  (16, 0, [.nils, .int .i64 0]),
  (17, 0, [.int .i64 2, .int .u64 18446744073709551614]),
  (19, 0, [.nils, .nils, .nils]),
  (21, 18, [.int .u8 87, .int .u8 76, .int .u8 2, .int .u8 0, .int .u8 1, .int .u8 1, .int .u8 0, .int .u8 255, .int .u8 4, .int .u8 0, .int .u8 2, .int .u8 0, .int .u8 5, .int .u8 29, .int .u8 24, .int .u8 0, .int .u8 0, .int .u8 0, .int .u8 255, .int .u8 4, .int .u8 0, .int .u8 27, .int .u8 29, .int .u8 29, .int .u8 24])],
  [],
  .tup [.agg [.ref 3894 19 0 160 none, .ref 3681 1 0 2 (some 6), .nils], .int .i64 0], 3971,
  [(4, 0, [.int .u8 2, .int .i64 0, .int .u64 0, .int .u8 5, .int .i64 0, .int .u64 0, .int .u8 29, .int .i64 0, .int .u64 0, .int .u8 24, .int .i64 0, .int .u64 0]),
  (6, 0, [.int .u8 1]),
  (9, 3, [.int .u8 27, .int .i64 0, .int .u64 0, .int .u8 29, .int .i64 0, .int .u64 0, .int .u8 29, .int .i64 0, .int .u64 0, .int .u8 24, .int .i64 0, .int .u64 0]),
  (13, 0, [.int .i64 0, .ref 6 0 0 1 none, .bool false, .int .i64 (-1), .ref 4 0 0 4 (some 3), .int .i64 0, .nils, .bool false, .int .i64 (-1), .ref 9 3 0 4 (some 3)]),
  (15, 0, [.ref 13 0 0 2 (some 5)]),
  (16, 0, [.nils, .int .i64 0]),
  (17, 0, [.int .i64 2, .int .u64 18446744073709551614]),
  (19, 0, [.nils, .nils, .nils]),
  (3681, 1, [.int .i64 2, .int .i64 13, .int .i64 0, .nils, .nils, .int .i64 (-1), .int .i64 13, .int .i64 20, .int .i64 0, .nils, .nils, .int .i64 (-1)]),
  (3894, 19, [.int .u8 13, .int .u8 0, .int .u8 0, .int .u8 0, .int .u8 0, .int .u8 0, .int .u8 0, .int .u8 0, .int .u8 13, .int .u8 0, .int .u8 0, .int .u8 0, .int .u8 1, .int .u8 0, .int .u8 0, .int .u8 0, .int .u8 11, .int .u8 0, .int .u8 0, .int .u8 0, .int .u8 0, .int .u8 0, .int .u8 0, .int .u8 0, .int .u8 1, .int .u8 0, .int .u8 0, .int .u8 0, .int .u8 0, .int .u8 0, .int .u8 0, .int .u8 0, .int .u8 3, .int .u8 1, .int .u8 0, .int .u8 0, .int .u8 0, .int .u8 0, .int .u8 0, .int .u8 0, .int .u8 8, .int .u8 0, .int .u8 1, .int .u8 0, .int .u8 11, .int .u8 0, .int .u8 0, .int .u8 0, .int .u8 4, .int .u8 0, .int .u8 1, .int .u8 0, .int .u8 0, .int .u8 0, .int .u8 0, .int .u8 0, .int .u8 13, .int .u8 0, .int .u8 0, .int .u8 0, .int .u8 2, .int .u8 0, .int .u8 0, .int .u8 0, .int .u8 7, .int .u8 0, .int .u8 0, .int .u8 0, .int .u8 9, .int .u8 0, .int .u8 0, .int .u8 0, .int .u8 12, .int .u8 0, .int .u8 0, .int .u8 0, .int .u8 0, .int .u8 0, .int .u8 0, .int .u8 0, .int .u8 10, .int .u8 0, .int .u8 0, .int .u8 0, .int .u8 0, .int .u8 0, .int .u8 0, .int .u8 0, .int .u8 1, .int .u8 13, .int .u8 0, .int .u8 0, .int .u8 254, .int .u8 255, .int .u8 255, .int .u8 255, .int .u8 13, .int .u8 0, .int .u8 13, .int .u8 0, .int .u8 5, .int .u8 0, .int .u8 0, .int .u8 0, .int .u8 11, .int .u8 0, .int .u8 0, .int .u8 0, .int .u8 0, .int .u8 0, .int .u8 0, .int .u8 0, .int .u8 13, .int .u8 0, .int .u8 0, .int .u8 1, .int .u8 6, .int .u8 0, .int .u8 0, .int .u8 0, .int .u8 13, .int .u8 0, .int .u8 1, .int .u8 0, .int .u8 2, .int .u8 0, .int .u8 0, .int .u8 0, .int .u8 13, .int .u8 0, .int .u8 0, .int .u8 0, .int .u8 2, .int .u8 0, .int .u8 0, .int .u8 0, .int .u8 7, .int .u8 0, .int .u8 0, .int .u8 0, .int .u8 18, .int .u8 0, .int .u8 0, .int .u8 0, .int .u8 12, .int .u8 0, .int .u8 0, .int .u8 0, .int .u8 0, .int .u8 0, .int .u8 0, .int .u8 0, .int .u8 10, .int .u8 0, .int .u8 0, .int .u8 0, .int .u8 0, .int .u8 0, .int .u8 0, .int .u8 0])],
  [] ⟩
theorem na5_e : chkM fs0 (runR Tryz.prog pvZ (codeT tabL) (ovA ovL [na2, na3, na4]) 200) na5 = true := by kernel_rfl
theorem na5_ok : MemoOK Tryz.prog fs0 na5 := chkM_ok (run_ok (ms := [na2, na3, na4]) ⟨na2_ok, na3_ok, na4_ok, trivial⟩) na5_e
end Go.Proofs.YtklmiejnopdabaaGreatDoor
