/- One case: known calls, evaluated by the kernel. Printed by a program. -/
import Derived.Test.YtklmiejnopdabaaGreatDoorWh_nd4
import Derived.Test.YtklmiejnopdabaaGreatDoorWhH
namespace Go.Proofs.YtklmiejnopdabaaGreatDoor
set_option linter.constructorNameAsVariable false
set_option linter.unusedSimpArgs false
set_option linter.unusedVariables false
open Go Go.Ab Go.RowKit
set_option maxRecDepth 100000
set_option linter.unusedVariables false
def nd5 : Memo := ⟨ 21, [.ref 30 28 0 35 none], 81,
  [(12, 1, [.int .u8 25, .int .i64 1, .int .u64 0, .int .u8 2, .int .i64 0, .int .u64 0, .int .u8 1, .int .i64 0, .int .u64 5, .int .u8 6, .int .i64 0, .int .u64 0, .int .u8 24, .int .i64 0, .int .u64 0]),
  (13, 0, [.int .u64 1, .int .u64 18446744073709551614]),
  (15, 0, [.int .u8 1]),
  (18, 3, [.int .u8 27, .int .i64 0, .int .u64 0, .int .u8 29, .int .i64 0, .int .u64 0, .int .u8 29, .int .i64 0, .int .u64 0, .int .u8 24, .int .i64 0, .int .u64 0]),
  (22, 0, [.int .i64 0, .ref 15 0 0 1 none, .bool false, .int .i64 (-1), .ref 12 1 0 5 (some 3), .int .i64 0, .nils, .bool false, .int .i64 (-1), .ref 18 3 0 4 (some 3)]),
  (24, 0, [.ref 22 0 0 2 (some 5)]),
  (25, 0, [.nils, .int .i64 0]),
  (26, 0, [.int .i64 1, .int .u64 0]),
  (28, 0, [.nils, .nils, .nils]),
  (30, 28, [.int .u8 87, .int .u8 76, .int .u8 2, .int .u8 0, .int .u8 1, .int .u8 1, .int .u8 0, .int .u8 255, .int .u8 5, .int .u8 0, .int .u8 25, .int .u8 1, .int .u8 2, .int .u8 0, .int .u8 1, .int .u8 5, .int .u8 0, .int .u8 0, .int .u8 0, .int .u8 0, .int .u8 0, .int .u8 0, .int .u8 0, .int .u8 6, .int .u8 24, .int .u8 0, .int .u8 0, .int .u8 0, .int .u8 255, .int .u8 4, .int .u8 0, .int .u8 27, .int .u8 29, .int .u8 29, .int .u8 24])],
  [],
  .tup [.agg [.ref 4235 23 0 192 none, .ref 4022 1 0 2 (some 6), .nils], .int .i64 0], 4328,
  [(12, 1, [.int .u8 25, .int .i64 1, .int .u64 0, .int .u8 2, .int .i64 0, .int .u64 0, .int .u8 1, .int .i64 0, .int .u64 5, .int .u8 6, .int .i64 0, .int .u64 0, .int .u8 24, .int .i64 0, .int .u64 0]),
  (13, 0, [.int .u64 1, .int .u64 18446744073709551614]),
  (15, 0, [.int .u8 1]),
  (18, 3, [.int .u8 27, .int .i64 0, .int .u64 0, .int .u8 29, .int .i64 0, .int .u64 0, .int .u8 29, .int .i64 0, .int .u64 0, .int .u8 24, .int .i64 0, .int .u64 0]),
  (22, 0, [.int .i64 0, .ref 15 0 0 1 none, .bool false, .int .i64 (-1), .ref 12 1 0 5 (some 3), .int .i64 0, .nils, .bool false, .int .i64 (-1), .ref 18 3 0 4 (some 3)]),
  (24, 0, [.ref 22 0 0 2 (some 5)]),
  (25, 0, [.nils, .int .i64 0]),
  (26, 0, [.int .i64 1, .int .u64 0]),
  (28, 0, [.nils, .nils, .nils]),
  (4022, 1, [.int .i64 2, .int .i64 17, .int .i64 8, .nils, .nils, .int .i64 14, .int .i64 17, .int .i64 24, .int .i64 0, .nils, .nils, .int .i64 (-1)]),
  (4235, 23, [.int .u8 13, .int .u8 0, .int .u8 0, .int .u8 0, .int .u8 0, .int .u8 0, .int .u8 0, .int .u8 0, .int .u8 13, .int .u8 0, .int .u8 0, .int .u8 0, .int .u8 1, .int .u8 0, .int .u8 0, .int .u8 0, .int .u8 11, .int .u8 0, .int .u8 0, .int .u8 0, .int .u8 8, .int .u8 0, .int .u8 0, .int .u8 0, .int .u8 1, .int .u8 13, .int .u8 0, .int .u8 0, .int .u8 0, .int .u8 0, .int .u8 0, .int .u8 0, .int .u8 5, .int .u8 0, .int .u8 14, .int .u8 13, .int .u8 0, .int .u8 0, .int .u8 0, .int .u8 0, .int .u8 13, .int .u8 0, .int .u8 0, .int .u8 0, .int .u8 7, .int .u8 1, .int .u8 0, .int .u8 0, .int .u8 4, .int .u8 0, .int .u8 14, .int .u8 0, .int .u8 0, .int .u8 0, .int .u8 0, .int .u8 0, .int .u8 1, .int .u8 1, .int .u8 0, .int .u8 0, .int .u8 5, .int .u8 0, .int .u8 0, .int .u8 0, .int .u8 8, .int .u8 0, .int .u8 0, .int .u8 0, .int .u8 15, .int .u8 0, .int .u8 0, .int .u8 0, .int .u8 5, .int .u8 0, .int .u8 0, .int .u8 1, .int .u8 0, .int .u8 0, .int .u8 0, .int .u8 0, .int .u8 7, .int .u8 0, .int .u8 0, .int .u8 0, .int .u8 11, .int .u8 0, .int .u8 0, .int .u8 0, .int .u8 13, .int .u8 0, .int .u8 0, .int .u8 0, .int .u8 8, .int .u8 0, .int .u8 0, .int .u8 0, .int .u8 12, .int .u8 0, .int .u8 0, .int .u8 0, .int .u8 8, .int .u8 0, .int .u8 0, .int .u8 0, .int .u8 10, .int .u8 0, .int .u8 0, .int .u8 0, .int .u8 0, .int .u8 0, .int .u8 0, .int .u8 0, .int .u8 7, .int .u8 0, .int .u8 0, .int .u8 0, .int .u8 11, .int .u8 0, .int .u8 0, .int .u8 0, .int .u8 1, .int .u8 13, .int .u8 0, .int .u8 0, .int .u8 254, .int .u8 255, .int .u8 255, .int .u8 255, .int .u8 13, .int .u8 0, .int .u8 13, .int .u8 0, .int .u8 5, .int .u8 0, .int .u8 0, .int .u8 0, .int .u8 11, .int .u8 0, .int .u8 0, .int .u8 0, .int .u8 0, .int .u8 0, .int .u8 0, .int .u8 0, .int .u8 13, .int .u8 0, .int .u8 0, .int .u8 1, .int .u8 6, .int .u8 0, .int .u8 0, .int .u8 0, .int .u8 13, .int .u8 0, .int .u8 1, .int .u8 0, .int .u8 2, .int .u8 0, .int .u8 0, .int .u8 0, .int .u8 13, .int .u8 0, .int .u8 0, .int .u8 0, .int .u8 2, .int .u8 0, .int .u8 0, .int .u8 0, .int .u8 7, .int .u8 0, .int .u8 0, .int .u8 0, .int .u8 22, .int .u8 0, .int .u8 0, .int .u8 0, .int .u8 12, .int .u8 0, .int .u8 0, .int .u8 0, .int .u8 0, .int .u8 0, .int .u8 0, .int .u8 0, .int .u8 10, .int .u8 0, .int .u8 0, .int .u8 0, .int .u8 0, .int .u8 0, .int .u8 0, .int .u8 0])],
  [] ⟩
theorem nd5_e : chkM fs0 (runR Tryz.prog pvZ (codeT tabL) (ovA ovL [nd2, nd3, nd4]) 200) nd5 = true := by kernel_rfl
theorem nd5_ok : MemoOK Tryz.prog fs0 nd5 := chkM_ok (run_ok (ms := [nd2, nd3, nd4]) ⟨nd2_ok, nd3_ok, nd4_ok, trivial⟩) nd5_e
end Go.Proofs.YtklmiejnopdabaaGreatDoor
/- One case: known calls, evaluated by the kernel. Printed by a program. -/
namespace Go.Proofs.YtklmiejnopdabaaGreatDoor
set_option linter.constructorNameAsVariable false
set_option linter.unusedSimpArgs false
set_option linter.unusedVariables false
open Go Go.Ab Go.RowKit
set_option maxRecDepth 100000
set_option linter.unusedVariables false
def nd6 : Memo := ⟨ 17, [.agg [.ref 22 0 0 2 (some 5)], .nils, .int .i64 1048576], 4330,
  [(12, 1, [.int .u8 25, .int .i64 1, .int .u64 0, .int .u8 2, .int .i64 0, .int .u64 0, .int .u8 1, .int .i64 0, .int .u64 5, .int .u8 6, .int .i64 0, .int .u64 0, .int .u8 24, .int .i64 0, .int .u64 0]),
  (13, 0, [.int .u64 1, .int .u64 18446744073709551614]),
  (15, 0, [.int .u8 1]),
  (18, 3, [.int .u8 27, .int .i64 0, .int .u64 0, .int .u8 29, .int .i64 0, .int .u64 0, .int .u8 29, .int .i64 0, .int .u64 0, .int .u8 24, .int .i64 0, .int .u64 0]),
  (22, 0, [.int .i64 0, .ref 15 0 0 1 none, .bool false, .int .i64 (-1), .ref 12 1 0 5 (some 3), .int .i64 0, .nils, .bool false, .int .i64 (-1), .ref 18 3 0 4 (some 3)]),
  (25, 0, [.nils, .int .i64 0]),
  (26, 0, [.int .i64 1, .int .u64 0]),
  (4022, 1, [.int .i64 2, .int .i64 17, .int .i64 8, .nils, .nils, .int .i64 14, .int .i64 17, .int .i64 24, .int .i64 0, .nils, .nils, .int .i64 (-1)]),
  (4235, 23, [.int .u8 13, .int .u8 0, .int .u8 0, .int .u8 0, .int .u8 0, .int .u8 0, .int .u8 0, .int .u8 0, .int .u8 13, .int .u8 0, .int .u8 0, .int .u8 0, .int .u8 1, .int .u8 0, .int .u8 0, .int .u8 0, .int .u8 11, .int .u8 0, .int .u8 0, .int .u8 0, .int .u8 8, .int .u8 0, .int .u8 0, .int .u8 0, .int .u8 1, .int .u8 13, .int .u8 0, .int .u8 0, .int .u8 0, .int .u8 0, .int .u8 0, .int .u8 0, .int .u8 5, .int .u8 0, .int .u8 14, .int .u8 13, .int .u8 0, .int .u8 0, .int .u8 0, .int .u8 0, .int .u8 13, .int .u8 0, .int .u8 0, .int .u8 0, .int .u8 7, .int .u8 1, .int .u8 0, .int .u8 0, .int .u8 4, .int .u8 0, .int .u8 14, .int .u8 0, .int .u8 0, .int .u8 0, .int .u8 0, .int .u8 0, .int .u8 1, .int .u8 1, .int .u8 0, .int .u8 0, .int .u8 5, .int .u8 0, .int .u8 0, .int .u8 0, .int .u8 8, .int .u8 0, .int .u8 0, .int .u8 0, .int .u8 15, .int .u8 0, .int .u8 0, .int .u8 0, .int .u8 5, .int .u8 0, .int .u8 0, .int .u8 1, .int .u8 0, .int .u8 0, .int .u8 0, .int .u8 0, .int .u8 7, .int .u8 0, .int .u8 0, .int .u8 0, .int .u8 11, .int .u8 0, .int .u8 0, .int .u8 0, .int .u8 13, .int .u8 0, .int .u8 0, .int .u8 0, .int .u8 8, .int .u8 0, .int .u8 0, .int .u8 0, .int .u8 12, .int .u8 0, .int .u8 0, .int .u8 0, .int .u8 8, .int .u8 0, .int .u8 0, .int .u8 0, .int .u8 10, .int .u8 0, .int .u8 0, .int .u8 0, .int .u8 0, .int .u8 0, .int .u8 0, .int .u8 0, .int .u8 7, .int .u8 0, .int .u8 0, .int .u8 0, .int .u8 11, .int .u8 0, .int .u8 0, .int .u8 0, .int .u8 1, .int .u8 13, .int .u8 0, .int .u8 0, .int .u8 254, .int .u8 255, .int .u8 255, .int .u8 255, .int .u8 13, .int .u8 0, .int .u8 13, .int .u8 0, .int .u8 5, .int .u8 0, .int .u8 0, .int .u8 0, .int .u8 11, .int .u8 0, .int .u8 0, .int .u8 0, .int .u8 0, .int .u8 0, .int .u8 0, .int .u8 0, .int .u8 13, .int .u8 0, .int .u8 0, .int .u8 1, .int .u8 6, .int .u8 0, .int .u8 0, .int .u8 0, .int .u8 13, .int .u8 0, .int .u8 1, .int .u8 0, .int .u8 2, .int .u8 0, .int .u8 0, .int .u8 0, .int .u8 13, .int .u8 0, .int .u8 0, .int .u8 0, .int .u8 2, .int .u8 0, .int .u8 0, .int .u8 0, .int .u8 7, .int .u8 0, .int .u8 0, .int .u8 0, .int .u8 22, .int .u8 0, .int .u8 0, .int .u8 0, .int .u8 12, .int .u8 0, .int .u8 0, .int .u8 0, .int .u8 0, .int .u8 0, .int .u8 0, .int .u8 0, .int .u8 10, .int .u8 0, .int .u8 0, .int .u8 0, .int .u8 0, .int .u8 0, .int .u8 0, .int .u8 0]),
  (4329, 0, [.ref 4235 23 0 192 none, .ref 4022 1 0 2 (some 6), .nils])],
  [],
  .tup [.agg [.ref 4569 1 0 2 (some 2), .int .i64 1, .int .u64 0, .int .i64 8, .int .i64 2, .int .i64 1, .int .i64 1], .int .i64 0], 4570,
  [(13, 0, [.int .u64 1, .int .u64 18446744073709551614]),
  (25, 0, [.nils, .int .i64 0]),
  (26, 0, [.int .i64 1, .int .u64 0]),
  (4022, 1, [.int .i64 2, .int .i64 17, .int .i64 8, .nils, .nils, .int .i64 14, .int .i64 17, .int .i64 24, .int .i64 0, .nils, .nils, .int .i64 (-1)]),
  (4235, 23, [.int .u8 13, .int .u8 0, .int .u8 0, .int .u8 0, .int .u8 0, .int .u8 0, .int .u8 0, .int .u8 0, .int .u8 13, .int .u8 0, .int .u8 0, .int .u8 0, .int .u8 1, .int .u8 0, .int .u8 0, .int .u8 0, .int .u8 11, .int .u8 0, .int .u8 0, .int .u8 0, .int .u8 8, .int .u8 0, .int .u8 0, .int .u8 0, .int .u8 1, .int .u8 13, .int .u8 0, .int .u8 0, .int .u8 0, .int .u8 0, .int .u8 0, .int .u8 0, .int .u8 5, .int .u8 0, .int .u8 14, .int .u8 13, .int .u8 0, .int .u8 0, .int .u8 0, .int .u8 0, .int .u8 13, .int .u8 0, .int .u8 0, .int .u8 0, .int .u8 7, .int .u8 1, .int .u8 0, .int .u8 0, .int .u8 4, .int .u8 0, .int .u8 14, .int .u8 0, .int .u8 0, .int .u8 0, .int .u8 0, .int .u8 0, .int .u8 1, .int .u8 1, .int .u8 0, .int .u8 0, .int .u8 5, .int .u8 0, .int .u8 0, .int .u8 0, .int .u8 8, .int .u8 0, .int .u8 0, .int .u8 0, .int .u8 15, .int .u8 0, .int .u8 0, .int .u8 0, .int .u8 5, .int .u8 0, .int .u8 0, .int .u8 1, .int .u8 0, .int .u8 0, .int .u8 0, .int .u8 0, .int .u8 7, .int .u8 0, .int .u8 0, .int .u8 0, .int .u8 11, .int .u8 0, .int .u8 0, .int .u8 0, .int .u8 13, .int .u8 0, .int .u8 0, .int .u8 0, .int .u8 8, .int .u8 0, .int .u8 0, .int .u8 0, .int .u8 12, .int .u8 0, .int .u8 0, .int .u8 0, .int .u8 8, .int .u8 0, .int .u8 0, .int .u8 0, .int .u8 10, .int .u8 0, .int .u8 0, .int .u8 0, .int .u8 0, .int .u8 0, .int .u8 0, .int .u8 0, .int .u8 7, .int .u8 0, .int .u8 0, .int .u8 0, .int .u8 11, .int .u8 0, .int .u8 0, .int .u8 0, .int .u8 1, .int .u8 13, .int .u8 0, .int .u8 0, .int .u8 254, .int .u8 255, .int .u8 255, .int .u8 255, .int .u8 13, .int .u8 0, .int .u8 13, .int .u8 0, .int .u8 5, .int .u8 0, .int .u8 0, .int .u8 0, .int .u8 11, .int .u8 0, .int .u8 0, .int .u8 0, .int .u8 0, .int .u8 0, .int .u8 0, .int .u8 0, .int .u8 13, .int .u8 0, .int .u8 0, .int .u8 1, .int .u8 6, .int .u8 0, .int .u8 0, .int .u8 0, .int .u8 13, .int .u8 0, .int .u8 1, .int .u8 0, .int .u8 2, .int .u8 0, .int .u8 0, .int .u8 0, .int .u8 13, .int .u8 0, .int .u8 0, .int .u8 0, .int .u8 2, .int .u8 0, .int .u8 0, .int .u8 0, .int .u8 7, .int .u8 0, .int .u8 0, .int .u8 0, .int .u8 22, .int .u8 0, .int .u8 0, .int .u8 0, .int .u8 12, .int .u8 0, .int .u8 0, .int .u8 0, .int .u8 0, .int .u8 0, .int .u8 0, .int .u8 0, .int .u8 10, .int .u8 0, .int .u8 0, .int .u8 0, .int .u8 0, .int .u8 0, .int .u8 0, .int .u8 0]),
  (4329, 0, [.ref 4235 23 0 192 none, .ref 4022 1 0 2 (some 6), .nils]),
  (4569, 1, [.int .i64 1, .int .u64 1, .int .i64 1, .int .u64 18446744073709551614])],
  [] ⟩
theorem nd6_e : chkM fs0 (runR Tryz.prog pvZ (codeT tabL) (ovA ovL []) 200) nd6 = true := by kernel_rfl
theorem nd6_ok : MemoOK Tryz.prog fs0 nd6 := chkM_ok (run_ok (ms := []) trivial) nd6_e
end Go.Proofs.YtklmiejnopdabaaGreatDoor
