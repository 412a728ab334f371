/- One case: known calls, evaluated by the kernel. Printed by a program. -/
import Derived.Test.YtklmiejnopdabaaGreatDoorWh_nb4
import Derived.Test.YtklmiejnopdabaaGreatDoorWhH
namespace Go.Proofs.YtklmiejnopdabaaGreatDoor
set_option linter.constructorNameAsVariable false
set_option linter.unusedSimpArgs false
set_option linter.unusedVariables false
open Go Go.Ab Go.RowKit
set_option maxRecDepth 100000
set_option linter.unusedVariables false
def nb5 : Memo := ⟨ 21, [.ref 26 26 0 33 none], 73,
  [(9, 0, [.int .u8 2, .int .i64 0, .int .u64 0, .int .u8 1, .int .i64 0, .int .u64 5, .int .u8 6, .int .i64 0, .int .u64 0, .int .u8 24, .int .i64 0, .int .u64 0]),
  (11, 0, [.int .u8 1]),
  (14, 3, [.int .u8 27, .int .i64 0, .int .u64 0, .int .u8 29, .int .i64 0, .int .u64 0, .int .u8 29, .int .i64 0, .int .u64 0, .int .u8 24, .int .i64 0, .int .u64 0]),
  (18, 0, [.int .i64 0, .ref 11 0 0 1 none, .bool false, .int .i64 (-1), .ref 9 0 0 4 (some 3), .int .i64 0, .nils, .bool false, .int .i64 (-1), .ref 14 3 0 4 (some 3)]),
  (20, 0, [.ref 18 0 0 2 (some 5)]),
  (21, 0, [.nils, .int .i64 0]),
  (22, 0, [.int .i64 2, .int .u64 18446744073709551614]),
  (24, 0, [.nils, .nils, .nils]),
  (26, 26, [.int .u8 87, .int .u8 76, .int .u8 2, .int .u8 0, .int .u8 1, .int .u8 1, .int .u8 0, .int .u8 255, .int .u8 4, .int .u8 0, .int .u8 2, .int .u8 0, .int .u8 1, .int .u8 5, .int .u8 0, .int .u8 0, .int .u8 0, .int .u8 0, .int .u8 0, .int .u8 0, .int .u8 0, .int .u8 6, .int .u8 24, .int .u8 0, .int .u8 0, .int .u8 0, .int .u8 255, .int .u8 4, .int .u8 0, .int .u8 27, .int .u8 29, .int .u8 29, .int .u8 24])],
  [],
  .tup [.agg [.ref 3920 19 0 160 none, .ref 3707 1 0 2 (some 6), .nils], .int .i64 0], 3997,
  [(9, 0, [.int .u8 2, .int .i64 0, .int .u64 0, .int .u8 1, .int .i64 0, .int .u64 5, .int .u8 6, .int .i64 0, .int .u64 0, .int .u8 24, .int .i64 0, .int .u64 0]),
  (11, 0, [.int .u8 1]),
  (14, 3, [.int .u8 27, .int .i64 0, .int .u64 0, .int .u8 29, .int .i64 0, .int .u64 0, .int .u8 29, .int .i64 0, .int .u64 0, .int .u8 24, .int .i64 0, .int .u64 0]),
  (18, 0, [.int .i64 0, .ref 11 0 0 1 none, .bool false, .int .i64 (-1), .ref 9 0 0 4 (some 3), .int .i64 0, .nils, .bool false, .int .i64 (-1), .ref 14 3 0 4 (some 3)]),
  (20, 0, [.ref 18 0 0 2 (some 5)]),
  (21, 0, [.nils, .int .i64 0]),
  (22, 0, [.int .i64 2, .int .u64 18446744073709551614]),
  (24, 0, [.nils, .nils, .nils]),
  (3707, 1, [.int .i64 2, .int .i64 13, .int .i64 0, .nils, .nils, .int .i64 (-1), .int .i64 13, .int .i64 20, .int .i64 0, .nils, .nils, .int .i64 (-1)]),
  (3920, 19, [.int .u8 13, .int .u8 0, .int .u8 0, .int .u8 0, .int .u8 0, .int .u8 0, .int .u8 0, .int .u8 0, .int .u8 13, .int .u8 0, .int .u8 0, .int .u8 0, .int .u8 1, .int .u8 0, .int .u8 0, .int .u8 0, .int .u8 11, .int .u8 0, .int .u8 0, .int .u8 0, .int .u8 0, .int .u8 0, .int .u8 0, .int .u8 0, .int .u8 1, .int .u8 0, .int .u8 0, .int .u8 0, .int .u8 0, .int .u8 0, .int .u8 0, .int .u8 0, .int .u8 3, .int .u8 1, .int .u8 0, .int .u8 0, .int .u8 0, .int .u8 0, .int .u8 0, .int .u8 0, .int .u8 1, .int .u8 0, .int .u8 0, .int .u8 0, .int .u8 5, .int .u8 0, .int .u8 0, .int .u8 0, .int .u8 8, .int .u8 0, .int .u8 1, .int .u8 0, .int .u8 11, .int .u8 0, .int .u8 0, .int .u8 0, .int .u8 5, .int .u8 0, .int .u8 1, .int .u8 0, .int .u8 0, .int .u8 0, .int .u8 0, .int .u8 0, .int .u8 7, .int .u8 0, .int .u8 0, .int .u8 0, .int .u8 9, .int .u8 0, .int .u8 0, .int .u8 0, .int .u8 12, .int .u8 0, .int .u8 0, .int .u8 0, .int .u8 0, .int .u8 0, .int .u8 0, .int .u8 0, .int .u8 10, .int .u8 0, .int .u8 0, .int .u8 0, .int .u8 0, .int .u8 0, .int .u8 0, .int .u8 0, .int .u8 1, .int .u8 13, .int .u8 0, .int .u8 0, .int .u8 254, .int .u8 255, .int .u8 255, .int .u8 255, .int .u8 13, .int .u8 0, .int .u8 13, .int .u8 0, .int .u8 5, .int .u8 0, .int .u8 0, .int .u8 0, .int .u8 11, .int .u8 0, .int .u8 0, .int .u8 0, .int .u8 0, .int .u8 0, .int .u8 0, .int .u8 0, .int .u8 13, .int .u8 0, .int .u8 0, .int .u8 1, .int .u8 6, .int .u8 0, .int .u8 0, .int .u8 0, .int .u8 13, .int .u8 0, .int .u8 1, .int .u8 0, .int .u8 2, .int .u8 0, .int .u8 0, .int .u8 0, .int .u8 13, .int .u8 0, .int .u8 0, .int .u8 0, .int .u8 2, .int .u8 0, .int .u8 0, .int .u8 0, .int .u8 7, .int .u8 0, .int .u8 0, .int .u8 0, .int .u8 18, .int .u8 0, .int .u8 0, .int .u8 0, .int .u8 12, .int .u8 0, .int .u8 0, .int .u8 0, .int .u8 0, .int .u8 0, .int .u8 0, .int .u8 0, .int .u8 10, .int .u8 0, .int .u8 0, .int .u8 0, .int .u8 0, .int .u8 0, .int .u8 0, .int .u8 0])],
  [] ⟩
theorem nb5_e : chkM fs0 (runR Tryz.prog pvZ (codeT tabL) (ovA ovL [nb2, nb3, nb4]) 200) nb5 = true := by kernel_rfl
theorem nb5_ok : MemoOK Tryz.prog fs0 nb5 := chkM_ok (run_ok (ms := [nb2, nb3, nb4]) ⟨nb2_ok, nb3_ok, nb4_ok, trivial⟩) nb5_e
end Go.Proofs.YtklmiejnopdabaaGreatDoor
/- One case: known calls, evaluated by the kernel. Printed by a program. -/
namespace Go.Proofs.YtklmiejnopdabaaGreatDoor
set_option linter.constructorNameAsVariable false
set_option linter.unusedSimpArgs false
set_option linter.unusedVariables false
open Go Go.Ab Go.RowKit
set_option maxRecDepth 100000
set_option linter.unusedVariables false
def nb6 : Memo := ⟨ 17, [.agg [.ref 18 0 0 2 (some 5)], .nils, .int .i64 1048576], 3999,
  [(9, 0, [.int .u8 2, .int .i64 0, .int .u64 0, .int .u8 1, .int .i64 0, .int .u64 5, .int .u8 6, .int .i64 0, .int .u64 0, .int .u8 24, .int .i64 0, .int .u64 0]),
  (11, 0, [.int .u8 1]),
  (14, 3, [.int .u8 27, .int .i64 0, .int .u64 0, .int .u8 29, .int .i64 0, .int .u64 0, .int .u8 29, .int .i64 0, .int .u64 0, .int .u8 24, .int .i64 0, .int .u64 0]),
  (18, 0, [.int .i64 0, .ref 11 0 0 1 none, .bool false, .int .i64 (-1), .ref 9 0 0 4 (some 3), .int .i64 0, .nils, .bool false, .int .i64 (-1), .ref 14 3 0 4 (some 3)]),
  (21, 0, [.nils, .int .i64 0]),
  (22, 0, [.int .i64 2, .int .u64 18446744073709551614]),
  (3707, 1, [.int .i64 2, .int .i64 13, .int .i64 0, .nils, .nils, .int .i64 (-1), .int .i64 13, .int .i64 20, .int .i64 0, .nils, .nils, .int .i64 (-1)]),
  (3920, 19, [.int .u8 13, .int .u8 0, .int .u8 0, .int .u8 0, .int .u8 0, .int .u8 0, .int .u8 0, .int .u8 0, .int .u8 13, .int .u8 0, .int .u8 0, .int .u8 0, .int .u8 1, .int .u8 0, .int .u8 0, .int .u8 0, .int .u8 11, .int .u8 0, .int .u8 0, .int .u8 0, .int .u8 0, .int .u8 0, .int .u8 0, .int .u8 0, .int .u8 1, .int .u8 0, .int .u8 0, .int .u8 0, .int .u8 0, .int .u8 0, .int .u8 0, .int .u8 0, .int .u8 3, .int .u8 1, .int .u8 0, .int .u8 0, .int .u8 0, .int .u8 0, .int .u8 0, .int .u8 0, .int .u8 1, .int .u8 0, .int .u8 0, .int .u8 0, .int .u8 5, .int .u8 0, .int .u8 0, .int .u8 0, .int .u8 8, .int .u8 0, .int .u8 1, .int .u8 0, .int .u8 11, .int .u8 0, .int .u8 0, .int .u8 0, .int .u8 5, .int .u8 0, .int .u8 1, .int .u8 0, .int .u8 0, .int .u8 0, .int .u8 0, .int .u8 0, .int .u8 7, .int .u8 0, .int .u8 0, .int .u8 0, .int .u8 9, .int .u8 0, .int .u8 0, .int .u8 0, .int .u8 12, .int .u8 0, .int .u8 0, .int .u8 0, .int .u8 0, .int .u8 0, .int .u8 0, .int .u8 0, .int .u8 10, .int .u8 0, .int .u8 0, .int .u8 0, .int .u8 0, .int .u8 0, .int .u8 0, .int .u8 0, .int .u8 1, .int .u8 13, .int .u8 0, .int .u8 0, .int .u8 254, .int .u8 255, .int .u8 255, .int .u8 255, .int .u8 13, .int .u8 0, .int .u8 13, .int .u8 0, .int .u8 5, .int .u8 0, .int .u8 0, .int .u8 0, .int .u8 11, .int .u8 0, .int .u8 0, .int .u8 0, .int .u8 0, .int .u8 0, .int .u8 0, .int .u8 0, .int .u8 13, .int .u8 0, .int .u8 0, .int .u8 1, .int .u8 6, .int .u8 0, .int .u8 0, .int .u8 0, .int .u8 13, .int .u8 0, .int .u8 1, .int .u8 0, .int .u8 2, .int .u8 0, .int .u8 0, .int .u8 0, .int .u8 13, .int .u8 0, .int .u8 0, .int .u8 0, .int .u8 2, .int .u8 0, .int .u8 0, .int .u8 0, .int .u8 7, .int .u8 0, .int .u8 0, .int .u8 0, .int .u8 18, .int .u8 0, .int .u8 0, .int .u8 0, .int .u8 12, .int .u8 0, .int .u8 0, .int .u8 0, .int .u8 0, .int .u8 0, .int .u8 0, .int .u8 0, .int .u8 10, .int .u8 0, .int .u8 0, .int .u8 0, .int .u8 0, .int .u8 0, .int .u8 0, .int .u8 0]),
  (3998, 0, [.ref 3920 19 0 160 none, .ref 3707 1 0 2 (some 6), .nils])],
  [],
  .tup [.agg [.nils, .int .i64 2, .int .u64 18446744073709551614, .int .i64 3, .int .i64 1, .int .i64 0, .int .i64 1], .int .i64 0], 4201,
  [(21, 0, [.nils, .int .i64 0]),
  (22, 0, [.int .i64 2, .int .u64 18446744073709551614]),
  (3707, 1, [.int .i64 2, .int .i64 13, .int .i64 0, .nils, .nils, .int .i64 (-1), .int .i64 13, .int .i64 20, .int .i64 0, .nils, .nils, .int .i64 (-1)]),
  (3920, 19, [.int .u8 13, .int .u8 0, .int .u8 0, .int .u8 0, .int .u8 0, .int .u8 0, .int .u8 0, .int .u8 0, .int .u8 13, .int .u8 0, .int .u8 0, .int .u8 0, .int .u8 1, .int .u8 0, .int .u8 0, .int .u8 0, .int .u8 11, .int .u8 0, .int .u8 0, .int .u8 0, .int .u8 0, .int .u8 0, .int .u8 0, .int .u8 0, .int .u8 1, .int .u8 0, .int .u8 0, .int .u8 0, .int .u8 0, .int .u8 0, .int .u8 0, .int .u8 0, .int .u8 3, .int .u8 1, .int .u8 0, .int .u8 0, .int .u8 0, .int .u8 0, .int .u8 0, .int .u8 0, .int .u8 1, .int .u8 0, .int .u8 0, .int .u8 0, .int .u8 5, .int .u8 0, .int .u8 0, .int .u8 0, .int .u8 8, .int .u8 0, .int .u8 1, .int .u8 0, .int .u8 11, .int .u8 0, .int .u8 0, .int .u8 0, .int .u8 5, .int .u8 0, .int .u8 1, .int .u8 0, .int .u8 0, .int .u8 0, .int .u8 0, .int .u8 0, .int .u8 7, .int .u8 0, .int .u8 0, .int .u8 0, .int .u8 9, .int .u8 0, .int .u8 0, .int .u8 0, .int .u8 12, .int .u8 0, .int .u8 0, .int .u8 0, .int .u8 0, .int .u8 0, .int .u8 0, .int .u8 0, .int .u8 10, .int .u8 0, .int .u8 0, .int .u8 0, .int .u8 0, .int .u8 0, .int .u8 0, .int .u8 0, .int .u8 1, .int .u8 13, .int .u8 0, .int .u8 0, .int .u8 254, .int .u8 255, .int .u8 255, .int .u8 255, .int .u8 13, .int .u8 0, .int .u8 13, .int .u8 0, .int .u8 5, .int .u8 0, .int .u8 0, .int .u8 0, .int .u8 11, .int .u8 0, .int .u8 0, .int .u8 0, .int .u8 0, .int .u8 0, .int .u8 0, .int .u8 0, .int .u8 13, .int .u8 0, .int .u8 0, .int .u8 1, .int .u8 6, .int .u8 0, .int .u8 0, .int .u8 0, .int .u8 13, .int .u8 0, .int .u8 1, .int .u8 0, .int .u8 2, .int .u8 0, .int .u8 0, .int .u8 0, .int .u8 13, .int .u8 0, .int .u8 0, .int .u8 0, .int .u8 2, .int .u8 0, .int .u8 0, .int .u8 0, .int .u8 7, .int .u8 0, .int .u8 0, .int .u8 0, .int .u8 18, .int .u8 0, .int .u8 0, .int .u8 0, .int .u8 12, .int .u8 0, .int .u8 0, .int .u8 0, .int .u8 0, .int .u8 0, .int .u8 0, .int .u8 0, .int .u8 10, .int .u8 0, .int .u8 0, .int .u8 0, .int .u8 0, .int .u8 0, .int .u8 0, .int .u8 0]),
  (3998, 0, [.ref 3920 19 0 160 none, .ref 3707 1 0 2 (some 6), .nils])],
  [] ⟩
theorem nb6_e : chkM fs0 (runR Tryz.prog pvZ (codeT tabL) (ovA ovL []) 200) nb6 = true := by kernel_rfl
theorem nb6_ok : MemoOK Tryz.prog fs0 nb6 := chkM_ok (run_ok (ms := []) trivial) nb6_e
end Go.Proofs.YtklmiejnopdabaaGreatDoor
