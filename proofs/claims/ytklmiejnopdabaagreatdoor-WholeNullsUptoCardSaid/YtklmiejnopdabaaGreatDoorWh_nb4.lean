/- One case: known calls, evaluated by the kernel. Printed by a program. -/
import Derived.Test.YtklmiejnopdabaaGreatDoorWhH
namespace Go.Proofs.YtklmiejnopdabaaGreatDoor
set_option linter.constructorNameAsVariable false
set_option linter.unusedSimpArgs false
set_option linter.unusedVariables false
open Go Go.Ab Go.RowKit
set_option maxRecDepth 100000
set_option linter.unusedVariables false
def nb0 : Memo := ⟨ 67, [.agg [.ref 355 1 0 2 (some 8)], .int .i64 0], 461,
  [(9, 0, [.int .u8 2, .int .i64 0, .int .u64 0, .int .u8 1, .int .i64 0, .int .u64 5, .int .u8 6, .int .i64 0, .int .u64 0, .int .u8 24, .int .i64 0, .int .u64 0]),
  (11, 0, [.int .u8 1]),
  (14, 3, [.int .u8 27, .int .i64 0, .int .u64 0, .int .u8 29, .int .i64 0, .int .u64 0, .int .u8 29, .int .i64 0, .int .u64 0, .int .u8 24, .int .i64 0, .int .u64 0]),
  (18, 0, [.int .i64 0, .ref 11 0 0 1 none, .bool false, .int .i64 (-1), .ref 9 0 0 4 (some 3), .int .i64 0, .nils, .bool false, .int .i64 (-1), .ref 14 3 0 4 (some 3)]),
  (20, 0, [.ref 18 0 0 2 (some 5)]),
  (21, 0, [.nils, .int .i64 0]),
  (22, 0, [.int .i64 2, .int .u64 18446744073709551614]),
  (24, 0, [.nils, .nils, .nils]),
  (73, 0, [.nils, .nils, .nils]),
  (303, 16, [.int .u8 1, .int .u8 0, .int .u8 1, .int .u8 0, .int .u8 1, .int .u8 0, .int .u8 1, .int .u8 0, .int .u8 1, .int .u8 0, .int .u8 1, .int .u8 0, .int .u8 1, .int .u8 0, .int .u8 1, .int .u8 0, .int .u8 1, .int .u8 0, .int .u8 1, .int .u8 0, .int .u8 1, .int .u8 0, .int .u8 1, .int .u8 0, .int .u8 1, .int .u8 0, .int .u8 1, .int .u8 0, .int .u8 1, .int .u8 0, .int .u8 1, .int .u8 0, .int .u8 1]),
  (329, 3, [.int .u8 2, .int .u8 0, .int .i64 2, .int .i64 0, .int .i64 0, .int .i64 0, .int .i64 0, .int .i64 0, .int .u64 0, .nils, .int .i64 1, .int .i64 0, .int .u8 1, .int .u8 0, .int .i64 3, .int .i64 0, .int .i64 0, .int .i64 0, .int .i64 0, .int .i64 0, .int .u64 5, .nils, .int .i64 2, .int .i64 0, .int .u8 8, .int .u8 0, .int .i64 0, .int .i64 0, .int .i64 2, .int .i64 3, .int .i64 0, .int .i64 0, .int .u64 0, .nils, .int .i64 3, .int .i64 0, .int .u8 12, .int .u8 0, .int .i64 0, .int .i64 0, .int .i64 (-1), .int .i64 0, .int .i64 0, .int .i64 0, .int .u64 0, .nils, .int .i64 3, .int .i64 0]),
  (355, 1, [.nils, .ref 303 16 0 33 none, .int .i64 0, .nils, .bool false, .int .i64 (-1), .ref 329 3 0 4 (some 12), .int .i64 0, .nils, .ref 360 15 0 32 none, .int .i64 0, .nils, .bool false, .int .i64 (-1), .ref 384 3 0 4 (some 12), .int .i64 0]),
  (360, 15, [.int .u8 0, .int .u8 1, .int .u8 0, .int .u8 1, .int .u8 0, .int .u8 1, .int .u8 0, .int .u8 1, .int .u8 0, .int .u8 1, .int .u8 0, .int .u8 1, .int .u8 0, .int .u8 1, .int .u8 0, .int .u8 1, .int .u8 0, .int .u8 1, .int .u8 0, .int .u8 1, .int .u8 0, .int .u8 1, .int .u8 0, .int .u8 1, .int .u8 0, .int .u8 1, .int .u8 0, .int .u8 1, .int .u8 0, .int .u8 1, .int .u8 0, .int .u8 1]),
  (384, 3, [.int .u8 15, .int .u8 0, .int .i64 0, .int .i64 2, .int .i64 0, .int .i64 0, .int .i64 0, .int .i64 0, .int .u64 0, .nils, .int .i64 1, .int .i64 0, .int .u8 17, .int .u8 0, .int .i64 0, .int .i64 0, .int .i64 2, .int .i64 0, .int .i64 0, .int .i64 0, .int .u64 0, .nils, .int .i64 2, .int .i64 0, .int .u8 17, .int .u8 0, .int .i64 0, .int .i64 0, .int .i64 0, .int .i64 0, .int .i64 0, .int .i64 0, .int .u64 0, .nils, .int .i64 3, .int .i64 0, .int .u8 12, .int .u8 0, .int .i64 0, .int .i64 0, .int .i64 (-1), .int .i64 0, .int .i64 0, .int .i64 0, .int .u64 0, .nils, .int .i64 3, .int .i64 0]),
  (410, 0, [.ref 355 1 0 2 (some 8)]),
  (411, 0, [.ref 355 1 0 2 (some 8)]),
  (412, 0, [.nils]),
  (413, 0, [.nils, .nils]),
  (457, 0, [.nils]),
  (458, 0, [.nils, .nils]),
  (459, 0, [.int .i64 (-1), .int .i64 (-1), .int .i64 (-1), .int .i64 (-1)]),
  (460, 0, [.ref 355 1 0 2 (some 8), .ptr 355 1 0, .nils, .nils, .nils, .int .i64 0, .nils, .bool false, .int .i64 0, .nils, .int .i64 0, .ref 459 0 0 4 none, .nils, .nils])],
  [],
  .tup [.ref 859 0 0 33 none, .int .i64 0], 872,
  [(9, 0, [.int .u8 2, .int .i64 0, .int .u64 0, .int .u8 1, .int .i64 0, .int .u64 5, .int .u8 6, .int .i64 0, .int .u64 0, .int .u8 24, .int .i64 0, .int .u64 0]),
  (11, 0, [.int .u8 1]),
  (14, 3, [.int .u8 27, .int .i64 0, .int .u64 0, .int .u8 29, .int .i64 0, .int .u64 0, .int .u8 29, .int .i64 0, .int .u64 0, .int .u8 24, .int .i64 0, .int .u64 0]),
  (18, 0, [.int .i64 0, .ref 11 0 0 1 none, .bool false, .int .i64 (-1), .ref 9 0 0 4 (some 3), .int .i64 0, .nils, .bool false, .int .i64 (-1), .ref 14 3 0 4 (some 3)]),
  (20, 0, [.ref 18 0 0 2 (some 5)]),
  (21, 0, [.nils, .int .i64 0]),
  (22, 0, [.int .i64 2, .int .u64 18446744073709551614]),
  (24, 0, [.nils, .nils, .nils]),
  (73, 0, [.nils, .nils, .nils]),
  (303, 16, [.int .u8 1, .int .u8 0, .int .u8 1, .int .u8 0, .int .u8 1, .int .u8 0, .int .u8 1, .int .u8 0, .int .u8 1, .int .u8 0, .int .u8 1, .int .u8 0, .int .u8 1, .int .u8 0, .int .u8 1, .int .u8 0, .int .u8 1, .int .u8 0, .int .u8 1, .int .u8 0, .int .u8 1, .int .u8 0, .int .u8 1, .int .u8 0, .int .u8 1, .int .u8 0, .int .u8 1, .int .u8 0, .int .u8 1, .int .u8 0, .int .u8 1, .int .u8 0, .int .u8 1]),
  (329, 3, [.int .u8 2, .int .u8 0, .int .i64 2, .int .i64 0, .int .i64 0, .int .i64 0, .int .i64 0, .int .i64 0, .int .u64 0, .nils, .int .i64 1, .int .i64 0, .int .u8 1, .int .u8 0, .int .i64 3, .int .i64 0, .int .i64 0, .int .i64 0, .int .i64 0, .int .i64 0, .int .u64 5, .nils, .int .i64 2, .int .i64 0, .int .u8 8, .int .u8 0, .int .i64 0, .int .i64 0, .int .i64 2, .int .i64 3, .int .i64 0, .int .i64 0, .int .u64 0, .nils, .int .i64 3, .int .i64 0, .int .u8 12, .int .u8 0, .int .i64 0, .int .i64 0, .int .i64 (-1), .int .i64 0, .int .i64 0, .int .i64 0, .int .u64 0, .nils, .int .i64 3, .int .i64 0]),
  (355, 1, [.nils, .ref 303 16 0 33 none, .int .i64 0, .nils, .bool false, .int .i64 (-1), .ref 329 3 0 4 (some 12), .int .i64 0, .nils, .ref 360 15 0 32 none, .int .i64 0, .nils, .bool false, .int .i64 (-1), .ref 384 3 0 4 (some 12), .int .i64 0]),
  (360, 15, [.int .u8 0, .int .u8 1, .int .u8 0, .int .u8 1, .int .u8 0, .int .u8 1, .int .u8 0, .int .u8 1, .int .u8 0, .int .u8 1, .int .u8 0, .int .u8 1, .int .u8 0, .int .u8 1, .int .u8 0, .int .u8 1, .int .u8 0, .int .u8 1, .int .u8 0, .int .u8 1, .int .u8 0, .int .u8 1, .int .u8 0, .int .u8 1, .int .u8 0, .int .u8 1, .int .u8 0, .int .u8 1, .int .u8 0, .int .u8 1, .int .u8 0, .int .u8 1]),
  (384, 3, [.int .u8 15, .int .u8 0, .int .i64 0, .int .i64 2, .int .i64 0, .int .i64 0, .int .i64 0, .int .i64 0, .int .u64 0, .nils, .int .i64 1, .int .i64 0, .int .u8 17, .int .u8 0, .int .i64 0, .int .i64 0, .int .i64 2, .int .i64 0, .int .i64 0, .int .i64 0, .int .u64 0, .nils, .int .i64 2, .int .i64 0, .int .u8 17, .int .u8 0, .int .i64 0, .int .i64 0, .int .i64 0, .int .i64 0, .int .i64 0, .int .i64 0, .int .u64 0, .nils, .int .i64 3, .int .i64 0, .int .u8 12, .int .u8 0, .int .i64 0, .int .i64 0, .int .i64 (-1), .int .i64 0, .int .i64 0, .int .i64 0, .int .u64 0, .nils, .int .i64 3, .int .i64 0]),
  (410, 0, [.ref 355 1 0 2 (some 8)]),
  (411, 0, [.ref 355 1 0 2 (some 8)]),
  (412, 0, [.nils]),
  (413, 0, [.nils, .nils]),
  (457, 0, [.nils]),
  (458, 0, [.nils, .nils]),
  (459, 0, [.int .i64 (-1), .int .i64 (-1), .int .i64 (-1), .int .i64 (-1)]),
  (460, 0, [.ref 355 1 0 2 (some 8), .ptr 355 1 0, .nils, .nils, .nils, .int .i64 0, .nils, .bool false, .int .i64 0, .nils, .int .i64 0, .ref 459 0 0 4 none, .nils, .nils]),
  (859, 0, [.int .i64 0, .int .i64 (-1), .int .i64 1, .int .i64 0, .int .i64 (-1), .int .i64 (-1), .int .i64 (-1), .int .i64 (-1), .int .i64 (-1), .int .i64 (-1), .int .i64 (-1), .int .i64 (-1), .int .i64 (-1), .int .i64 (-1), .int .i64 (-1), .int .i64 (-1), .int .i64 (-1), .int .i64 (-1), .int .i64 (-1), .int .i64 (-1), .int .i64 (-1), .int .i64 (-1), .int .i64 (-1), .int .i64 (-1), .int .i64 (-1), .int .i64 (-1), .int .i64 (-1), .int .i64 (-1), .int .i64 (-1), .int .i64 (-1), .int .i64 (-1), .int .i64 (-1), .int .i64 (-1)])],
  [] ⟩
theorem nb0_e : chkM fs0 (runR Tryz.prog pvZ (codeT tabL) (ovA ovL []) 200) nb0 = true := by kernel_rfl
theorem nb0_ok : MemoOK Tryz.prog fs0 nb0 := chkM_ok (run_ok (ms := []) trivial) nb0_e
end Go.Proofs.YtklmiejnopdabaaGreatDoor
/- One case: known calls, evaluated by the kernel. Printed by a program. -/
namespace Go.Proofs.YtklmiejnopdabaaGreatDoor
set_option linter.constructorNameAsVariable false
set_option linter.unusedSimpArgs false
set_option linter.unusedVariables false
open Go Go.Ab Go.RowKit
set_option maxRecDepth 100000
set_option linter.unusedVariables false
def nb1 : Memo := ⟨ 67, [.agg [.ref 355 1 0 2 (some 8)], .int .i64 1], 1267,
  [(9, 0, [.int .u8 2, .int .i64 0, .int .u64 0, .int .u8 1, .int .i64 0, .int .u64 5, .int .u8 6, .int .i64 0, .int .u64 0, .int .u8 24, .int .i64 0, .int .u64 0]),
  (11, 0, [.int .u8 1]),
  (14, 3, [.int .u8 27, .int .i64 0, .int .u64 0, .int .u8 29, .int .i64 0, .int .u64 0, .int .u8 29, .int .i64 0, .int .u64 0, .int .u8 24, .int .i64 0, .int .u64 0]),
  (18, 0, [.int .i64 0, .ref 11 0 0 1 none, .bool false, .int .i64 (-1), .ref 9 0 0 4 (some 3), .int .i64 0, .nils, .bool false, .int .i64 (-1), .ref 14 3 0 4 (some 3)]),
  (20, 0, [.ref 18 0 0 2 (some 5)]),
  (21, 0, [.nils, .int .i64 0]),
  (22, 0, [.int .i64 2, .int .u64 18446744073709551614]),
  (24, 0, [.nils, .nils, .nils]),
  (73, 0, [.nils, .nils, .nils]),
  (303, 16, [.int .u8 1, .int .u8 0, .int .u8 1, .int .u8 0, .int .u8 1, .int .u8 0, .int .u8 1, .int .u8 0, .int .u8 1, .int .u8 0, .int .u8 1, .int .u8 0, .int .u8 1, .int .u8 0, .int .u8 1, .int .u8 0, .int .u8 1, .int .u8 0, .int .u8 1, .int .u8 0, .int .u8 1, .int .u8 0, .int .u8 1, .int .u8 0, .int .u8 1, .int .u8 0, .int .u8 1, .int .u8 0, .int .u8 1, .int .u8 0, .int .u8 1, .int .u8 0, .int .u8 1]),
  (329, 3, [.int .u8 2, .int .u8 0, .int .i64 2, .int .i64 0, .int .i64 0, .int .i64 0, .int .i64 0, .int .i64 0, .int .u64 0, .nils, .int .i64 1, .int .i64 0, .int .u8 1, .int .u8 0, .int .i64 3, .int .i64 0, .int .i64 0, .int .i64 0, .int .i64 0, .int .i64 0, .int .u64 5, .nils, .int .i64 2, .int .i64 0, .int .u8 8, .int .u8 0, .int .i64 0, .int .i64 0, .int .i64 2, .int .i64 3, .int .i64 0, .int .i64 0, .int .u64 0, .nils, .int .i64 3, .int .i64 0, .int .u8 12, .int .u8 0, .int .i64 0, .int .i64 0, .int .i64 (-1), .int .i64 0, .int .i64 0, .int .i64 0, .int .u64 0, .nils, .int .i64 3, .int .i64 0]),
  (355, 1, [.nils, .ref 303 16 0 33 none, .int .i64 0, .nils, .bool false, .int .i64 (-1), .ref 329 3 0 4 (some 12), .int .i64 0, .nils, .ref 360 15 0 32 none, .int .i64 0, .nils, .bool false, .int .i64 (-1), .ref 384 3 0 4 (some 12), .int .i64 0]),
  (360, 15, [.int .u8 0, .int .u8 1, .int .u8 0, .int .u8 1, .int .u8 0, .int .u8 1, .int .u8 0, .int .u8 1, .int .u8 0, .int .u8 1, .int .u8 0, .int .u8 1, .int .u8 0, .int .u8 1, .int .u8 0, .int .u8 1, .int .u8 0, .int .u8 1, .int .u8 0, .int .u8 1, .int .u8 0, .int .u8 1, .int .u8 0, .int .u8 1, .int .u8 0, .int .u8 1, .int .u8 0, .int .u8 1, .int .u8 0, .int .u8 1, .int .u8 0, .int .u8 1]),
  (384, 3, [.int .u8 15, .int .u8 0, .int .i64 0, .int .i64 2, .int .i64 0, .int .i64 0, .int .i64 0, .int .i64 0, .int .u64 0, .nils, .int .i64 1, .int .i64 0, .int .u8 17, .int .u8 0, .int .i64 0, .int .i64 0, .int .i64 2, .int .i64 0, .int .i64 0, .int .i64 0, .int .u64 0, .nils, .int .i64 2, .int .i64 0, .int .u8 17, .int .u8 0, .int .i64 0, .int .i64 0, .int .i64 0, .int .i64 0, .int .i64 0, .int .i64 0, .int .u64 0, .nils, .int .i64 3, .int .i64 0, .int .u8 12, .int .u8 0, .int .i64 0, .int .i64 0, .int .i64 (-1), .int .i64 0, .int .i64 0, .int .i64 0, .int .u64 0, .nils, .int .i64 3, .int .i64 0]),
  (410, 0, [.ref 355 1 0 2 (some 8)]),
  (411, 0, [.ref 355 1 0 2 (some 8)]),
  (412, 0, [.nils]),
  (413, 0, [.nils, .nils]),
  (457, 0, [.ref 1260 0 0 1 (some 8)]),
  (458, 0, [.ref 1262 0 0 1 none, .ref 1264 0 0 1 none]),
  (459, 0, [.int .i64 2, .int .i64 3, .int .i64 4, .int .i64 5]),
  (859, 0, [.int .i64 0, .int .i64 (-1), .int .i64 1, .int .i64 0, .int .i64 (-1), .int .i64 (-1), .int .i64 (-1), .int .i64 (-1), .int .i64 (-1), .int .i64 (-1), .int .i64 (-1), .int .i64 (-1), .int .i64 (-1), .int .i64 (-1), .int .i64 (-1), .int .i64 (-1), .int .i64 (-1), .int .i64 (-1), .int .i64 (-1), .int .i64 (-1), .int .i64 (-1), .int .i64 (-1), .int .i64 (-1), .int .i64 (-1), .int .i64 (-1), .int .i64 (-1), .int .i64 (-1), .int .i64 (-1), .int .i64 (-1), .int .i64 (-1), .int .i64 (-1), .int .i64 (-1), .int .i64 (-1)]),
  (1186, 0, [.int .u8 0, .int .u8 0, .int .u8 0, .int .u8 0, .int .u8 0, .int .u8 0, .int .u8 0, .int .u8 0, .int .u8 0, .int .u8 0, .int .u8 0, .int .u8 0, .int .u8 0, .int .u8 0, .int .u8 0, .int .u8 0]),
  (1191, 5, [.int .u8 1, .int .u8 0, .int .i64 0, .int .i64 0, .int .i64 0, .int .i64 0, .int .i64 0, .int .i64 0, .int .u64 0, .nils, .int .i64 1, .int .i64 0, .int .u8 10, .int .u8 0, .int .i64 0, .int .i64 0, .int .i64 0, .int .i64 0, .int .i64 0, .int .i64 0, .int .u64 0, .nils, .int .i64 2, .int .i64 0, .int .u8 2, .int .u8 0, .int .i64 1, .int .i64 (-1), .int .i64 0, .int .i64 0, .int .i64 0, .int .i64 0, .int .u64 0, .nils, .int .i64 3, .int .i64 0, .int .u8 1, .int .u8 0, .int .i64 0, .int .i64 (-1), .int .i64 (-1), .int .i64 0, .int .i64 0, .int .i64 0, .int .u64 5, .nils, .int .i64 4, .int .i64 0, .int .u8 8, .int .u8 0, .int .i64 (-1), .int .i64 (-1), .int .i64 1, .int .i64 0, .int .i64 0, .int .i64 0, .int .u64 0, .nils, .int .i64 5, .int .i64 0, .int .u8 12, .int .u8 0, .int .i64 (-1), .int .i64 (-1), .int .i64 (-1), .int .i64 0, .int .i64 0, .int .i64 0, .int .u64 0, .nils, .int .i64 0, .int .i64 0]),
  (1260, 0, [.nils, .ref 1186 0 0 16 none, .int .i64 0, .nils, .bool false, .int .i64 (-1), .ref 1191 5 0 6 (some 12), .int .i64 0]),
  (1262, 0, [.ref 859 0 0 33 none]),
  (1264, 0, [.ref 459 0 0 4 none]),
  (1265, 0, [.int .i64 (-1), .int .i64 (-1), .int .i64 (-1), .int .i64 (-1)]),
  (1266, 0, [.ref 355 1 0 2 (some 8), .ptr 355 1 8, .nils, .nils, .nils, .int .i64 0, .nils, .bool false, .int .i64 0, .nils, .int .i64 0, .ref 1265 0 0 4 none, .nils, .nils])],
  [],
  .tup [.ref 1647 0 0 32 none, .int .i64 0], 1655,
  [(9, 0, [.int .u8 2, .int .i64 0, .int .u64 0, .int .u8 1, .int .i64 0, .int .u64 5, .int .u8 6, .int .i64 0, .int .u64 0, .int .u8 24, .int .i64 0, .int .u64 0]),
  (11, 0, [.int .u8 1]),
  (14, 3, [.int .u8 27, .int .i64 0, .int .u64 0, .int .u8 29, .int .i64 0, .int .u64 0, .int .u8 29, .int .i64 0, .int .u64 0, .int .u8 24, .int .i64 0, .int .u64 0]),
  (18, 0, [.int .i64 0, .ref 11 0 0 1 none, .bool false, .int .i64 (-1), .ref 9 0 0 4 (some 3), .int .i64 0, .nils, .bool false, .int .i64 (-1), .ref 14 3 0 4 (some 3)]),
  (20, 0, [.ref 18 0 0 2 (some 5)]),
  (21, 0, [.nils, .int .i64 0]),
  (22, 0, [.int .i64 2, .int .u64 18446744073709551614]),
  (24, 0, [.nils, .nils, .nils]),
  (73, 0, [.nils, .nils, .nils]),
  (303, 16, [.int .u8 1, .int .u8 0, .int .u8 1, .int .u8 0, .int .u8 1, .int .u8 0, .int .u8 1, .int .u8 0, .int .u8 1, .int .u8 0, .int .u8 1, .int .u8 0, .int .u8 1, .int .u8 0, .int .u8 1, .int .u8 0, .int .u8 1, .int .u8 0, .int .u8 1, .int .u8 0, .int .u8 1, .int .u8 0, .int .u8 1, .int .u8 0, .int .u8 1, .int .u8 0, .int .u8 1, .int .u8 0, .int .u8 1, .int .u8 0, .int .u8 1, .int .u8 0, .int .u8 1]),
  (329, 3, [.int .u8 2, .int .u8 0, .int .i64 2, .int .i64 0, .int .i64 0, .int .i64 0, .int .i64 0, .int .i64 0, .int .u64 0, .nils, .int .i64 1, .int .i64 0, .int .u8 1, .int .u8 0, .int .i64 3, .int .i64 0, .int .i64 0, .int .i64 0, .int .i64 0, .int .i64 0, .int .u64 5, .nils, .int .i64 2, .int .i64 0, .int .u8 8, .int .u8 0, .int .i64 0, .int .i64 0, .int .i64 2, .int .i64 3, .int .i64 0, .int .i64 0, .int .u64 0, .nils, .int .i64 3, .int .i64 0, .int .u8 12, .int .u8 0, .int .i64 0, .int .i64 0, .int .i64 (-1), .int .i64 0, .int .i64 0, .int .i64 0, .int .u64 0, .nils, .int .i64 3, .int .i64 0]),
  (355, 1, [.nils, .ref 303 16 0 33 none, .int .i64 0, .nils, .bool false, .int .i64 (-1), .ref 329 3 0 4 (some 12), .int .i64 0, .nils, .ref 360 15 0 32 none, .int .i64 0, .nils, .bool false, .int .i64 (-1), .ref 384 3 0 4 (some 12), .int .i64 0]),
  (360, 15, [.int .u8 0, .int .u8 1, .int .u8 0, .int .u8 1, .int .u8 0, .int .u8 1, .int .u8 0, .int .u8 1, .int .u8 0, .int .u8 1, .int .u8 0, .int .u8 1, .int .u8 0, .int .u8 1, .int .u8 0, .int .u8 1, .int .u8 0, .int .u8 1, .int .u8 0, .int .u8 1, .int .u8 0, .int .u8 1, .int .u8 0, .int .u8 1, .int .u8 0, .int .u8 1, .int .u8 0, .int .u8 1, .int .u8 0, .int .u8 1, .int .u8 0, .int .u8 1]),
  (384, 3, [.int .u8 15, .int .u8 0, .int .i64 0, .int .i64 2, .int .i64 0, .int .i64 0, .int .i64 0, .int .i64 0, .int .u64 0, .nils, .int .i64 1, .int .i64 0, .int .u8 17, .int .u8 0, .int .i64 0, .int .i64 0, .int .i64 2, .int .i64 0, .int .i64 0, .int .i64 0, .int .u64 0, .nils, .int .i64 2, .int .i64 0, .int .u8 17, .int .u8 0, .int .i64 0, .int .i64 0, .int .i64 0, .int .i64 0, .int .i64 0, .int .i64 0, .int .u64 0, .nils, .int .i64 3, .int .i64 0, .int .u8 12, .int .u8 0, .int .i64 0, .int .i64 0, .int .i64 (-1), .int .i64 0, .int .i64 0, .int .i64 0, .int .u64 0, .nils, .int .i64 3, .int .i64 0]),
  (410, 0, [.ref 355 1 0 2 (some 8)]),
  (411, 0, [.ref 355 1 0 2 (some 8)]),
  (412, 0, [.nils]),
  (413, 0, [.nils, .nils]),
  (457, 0, [.ref 1260 0 0 1 (some 8)]),
  (458, 0, [.ref 1262 0 0 1 none, .ref 1264 0 0 1 none]),
  (459, 0, [.int .i64 2, .int .i64 3, .int .i64 4, .int .i64 5]),
  (859, 0, [.int .i64 0, .int .i64 (-1), .int .i64 1, .int .i64 0, .int .i64 (-1), .int .i64 (-1), .int .i64 (-1), .int .i64 (-1), .int .i64 (-1), .int .i64 (-1), .int .i64 (-1), .int .i64 (-1), .int .i64 (-1), .int .i64 (-1), .int .i64 (-1), .int .i64 (-1), .int .i64 (-1), .int .i64 (-1), .int .i64 (-1), .int .i64 (-1), .int .i64 (-1), .int .i64 (-1), .int .i64 (-1), .int .i64 (-1), .int .i64 (-1), .int .i64 (-1), .int .i64 (-1), .int .i64 (-1), .int .i64 (-1), .int .i64 (-1), .int .i64 (-1), .int .i64 (-1), .int .i64 (-1)]),
  (1186, 0, [.int .u8 0, .int .u8 0, .int .u8 0, .int .u8 0, .int .u8 0, .int .u8 0, .int .u8 0, .int .u8 0, .int .u8 0, .int .u8 0, .int .u8 0, .int .u8 0, .int .u8 0, .int .u8 0, .int .u8 0, .int .u8 0]),
  (1191, 5, [.int .u8 1, .int .u8 0, .int .i64 0, .int .i64 0, .int .i64 0, .int .i64 0, .int .i64 0, .int .i64 0, .int .u64 0, .nils, .int .i64 1, .int .i64 0, .int .u8 10, .int .u8 0, .int .i64 0, .int .i64 0, .int .i64 0, .int .i64 0, .int .i64 0, .int .i64 0, .int .u64 0, .nils, .int .i64 2, .int .i64 0, .int .u8 2, .int .u8 0, .int .i64 1, .int .i64 (-1), .int .i64 0, .int .i64 0, .int .i64 0, .int .i64 0, .int .u64 0, .nils, .int .i64 3, .int .i64 0, .int .u8 1, .int .u8 0, .int .i64 0, .int .i64 (-1), .int .i64 (-1), .int .i64 0, .int .i64 0, .int .i64 0, .int .u64 5, .nils, .int .i64 4, .int .i64 0, .int .u8 8, .int .u8 0, .int .i64 (-1), .int .i64 (-1), .int .i64 1, .int .i64 0, .int .i64 0, .int .i64 0, .int .u64 0, .nils, .int .i64 5, .int .i64 0, .int .u8 12, .int .u8 0, .int .i64 (-1), .int .i64 (-1), .int .i64 (-1), .int .i64 0, .int .i64 0, .int .i64 0, .int .u64 0, .nils, .int .i64 0, .int .i64 0]),
  (1260, 0, [.nils, .ref 1186 0 0 16 none, .int .i64 0, .nils, .bool false, .int .i64 (-1), .ref 1191 5 0 6 (some 12), .int .i64 0]),
  (1262, 0, [.ref 859 0 0 33 none]),
  (1264, 0, [.ref 459 0 0 4 none]),
  (1265, 0, [.int .i64 (-1), .int .i64 (-1), .int .i64 (-1), .int .i64 (-1)]),
  (1266, 0, [.ref 355 1 0 2 (some 8), .ptr 355 1 8, .nils, .nils, .nils, .int .i64 0, .nils, .bool false, .int .i64 0, .nils, .int .i64 0, .ref 1265 0 0 4 none, .nils, .nils]),
  (1647, 0, [.int .i64 0, .int .i64 (-1), .int .i64 1, .int .i64 (-1), .int .i64 (-1), .int .i64 (-1), .int .i64 (-1), .int .i64 (-1), .int .i64 (-1), .int .i64 (-1), .int .i64 (-1), .int .i64 (-1), .int .i64 (-1), .int .i64 (-1), .int .i64 (-1), .int .i64 (-1), .int .i64 (-1), .int .i64 (-1), .int .i64 (-1), .int .i64 (-1), .int .i64 (-1), .int .i64 (-1), .int .i64 (-1), .int .i64 (-1), .int .i64 (-1), .int .i64 (-1), .int .i64 (-1), .int .i64 (-1), .int .i64 (-1), .int .i64 (-1), .int .i64 (-1), .int .i64 (-1)])],
  [] ⟩
theorem nb1_e : chkM fs0 (runR Tryz.prog pvZ (codeT tabL) (ovA ovL []) 200) nb1 = true := by kernel_rfl
theorem nb1_ok : MemoOK Tryz.prog fs0 nb1 := chkM_ok (run_ok (ms := []) trivial) nb1_e
end Go.Proofs.YtklmiejnopdabaaGreatDoor
/- One case: known calls, evaluated by the kernel. Printed by a program. -/
namespace Go.Proofs.YtklmiejnopdabaaGreatDoor
set_option linter.constructorNameAsVariable false
set_option linter.unusedSimpArgs false
set_option linter.unusedVariables false
open Go Go.Ab Go.RowKit
set_option maxRecDepth 100000
set_option linter.unusedVariables false
def nb2 : Memo := ⟨ 39, [.agg [.ref 355 1 0 2 (some 8)]], 411,
  [(9, 0, [.int .u8 2, .int .i64 0, .int .u64 0, .int .u8 1, .int .i64 0, .int .u64 5, .int .u8 6, .int .i64 0, .int .u64 0, .int .u8 24, .int .i64 0, .int .u64 0]),
  (11, 0, [.int .u8 1]),
  (14, 3, [.int .u8 27, .int .i64 0, .int .u64 0, .int .u8 29, .int .i64 0, .int .u64 0, .int .u8 29, .int .i64 0, .int .u64 0, .int .u8 24, .int .i64 0, .int .u64 0]),
  (18, 0, [.int .i64 0, .ref 11 0 0 1 none, .bool false, .int .i64 (-1), .ref 9 0 0 4 (some 3), .int .i64 0, .nils, .bool false, .int .i64 (-1), .ref 14 3 0 4 (some 3)]),
  (20, 0, [.ref 18 0 0 2 (some 5)]),
  (21, 0, [.nils, .int .i64 0]),
  (22, 0, [.int .i64 2, .int .u64 18446744073709551614]),
  (24, 0, [.nils, .nils, .nils]),
  (73, 0, [.nils, .nils, .nils]),
  (303, 16, [.int .u8 1, .int .u8 0, .int .u8 1, .int .u8 0, .int .u8 1, .int .u8 0, .int .u8 1, .int .u8 0, .int .u8 1, .int .u8 0, .int .u8 1, .int .u8 0, .int .u8 1, .int .u8 0, .int .u8 1, .int .u8 0, .int .u8 1, .int .u8 0, .int .u8 1, .int .u8 0, .int .u8 1, .int .u8 0, .int .u8 1, .int .u8 0, .int .u8 1, .int .u8 0, .int .u8 1, .int .u8 0, .int .u8 1, .int .u8 0, .int .u8 1, .int .u8 0, .int .u8 1]),
  (329, 3, [.int .u8 2, .int .u8 0, .int .i64 2, .int .i64 0, .int .i64 0, .int .i64 0, .int .i64 0, .int .i64 0, .int .u64 0, .nils, .int .i64 1, .int .i64 0, .int .u8 1, .int .u8 0, .int .i64 3, .int .i64 0, .int .i64 0, .int .i64 0, .int .i64 0, .int .i64 0, .int .u64 5, .nils, .int .i64 2, .int .i64 0, .int .u8 8, .int .u8 0, .int .i64 0, .int .i64 0, .int .i64 2, .int .i64 3, .int .i64 0, .int .i64 0, .int .u64 0, .nils, .int .i64 3, .int .i64 0, .int .u8 12, .int .u8 0, .int .i64 0, .int .i64 0, .int .i64 (-1), .int .i64 0, .int .i64 0, .int .i64 0, .int .u64 0, .nils, .int .i64 3, .int .i64 0]),
  (355, 1, [.nils, .ref 303 16 0 33 none, .int .i64 0, .nils, .bool false, .int .i64 (-1), .ref 329 3 0 4 (some 12), .int .i64 0, .nils, .ref 360 15 0 32 none, .int .i64 0, .nils, .bool false, .int .i64 (-1), .ref 384 3 0 4 (some 12), .int .i64 0]),
  (360, 15, [.int .u8 0, .int .u8 1, .int .u8 0, .int .u8 1, .int .u8 0, .int .u8 1, .int .u8 0, .int .u8 1, .int .u8 0, .int .u8 1, .int .u8 0, .int .u8 1, .int .u8 0, .int .u8 1, .int .u8 0, .int .u8 1, .int .u8 0, .int .u8 1, .int .u8 0, .int .u8 1, .int .u8 0, .int .u8 1, .int .u8 0, .int .u8 1, .int .u8 0, .int .u8 1, .int .u8 0, .int .u8 1, .int .u8 0, .int .u8 1, .int .u8 0, .int .u8 1]),
  (384, 3, [.int .u8 15, .int .u8 0, .int .i64 0, .int .i64 2, .int .i64 0, .int .i64 0, .int .i64 0, .int .i64 0, .int .u64 0, .nils, .int .i64 1, .int .i64 0, .int .u8 17, .int .u8 0, .int .i64 0, .int .i64 0, .int .i64 2, .int .i64 0, .int .i64 0, .int .i64 0, .int .u64 0, .nils, .int .i64 2, .int .i64 0, .int .u8 17, .int .u8 0, .int .i64 0, .int .i64 0, .int .i64 0, .int .i64 0, .int .i64 0, .int .i64 0, .int .u64 0, .nils, .int .i64 3, .int .i64 0, .int .u8 12, .int .u8 0, .int .i64 0, .int .i64 0, .int .i64 (-1), .int .i64 0, .int .i64 0, .int .i64 0, .int .u64 0, .nils, .int .i64 3, .int .i64 0]),
  (410, 0, [.ref 355 1 0 2 (some 8)])],
  [],
  .tup [.agg [.ref 1260 1 0 2 (some 8)], .agg [.ref 1262 1 0 2 none, .ref 1264 1 0 2 none], .int .i64 0], 2079,
  [(9, 0, [.int .u8 2, .int .i64 0, .int .u64 0, .int .u8 1, .int .i64 0, .int .u64 5, .int .u8 6, .int .i64 0, .int .u64 0, .int .u8 24, .int .i64 0, .int .u64 0]),
  (11, 0, [.int .u8 1]),
  (14, 3, [.int .u8 27, .int .i64 0, .int .u64 0, .int .u8 29, .int .i64 0, .int .u64 0, .int .u8 29, .int .i64 0, .int .u64 0, .int .u8 24, .int .i64 0, .int .u64 0]),
  (18, 0, [.int .i64 0, .ref 11 0 0 1 none, .bool false, .int .i64 (-1), .ref 9 0 0 4 (some 3), .int .i64 0, .nils, .bool false, .int .i64 (-1), .ref 14 3 0 4 (some 3)]),
  (20, 0, [.ref 18 0 0 2 (some 5)]),
  (21, 0, [.nils, .int .i64 0]),
  (22, 0, [.int .i64 2, .int .u64 18446744073709551614]),
  (24, 0, [.nils, .nils, .nils]),
  (73, 0, [.nils, .nils, .nils]),
  (303, 16, [.int .u8 1, .int .u8 0, .int .u8 1, .int .u8 0, .int .u8 1, .int .u8 0, .int .u8 1, .int .u8 0, .int .u8 1, .int .u8 0, .int .u8 1, .int .u8 0, .int .u8 1, .int .u8 0, .int .u8 1, .int .u8 0, .int .u8 1, .int .u8 0, .int .u8 1, .int .u8 0, .int .u8 1, .int .u8 0, .int .u8 1, .int .u8 0, .int .u8 1, .int .u8 0, .int .u8 1, .int .u8 0, .int .u8 1, .int .u8 0, .int .u8 1, .int .u8 0, .int .u8 1]),
  (329, 3, [.int .u8 2, .int .u8 0, .int .i64 2, .int .i64 0, .int .i64 0, .int .i64 0, .int .i64 0, .int .i64 0, .int .u64 0, .nils, .int .i64 1, .int .i64 0, .int .u8 1, .int .u8 0, .int .i64 3, .int .i64 0, .int .i64 0, .int .i64 0, .int .i64 0, .int .i64 0, .int .u64 5, .nils, .int .i64 2, .int .i64 0, .int .u8 8, .int .u8 0, .int .i64 0, .int .i64 0, .int .i64 2, .int .i64 3, .int .i64 0, .int .i64 0, .int .u64 0, .nils, .int .i64 3, .int .i64 0, .int .u8 12, .int .u8 0, .int .i64 0, .int .i64 0, .int .i64 (-1), .int .i64 0, .int .i64 0, .int .i64 0, .int .u64 0, .nils, .int .i64 3, .int .i64 0]),
  (355, 1, [.nils, .ref 303 16 0 33 none, .int .i64 0, .nils, .bool false, .int .i64 (-1), .ref 329 3 0 4 (some 12), .int .i64 0, .nils, .ref 360 15 0 32 none, .int .i64 0, .nils, .bool false, .int .i64 (-1), .ref 384 3 0 4 (some 12), .int .i64 0]),
  (360, 15, [.int .u8 0, .int .u8 1, .int .u8 0, .int .u8 1, .int .u8 0, .int .u8 1, .int .u8 0, .int .u8 1, .int .u8 0, .int .u8 1, .int .u8 0, .int .u8 1, .int .u8 0, .int .u8 1, .int .u8 0, .int .u8 1, .int .u8 0, .int .u8 1, .int .u8 0, .int .u8 1, .int .u8 0, .int .u8 1, .int .u8 0, .int .u8 1, .int .u8 0, .int .u8 1, .int .u8 0, .int .u8 1, .int .u8 0, .int .u8 1, .int .u8 0, .int .u8 1]),
  (384, 3, [.int .u8 15, .int .u8 0, .int .i64 0, .int .i64 2, .int .i64 0, .int .i64 0, .int .i64 0, .int .i64 0, .int .u64 0, .nils, .int .i64 1, .int .i64 0, .int .u8 17, .int .u8 0, .int .i64 0, .int .i64 0, .int .i64 2, .int .i64 0, .int .i64 0, .int .i64 0, .int .u64 0, .nils, .int .i64 2, .int .i64 0, .int .u8 17, .int .u8 0, .int .i64 0, .int .i64 0, .int .i64 0, .int .i64 0, .int .i64 0, .int .i64 0, .int .u64 0, .nils, .int .i64 3, .int .i64 0, .int .u8 12, .int .u8 0, .int .i64 0, .int .i64 0, .int .i64 (-1), .int .i64 0, .int .i64 0, .int .i64 0, .int .u64 0, .nils, .int .i64 3, .int .i64 0]),
  (410, 0, [.ref 355 1 0 2 (some 8)]),
  (459, 0, [.int .i64 2, .int .i64 3, .int .i64 4, .int .i64 5]),
  (859, 0, [.int .i64 0, .int .i64 (-1), .int .i64 1, .int .i64 0, .int .i64 (-1), .int .i64 (-1), .int .i64 (-1), .int .i64 (-1), .int .i64 (-1), .int .i64 (-1), .int .i64 (-1), .int .i64 (-1), .int .i64 (-1), .int .i64 (-1), .int .i64 (-1), .int .i64 (-1), .int .i64 (-1), .int .i64 (-1), .int .i64 (-1), .int .i64 (-1), .int .i64 (-1), .int .i64 (-1), .int .i64 (-1), .int .i64 (-1), .int .i64 (-1), .int .i64 (-1), .int .i64 (-1), .int .i64 (-1), .int .i64 (-1), .int .i64 (-1), .int .i64 (-1), .int .i64 (-1), .int .i64 (-1)]),
  (1186, 0, [.int .u8 0, .int .u8 0, .int .u8 0, .int .u8 0, .int .u8 0, .int .u8 0, .int .u8 0, .int .u8 0, .int .u8 0, .int .u8 0, .int .u8 0, .int .u8 0, .int .u8 0, .int .u8 0, .int .u8 0, .int .u8 0]),
  (1191, 5, [.int .u8 1, .int .u8 0, .int .i64 0, .int .i64 0, .int .i64 0, .int .i64 0, .int .i64 0, .int .i64 0, .int .u64 0, .nils, .int .i64 1, .int .i64 0, .int .u8 10, .int .u8 0, .int .i64 0, .int .i64 0, .int .i64 0, .int .i64 0, .int .i64 0, .int .i64 0, .int .u64 0, .nils, .int .i64 2, .int .i64 0, .int .u8 2, .int .u8 0, .int .i64 1, .int .i64 (-1), .int .i64 0, .int .i64 0, .int .i64 0, .int .i64 0, .int .u64 0, .nils, .int .i64 3, .int .i64 0, .int .u8 1, .int .u8 0, .int .i64 0, .int .i64 (-1), .int .i64 (-1), .int .i64 0, .int .i64 0, .int .i64 0, .int .u64 5, .nils, .int .i64 4, .int .i64 0, .int .u8 8, .int .u8 0, .int .i64 (-1), .int .i64 (-1), .int .i64 1, .int .i64 0, .int .i64 0, .int .i64 0, .int .u64 0, .nils, .int .i64 5, .int .i64 0, .int .u8 12, .int .u8 0, .int .i64 (-1), .int .i64 (-1), .int .i64 (-1), .int .i64 0, .int .i64 0, .int .i64 0, .int .u64 0, .nils, .int .i64 0, .int .i64 0]),
  (1260, 1, [.nils, .ref 1186 0 0 16 none, .int .i64 0, .nils, .bool false, .int .i64 (-1), .ref 1191 5 0 6 (some 12), .int .i64 0, .nils, .ref 1955 0 0 16 none, .int .i64 0, .nils, .bool false, .int .i64 (-1), .ref 1960 4 0 5 (some 12), .int .i64 0]),
  (1262, 1, [.ref 859 0 0 33 none, .ref 1647 0 0 32 none]),
  (1264, 1, [.ref 459 0 0 4 none, .ref 1265 0 0 4 none]),
  (1265, 0, [.int .i64 1, .int .i64 2, .int .i64 3, .int .i64 4]),
  (1647, 0, [.int .i64 0, .int .i64 (-1), .int .i64 1, .int .i64 (-1), .int .i64 (-1), .int .i64 (-1), .int .i64 (-1), .int .i64 (-1), .int .i64 (-1), .int .i64 (-1), .int .i64 (-1), .int .i64 (-1), .int .i64 (-1), .int .i64 (-1), .int .i64 (-1), .int .i64 (-1), .int .i64 (-1), .int .i64 (-1), .int .i64 (-1), .int .i64 (-1), .int .i64 (-1), .int .i64 (-1), .int .i64 (-1), .int .i64 (-1), .int .i64 (-1), .int .i64 (-1), .int .i64 (-1), .int .i64 (-1), .int .i64 (-1), .int .i64 (-1), .int .i64 (-1), .int .i64 (-1)]),
  (1955, 0, [.int .u8 0, .int .u8 0, .int .u8 0, .int .u8 0, .int .u8 0, .int .u8 0, .int .u8 0, .int .u8 0, .int .u8 0, .int .u8 0, .int .u8 0, .int .u8 0, .int .u8 0, .int .u8 0, .int .u8 0, .int .u8 0]),
  (1960, 4, [.int .u8 10, .int .u8 0, .int .i64 0, .int .i64 0, .int .i64 0, .int .i64 0, .int .i64 0, .int .i64 0, .int .u64 0, .nils, .int .i64 1, .int .i64 0, .int .u8 15, .int .u8 0, .int .i64 0, .int .i64 1, .int .i64 (-1), .int .i64 0, .int .i64 0, .int .i64 0, .int .u64 0, .nils, .int .i64 2, .int .i64 0, .int .u8 17, .int .u8 0, .int .i64 (-1), .int .i64 (-1), .int .i64 1, .int .i64 0, .int .i64 0, .int .i64 0, .int .u64 0, .nils, .int .i64 3, .int .i64 0, .int .u8 17, .int .u8 0, .int .i64 (-1), .int .i64 (-1), .int .i64 0, .int .i64 0, .int .i64 0, .int .i64 0, .int .u64 0, .nils, .int .i64 4, .int .i64 0, .int .u8 12, .int .u8 0, .int .i64 (-1), .int .i64 (-1), .int .i64 (-1), .int .i64 0, .int .i64 0, .int .i64 0, .int .u64 0, .nils, .int .i64 0, .int .i64 0])],
  [] ⟩
theorem nb2_e : chkM fs0 (runR Tryz.prog pvZ (codeT tabL) (ovA ovL [nb0, nb1]) 200) nb2 = true := by kernel_rfl
theorem nb2_ok : MemoOK Tryz.prog fs0 nb2 := chkM_ok (run_ok (ms := [nb0, nb1]) ⟨nb0_ok, nb1_ok, trivial⟩) nb2_e
end Go.Proofs.YtklmiejnopdabaaGreatDoor
/- One case: known calls, evaluated by the kernel. Printed by a program. -/
namespace Go.Proofs.YtklmiejnopdabaaGreatDoor
set_option linter.constructorNameAsVariable false
set_option linter.unusedSimpArgs false
set_option linter.unusedVariables false
open Go Go.Ab Go.RowKit
set_option maxRecDepth 100000
set_option linter.unusedVariables false
def nb3 : Memo := ⟨ 40, [.agg [.ref 355 1 0 2 (some 8)], .agg [.ref 1260 1 0 2 (some 8)], .agg [.ref 1262 1 0 2 none, .ref 1264 1 0 2 none]], 2081,
  [(9, 0, [.int .u8 2, .int .i64 0, .int .u64 0, .int .u8 1, .int .i64 0, .int .u64 5, .int .u8 6, .int .i64 0, .int .u64 0, .int .u8 24, .int .i64 0, .int .u64 0]),
  (11, 0, [.int .u8 1]),
  (14, 3, [.int .u8 27, .int .i64 0, .int .u64 0, .int .u8 29, .int .i64 0, .int .u64 0, .int .u8 29, .int .i64 0, .int .u64 0, .int .u8 24, .int .i64 0, .int .u64 0]),
  (18, 0, [.int .i64 0, .ref 11 0 0 1 none, .bool false, .int .i64 (-1), .ref 9 0 0 4 (some 3), .int .i64 0, .nils, .bool false, .int .i64 (-1), .ref 14 3 0 4 (some 3)]),
  (20, 0, [.ref 18 0 0 2 (some 5)]),
  (21, 0, [.nils, .int .i64 0]),
  (22, 0, [.int .i64 2, .int .u64 18446744073709551614]),
  (24, 0, [.nils, .nils, .nils]),
  (73, 0, [.nils, .nils, .nils]),
  (303, 16, [.int .u8 1, .int .u8 0, .int .u8 1, .int .u8 0, .int .u8 1, .int .u8 0, .int .u8 1, .int .u8 0, .int .u8 1, .int .u8 0, .int .u8 1, .int .u8 0, .int .u8 1, .int .u8 0, .int .u8 1, .int .u8 0, .int .u8 1, .int .u8 0, .int .u8 1, .int .u8 0, .int .u8 1, .int .u8 0, .int .u8 1, .int .u8 0, .int .u8 1, .int .u8 0, .int .u8 1, .int .u8 0, .int .u8 1, .int .u8 0, .int .u8 1, .int .u8 0, .int .u8 1]),
  (329, 3, [.int .u8 2, .int .u8 0, .int .i64 2, .int .i64 0, .int .i64 0, .int .i64 0, .int .i64 0, .int .i64 0, .int .u64 0, .nils, .int .i64 1, .int .i64 0, .int .u8 1, .int .u8 0, .int .i64 3, .int .i64 0, .int .i64 0, .int .i64 0, .int .i64 0, .int .i64 0, .int .u64 5, .nils, .int .i64 2, .int .i64 0, .int .u8 8, .int .u8 0, .int .i64 0, .int .i64 0, .int .i64 2, .int .i64 3, .int .i64 0, .int .i64 0, .int .u64 0, .nils, .int .i64 3, .int .i64 0, .int .u8 12, .int .u8 0, .int .i64 0, .int .i64 0, .int .i64 (-1), .int .i64 0, .int .i64 0, .int .i64 0, .int .u64 0, .nils, .int .i64 3, .int .i64 0]),
  (355, 1, [.nils, .ref 303 16 0 33 none, .int .i64 0, .nils, .bool false, .int .i64 (-1), .ref 329 3 0 4 (some 12), .int .i64 0, .nils, .ref 360 15 0 32 none, .int .i64 0, .nils, .bool false, .int .i64 (-1), .ref 384 3 0 4 (some 12), .int .i64 0]),
  (360, 15, [.int .u8 0, .int .u8 1, .int .u8 0, .int .u8 1, .int .u8 0, .int .u8 1, .int .u8 0, .int .u8 1, .int .u8 0, .int .u8 1, .int .u8 0, .int .u8 1, .int .u8 0, .int .u8 1, .int .u8 0, .int .u8 1, .int .u8 0, .int .u8 1, .int .u8 0, .int .u8 1, .int .u8 0, .int .u8 1, .int .u8 0, .int .u8 1, .int .u8 0, .int .u8 1, .int .u8 0, .int .u8 1, .int .u8 0, .int .u8 1, .int .u8 0, .int .u8 1]),
  (384, 3, [.int .u8 15, .int .u8 0, .int .i64 0, .int .i64 2, .int .i64 0, .int .i64 0, .int .i64 0, .int .i64 0, .int .u64 0, .nils, .int .i64 1, .int .i64 0, .int .u8 17, .int .u8 0, .int .i64 0, .int .i64 0, .int .i64 2, .int .i64 0, .int .i64 0, .int .i64 0, .int .u64 0, .nils, .int .i64 2, .int .i64 0, .int .u8 17, .int .u8 0, .int .i64 0, .int .i64 0, .int .i64 0, .int .i64 0, .int .i64 0, .int .i64 0, .int .u64 0, .nils, .int .i64 3, .int .i64 0, .int .u8 12, .int .u8 0, .int .i64 0, .int .i64 0, .int .i64 (-1), .int .i64 0, .int .i64 0, .int .i64 0, .int .u64 0, .nils, .int .i64 3, .int .i64 0]),
  (459, 0, [.int .i64 2, .int .i64 3, .int .i64 4, .int .i64 5]),
  (859, 0, [.int .i64 0, .int .i64 (-1), .int .i64 1, .int .i64 0, .int .i64 (-1), .int .i64 (-1), .int .i64 (-1), .int .i64 (-1), .int .i64 (-1), .int .i64 (-1), .int .i64 (-1), .int .i64 (-1), .int .i64 (-1), .int .i64 (-1), .int .i64 (-1), .int .i64 (-1), .int .i64 (-1), .int .i64 (-1), .int .i64 (-1), .int .i64 (-1), .int .i64 (-1), .int .i64 (-1), .int .i64 (-1), .int .i64 (-1), .int .i64 (-1), .int .i64 (-1), .int .i64 (-1), .int .i64 (-1), .int .i64 (-1), .int .i64 (-1), .int .i64 (-1), .int .i64 (-1), .int .i64 (-1)]),
  (1186, 0, [.int .u8 0, .int .u8 0, .int .u8 0, .int .u8 0, .int .u8 0, .int .u8 0, .int .u8 0, .int .u8 0, .int .u8 0, .int .u8 0, .int .u8 0, .int .u8 0, .int .u8 0, .int .u8 0, .int .u8 0, .int .u8 0]),
  (1191, 5, [.int .u8 1, .int .u8 0, .int .i64 0, .int .i64 0, .int .i64 0, .int .i64 0, .int .i64 0, .int .i64 0, .int .u64 0, .nils, .int .i64 1, .int .i64 0, .int .u8 10, .int .u8 0, .int .i64 0, .int .i64 0, .int .i64 0, .int .i64 0, .int .i64 0, .int .i64 0, .int .u64 0, .nils, .int .i64 2, .int .i64 0, .int .u8 2, .int .u8 0, .int .i64 1, .int .i64 (-1), .int .i64 0, .int .i64 0, .int .i64 0, .int .i64 0, .int .u64 0, .nils, .int .i64 3, .int .i64 0, .int .u8 1, .int .u8 0, .int .i64 0, .int .i64 (-1), .int .i64 (-1), .int .i64 0, .int .i64 0, .int .i64 0, .int .u64 5, .nils, .int .i64 4, .int .i64 0, .int .u8 8, .int .u8 0, .int .i64 (-1), .int .i64 (-1), .int .i64 1, .int .i64 0, .int .i64 0, .int .i64 0, .int .u64 0, .nils, .int .i64 5, .int .i64 0, .int .u8 12, .int .u8 0, .int .i64 (-1), .int .i64 (-1), .int .i64 (-1), .int .i64 0, .int .i64 0, .int .i64 0, .int .u64 0, .nils, .int .i64 0, .int .i64 0]),
  (1260, 1, [.nils, .ref 1186 0 0 16 none, .int .i64 0, .nils, .bool false, .int .i64 (-1), .ref 1191 5 0 6 (some 12), .int .i64 0, .nils, .ref 1955 0 0 16 none, .int .i64 0, .nils, .bool false, .int .i64 (-1), .ref 1960 4 0 5 (some 12), .int .i64 0]),
  (1262, 1, [.ref 859 0 0 33 none, .ref 1647 0 0 32 none]),
  (1264, 1, [.ref 459 0 0 4 none, .ref 1265 0 0 4 none]),
  (1265, 0, [.int .i64 1, .int .i64 2, .int .i64 3, .int .i64 4]),
  (1647, 0, [.int .i64 0, .int .i64 (-1), .int .i64 1, .int .i64 (-1), .int .i64 (-1), .int .i64 (-1), .int .i64 (-1), .int .i64 (-1), .int .i64 (-1), .int .i64 (-1), .int .i64 (-1), .int .i64 (-1), .int .i64 (-1), .int .i64 (-1), .int .i64 (-1), .int .i64 (-1), .int .i64 (-1), .int .i64 (-1), .int .i64 (-1), .int .i64 (-1), .int .i64 (-1), .int .i64 (-1), .int .i64 (-1), .int .i64 (-1), .int .i64 (-1), .int .i64 (-1), .int .i64 (-1), .int .i64 (-1), .int .i64 (-1), .int .i64 (-1), .int .i64 (-1), .int .i64 (-1)]),
  (1955, 0, [.int .u8 0, .int .u8 0, .int .u8 0, .int .u8 0, .int .u8 0, .int .u8 0, .int .u8 0, .int .u8 0, .int .u8 0, .int .u8 0, .int .u8 0, .int .u8 0, .int .u8 0, .int .u8 0, .int .u8 0, .int .u8 0]),
  (1960, 4, [.int .u8 10, .int .u8 0, .int .i64 0, .int .i64 0, .int .i64 0, .int .i64 0, .int .i64 0, .int .i64 0, .int .u64 0, .nils, .int .i64 1, .int .i64 0, .int .u8 15, .int .u8 0, .int .i64 0, .int .i64 1, .int .i64 (-1), .int .i64 0, .int .i64 0, .int .i64 0, .int .u64 0, .nils, .int .i64 2, .int .i64 0, .int .u8 17, .int .u8 0, .int .i64 (-1), .int .i64 (-1), .int .i64 1, .int .i64 0, .int .i64 0, .int .i64 0, .int .u64 0, .nils, .int .i64 3, .int .i64 0, .int .u8 17, .int .u8 0, .int .i64 (-1), .int .i64 (-1), .int .i64 0, .int .i64 0, .int .i64 0, .int .i64 0, .int .u64 0, .nils, .int .i64 4, .int .i64 0, .int .u8 12, .int .u8 0, .int .i64 (-1), .int .i64 (-1), .int .i64 (-1), .int .i64 0, .int .i64 0, .int .i64 0, .int .u64 0, .nils, .int .i64 0, .int .i64 0]),
  (2079, 0, [.ref 1260 1 0 2 (some 8)])],
  [],
  .int .i64 0, 3190,
  [(9, 0, [.int .u8 2, .int .i64 0, .int .u64 0, .int .u8 1, .int .i64 0, .int .u64 5, .int .u8 6, .int .i64 0, .int .u64 0, .int .u8 24, .int .i64 0, .int .u64 0]),
  (11, 0, [.int .u8 1]),
  (14, 3, [.int .u8 27, .int .i64 0, .int .u64 0, .int .u8 29, .int .i64 0, .int .u64 0, .int .u8 29, .int .i64 0, .int .u64 0, .int .u8 24, .int .i64 0, .int .u64 0]),
  (18, 0, [.int .i64 0, .ref 11 0 0 1 none, .bool false, .int .i64 (-1), .ref 9 0 0 4 (some 3), .int .i64 0, .nils, .bool false, .int .i64 (-1), .ref 14 3 0 4 (some 3)]),
  (20, 0, [.ref 18 0 0 2 (some 5)]),
  (21, 0, [.nils, .int .i64 0]),
  (22, 0, [.int .i64 2, .int .u64 18446744073709551614]),
  (24, 0, [.nils, .nils, .nils]),
  (73, 0, [.nils, .nils, .nils]),
  (1186, 0, [.int .u8 0, .int .u8 0, .int .u8 0, .int .u8 0, .int .u8 0, .int .u8 0, .int .u8 0, .int .u8 0, .int .u8 0, .int .u8 0, .int .u8 0, .int .u8 0, .int .u8 0, .int .u8 0, .int .u8 0, .int .u8 0]),
  (1191, 5, [.int .u8 1, .int .u8 0, .int .i64 0, .int .i64 0, .int .i64 0, .int .i64 0, .int .i64 0, .int .i64 0, .int .u64 0, .nils, .int .i64 1, .int .i64 0, .int .u8 10, .int .u8 0, .int .i64 0, .int .i64 0, .int .i64 0, .int .i64 0, .int .i64 0, .int .i64 0, .int .u64 0, .nils, .int .i64 2, .int .i64 0, .int .u8 2, .int .u8 0, .int .i64 1, .int .i64 (-1), .int .i64 0, .int .i64 0, .int .i64 0, .int .i64 0, .int .u64 0, .nils, .int .i64 3, .int .i64 0, .int .u8 1, .int .u8 0, .int .i64 0, .int .i64 (-1), .int .i64 (-1), .int .i64 0, .int .i64 0, .int .i64 0, .int .u64 5, .nils, .int .i64 4, .int .i64 0, .int .u8 8, .int .u8 0, .int .i64 (-1), .int .i64 (-1), .int .i64 1, .int .i64 0, .int .i64 0, .int .i64 0, .int .u64 0, .nils, .int .i64 5, .int .i64 0, .int .u8 12, .int .u8 0, .int .i64 (-1), .int .i64 (-1), .int .i64 (-1), .int .i64 0, .int .i64 0, .int .i64 0, .int .u64 0, .nils, .int .i64 0, .int .i64 0]),
  (1260, 1, [.nils, .ref 1186 0 0 16 none, .int .i64 0, .nils, .bool false, .int .i64 (-1), .ref 1191 5 0 6 (some 12), .int .i64 0, .nils, .ref 1955 0 0 16 none, .int .i64 0, .nils, .bool false, .int .i64 (-1), .ref 1960 4 0 5 (some 12), .int .i64 0]),
  (1955, 0, [.int .u8 0, .int .u8 0, .int .u8 0, .int .u8 0, .int .u8 0, .int .u8 0, .int .u8 0, .int .u8 0, .int .u8 0, .int .u8 0, .int .u8 0, .int .u8 0, .int .u8 0, .int .u8 0, .int .u8 0, .int .u8 0]),
  (1960, 4, [.int .u8 10, .int .u8 0, .int .i64 0, .int .i64 0, .int .i64 0, .int .i64 0, .int .i64 0, .int .i64 0, .int .u64 0, .nils, .int .i64 1, .int .i64 0, .int .u8 15, .int .u8 0, .int .i64 0, .int .i64 1, .int .i64 (-1), .int .i64 0, .int .i64 0, .int .i64 0, .int .u64 0, .nils, .int .i64 2, .int .i64 0, .int .u8 17, .int .u8 0, .int .i64 (-1), .int .i64 (-1), .int .i64 1, .int .i64 0, .int .i64 0, .int .i64 0, .int .u64 0, .nils, .int .i64 3, .int .i64 0, .int .u8 17, .int .u8 0, .int .i64 (-1), .int .i64 (-1), .int .i64 0, .int .i64 0, .int .i64 0, .int .i64 0, .int .u64 0, .nils, .int .i64 4, .int .i64 0, .int .u8 12, .int .u8 0, .int .i64 (-1), .int .i64 (-1), .int .i64 (-1), .int .i64 0, .int .i64 0, .int .i64 0, .int .u64 0, .nils, .int .i64 0, .int .i64 0]),
  (2079, 0, [.ref 1260 1 0 2 (some 8)])],
  [] ⟩
theorem nb3_e : chkM fs0 (runR Tryz.prog pvZ (codeT tabL) (ovA ovL []) 200) nb3 = true := by kernel_rfl
theorem nb3_ok : MemoOK Tryz.prog fs0 nb3 := chkM_ok (run_ok (ms := []) trivial) nb3_e
end Go.Proofs.YtklmiejnopdabaaGreatDoor
/- One case: known calls, evaluated by the kernel. Printed by a program. -/
namespace Go.Proofs.YtklmiejnopdabaaGreatDoor
set_option linter.constructorNameAsVariable false
set_option linter.unusedSimpArgs false
set_option linter.unusedVariables false
open Go Go.Ab Go.RowKit
set_option maxRecDepth 100000
set_option linter.unusedVariables false
def nb4 : Memo := ⟨ 41, [.agg [.ref 1260 1 0 2 (some 8)]], 3190,
  [(9, 0, [.int .u8 2, .int .i64 0, .int .u64 0, .int .u8 1, .int .i64 0, .int .u64 5, .int .u8 6, .int .i64 0, .int .u64 0, .int .u8 24, .int .i64 0, .int .u64 0]),
  (11, 0, [.int .u8 1]),
  (14, 3, [.int .u8 27, .int .i64 0, .int .u64 0, .int .u8 29, .int .i64 0, .int .u64 0, .int .u8 29, .int .i64 0, .int .u64 0, .int .u8 24, .int .i64 0, .int .u64 0]),
  (18, 0, [.int .i64 0, .ref 11 0 0 1 none, .bool false, .int .i64 (-1), .ref 9 0 0 4 (some 3), .int .i64 0, .nils, .bool false, .int .i64 (-1), .ref 14 3 0 4 (some 3)]),
  (20, 0, [.ref 18 0 0 2 (some 5)]),
  (21, 0, [.nils, .int .i64 0]),
  (22, 0, [.int .i64 2, .int .u64 18446744073709551614]),
  (24, 0, [.nils, .nils, .nils]),
  (73, 0, [.nils, .nils, .nils]),
  (1186, 0, [.int .u8 0, .int .u8 0, .int .u8 0, .int .u8 0, .int .u8 0, .int .u8 0, .int .u8 0, .int .u8 0, .int .u8 0, .int .u8 0, .int .u8 0, .int .u8 0, .int .u8 0, .int .u8 0, .int .u8 0, .int .u8 0]),
  (1191, 5, [.int .u8 1, .int .u8 0, .int .i64 0, .int .i64 0, .int .i64 0, .int .i64 0, .int .i64 0, .int .i64 0, .int .u64 0, .nils, .int .i64 1, .int .i64 0, .int .u8 10, .int .u8 0, .int .i64 0, .int .i64 0, .int .i64 0, .int .i64 0, .int .i64 0, .int .i64 0, .int .u64 0, .nils, .int .i64 2, .int .i64 0, .int .u8 2, .int .u8 0, .int .i64 1, .int .i64 (-1), .int .i64 0, .int .i64 0, .int .i64 0, .int .i64 0, .int .u64 0, .nils, .int .i64 3, .int .i64 0, .int .u8 1, .int .u8 0, .int .i64 0, .int .i64 (-1), .int .i64 (-1), .int .i64 0, .int .i64 0, .int .i64 0, .int .u64 5, .nils, .int .i64 4, .int .i64 0, .int .u8 8, .int .u8 0, .int .i64 (-1), .int .i64 (-1), .int .i64 1, .int .i64 0, .int .i64 0, .int .i64 0, .int .u64 0, .nils, .int .i64 5, .int .i64 0, .int .u8 12, .int .u8 0, .int .i64 (-1), .int .i64 (-1), .int .i64 (-1), .int .i64 0, .int .i64 0, .int .i64 0, .int .u64 0, .nils, .int .i64 0, .int .i64 0]),
  (1260, 1, [.nils, .ref 1186 0 0 16 none, .int .i64 0, .nils, .bool false, .int .i64 (-1), .ref 1191 5 0 6 (some 12), .int .i64 0, .nils, .ref 1955 0 0 16 none, .int .i64 0, .nils, .bool false, .int .i64 (-1), .ref 1960 4 0 5 (some 12), .int .i64 0]),
  (1955, 0, [.int .u8 0, .int .u8 0, .int .u8 0, .int .u8 0, .int .u8 0, .int .u8 0, .int .u8 0, .int .u8 0, .int .u8 0, .int .u8 0, .int .u8 0, .int .u8 0, .int .u8 0, .int .u8 0, .int .u8 0, .int .u8 0]),
  (1960, 4, [.int .u8 10, .int .u8 0, .int .i64 0, .int .i64 0, .int .i64 0, .int .i64 0, .int .i64 0, .int .i64 0, .int .u64 0, .nils, .int .i64 1, .int .i64 0, .int .u8 15, .int .u8 0, .int .i64 0, .int .i64 1, .int .i64 (-1), .int .i64 0, .int .i64 0, .int .i64 0, .int .u64 0, .nils, .int .i64 2, .int .i64 0, .int .u8 17, .int .u8 0, .int .i64 (-1), .int .i64 (-1), .int .i64 1, .int .i64 0, .int .i64 0, .int .i64 0, .int .u64 0, .nils, .int .i64 3, .int .i64 0, .int .u8 17, .int .u8 0, .int .i64 (-1), .int .i64 (-1), .int .i64 0, .int .i64 0, .int .i64 0, .int .i64 0, .int .u64 0, .nils, .int .i64 4, .int .i64 0, .int .u8 12, .int .u8 0, .int .i64 (-1), .int .i64 (-1), .int .i64 (-1), .int .i64 0, .int .i64 0, .int .i64 0, .int .u64 0, .nils, .int .i64 0, .int .i64 0])],
  [],
  .tup [.agg [.ref 3920 19 0 160 none, .ref 3707 1 0 2 (some 6), .nils], .int .i64 0], 3997,
  [(9, 0, [.int .u8 2, .int .i64 0, .int .u64 0, .int .u8 1, .int .i64 0, .int .u64 5, .int .u8 6, .int .i64 0, .int .u64 0, .int .u8 24, .int .i64 0, .int .u64 0]),
  (11, 0, [.int .u8 1]),
  (14, 3, [.int .u8 27, .int .i64 0, .int .u64 0, .int .u8 29, .int .i64 0, .int .u64 0, .int .u8 29, .int .i64 0, .int .u64 0, .int .u8 24, .int .i64 0, .int .u64 0]),
  (18, 0, [.int .i64 0, .ref 11 0 0 1 none, .bool false, .int .i64 (-1), .ref 9 0 0 4 (some 3), .int .i64 0, .nils, .bool false, .int .i64 (-1), .ref 14 3 0 4 (some 3)]),
  (20, 0, [.ref 18 0 0 2 (some 5)]),
  (21, 0, [.nils, .int .i64 0]),
  (22, 0, [.int .i64 2, .int .u64 18446744073709551614]),
  (24, 0, [.nils, .nils, .nils]),
  (73, 0, [.nils, .nils, .nils]),
  (3707, 1, [.int .i64 2, .int .i64 13, .int .i64 0, .nils, .nils, .int .i64 (-1), .int .i64 13, .int .i64 20, .int .i64 0, .nils, .nils, .int .i64 (-1)]),
  (3920, 19, [.int .u8 13, .int .u8 0, .int .u8 0, .int .u8 0, .int .u8 0, .int .u8 0, .int .u8 0, .int .u8 0, .int .u8 13, .int .u8 0, .int .u8 0, .int .u8 0, .int .u8 1, .int .u8 0, .int .u8 0, .int .u8 0, .int .u8 11, .int .u8 0, .int .u8 0, .int .u8 0, .int .u8 0, .int .u8 0, .int .u8 0, .int .u8 0, .int .u8 1, .int .u8 0, .int .u8 0, .int .u8 0, .int .u8 0, .int .u8 0, .int .u8 0, .int .u8 0, .int .u8 3, .int .u8 1, .int .u8 0, .int .u8 0, .int .u8 0, .int .u8 0, .int .u8 0, .int .u8 0, .int .u8 1, .int .u8 0, .int .u8 0, .int .u8 0, .int .u8 5, .int .u8 0, .int .u8 0, .int .u8 0, .int .u8 8, .int .u8 0, .int .u8 1, .int .u8 0, .int .u8 11, .int .u8 0, .int .u8 0, .int .u8 0, .int .u8 5, .int .u8 0, .int .u8 1, .int .u8 0, .int .u8 0, .int .u8 0, .int .u8 0, .int .u8 0, .int .u8 7, .int .u8 0, .int .u8 0, .int .u8 0, .int .u8 9, .int .u8 0, .int .u8 0, .int .u8 0, .int .u8 12, .int .u8 0, .int .u8 0, .int .u8 0, .int .u8 0, .int .u8 0, .int .u8 0, .int .u8 0, .int .u8 10, .int .u8 0, .int .u8 0, .int .u8 0, .int .u8 0, .int .u8 0, .int .u8 0, .int .u8 0, .int .u8 1, .int .u8 13, .int .u8 0, .int .u8 0, .int .u8 254, .int .u8 255, .int .u8 255, .int .u8 255, .int .u8 13, .int .u8 0, .int .u8 13, .int .u8 0, .int .u8 5, .int .u8 0, .int .u8 0, .int .u8 0, .int .u8 11, .int .u8 0, .int .u8 0, .int .u8 0, .int .u8 0, .int .u8 0, .int .u8 0, .int .u8 0, .int .u8 13, .int .u8 0, .int .u8 0, .int .u8 1, .int .u8 6, .int .u8 0, .int .u8 0, .int .u8 0, .int .u8 13, .int .u8 0, .int .u8 1, .int .u8 0, .int .u8 2, .int .u8 0, .int .u8 0, .int .u8 0, .int .u8 13, .int .u8 0, .int .u8 0, .int .u8 0, .int .u8 2, .int .u8 0, .int .u8 0, .int .u8 0, .int .u8 7, .int .u8 0, .int .u8 0, .int .u8 0, .int .u8 18, .int .u8 0, .int .u8 0, .int .u8 0, .int .u8 12, .int .u8 0, .int .u8 0, .int .u8 0, .int .u8 0, .int .u8 0, .int .u8 0, .int .u8 0, .int .u8 10, .int .u8 0, .int .u8 0, .int .u8 0, .int .u8 0, .int .u8 0, .int .u8 0, .int .u8 0])],
  [] ⟩
theorem nb4_e : chkM fs0 (runR Tryz.prog pvZ (codeT tabL) (ovA ovL []) 200) nb4 = true := by kernel_rfl
theorem nb4_ok : MemoOK Tryz.prog fs0 nb4 := chkM_ok (run_ok (ms := []) trivial) nb4_e
end Go.Proofs.YtklmiejnopdabaaGreatDoor
