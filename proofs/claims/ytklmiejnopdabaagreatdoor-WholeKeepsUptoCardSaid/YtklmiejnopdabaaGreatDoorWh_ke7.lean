/- One case: known calls, evaluated by the kernel. Printed by a program. -/
import Derived.Test.YtklmiejnopdabaaGreatDoorWhH
import Derived.Test.YtklmiejnopdabaaGreatDoorWh_ke4
namespace Go.Proofs.YtklmiejnopdabaaGreatDoor
set_option linter.constructorNameAsVariable false
set_option linter.unusedSimpArgs false
set_option linter.unusedVariables false
open Go Go.Ab Go.RowKit
set_option maxRecDepth 100000
set_option linter.unusedVariables false
def ke5 : Memo := ⟨ 41, [.agg [.ref 1375 2 0 3 (some 8)]], 4295,
  [(4, 0, [.int .u8 25, .int .i64 2, .int .u64 0, .int .u8 1, .int .i64 0, .sym .u64 (.var 1), .int .u8 26, .int .i64 0, .int .u64 0]),
  (15, 3, [.int .u8 27, .int .i64 0, .int .u64 0, .int .u8 31, .int .i64 0, .int .u64 0, .int .u8 31, .int .i64 0, .int .u64 0, .int .u8 24, .int .i64 0, .int .u64 0]),
  (19, 0, [.int .i64 0, .nils, .bool false, .int .i64 (-1), .ref 27 1 0 4 (some 3), .int .i64 0, .ref 0 0 0 0 none, .bool false, .int .i64 (-1), .ref 4 0 0 3 (some 3), .int .i64 0, .nils, .bool false, .int .i64 (-1), .ref 15 3 0 4 (some 3)]),
  (27, 1, [.int .u8 23, .int .i64 1, .int .u64 0, .int .u8 1, .int .i64 0, .int .u64 0, .int .u8 29, .int .i64 0, .int .u64 0, .int .u8 24, .int .i64 0, .int .u64 0]),
  (28, 0, [.int .u64 0]),
  (29, 0, [.ref 19 0 0 3 (some 5)]),
  (30, 0, [.nils, .int .i64 0]),
  (31, 0, [.int .i64 1, .int .u64 0]),
  (33, 0, [.nils, .nils, .nils]),
  (105, 0, [.nils, .nils, .nils]),
  (1312, 0, [.int .u8 0, .int .u8 0, .int .u8 0, .int .u8 0, .int .u8 0, .int .u8 0, .int .u8 0, .int .u8 0, .int .u8 0, .int .u8 0, .int .u8 0, .int .u8 0, .int .u8 0, .int .u8 0, .int .u8 0, .int .u8 0]),
  (1317, 4, [.int .u8 10, .int .u8 0, .int .i64 0, .int .i64 0, .int .i64 0, .int .i64 0, .int .i64 0, .int .i64 0, .int .u64 0, .nils, .int .i64 1, .int .i64 0, .int .u8 11, .int .u8 0, .int .i64 (-1), .int .i64 0, .int .i64 0, .int .i64 0, .int .i64 1, .int .i64 0, .int .u64 0, .nils, .int .i64 2, .int .i64 0, .int .u8 1, .int .u8 0, .int .i64 0, .int .i64 (-1), .int .i64 (-1), .int .i64 0, .int .i64 0, .int .i64 0, .int .u64 0, .nils, .int .i64 3, .int .i64 0, .int .u8 17, .int .u8 0, .int .i64 (-1), .int .i64 (-1), .int .i64 0, .int .i64 0, .int .i64 0, .int .i64 0, .int .u64 0, .nils, .int .i64 4, .int .i64 0, .int .u8 12, .int .u8 0, .int .i64 (-1), .int .i64 (-1), .int .i64 (-1), .int .i64 0, .int .i64 0, .int .i64 0, .int .u64 0, .nils, .int .i64 0, .int .i64 0]),
  (1375, 2, [.nils, .ref 1312 0 0 16 none, .int .i64 0, .nils, .bool false, .int .i64 (-1), .ref 1317 4 0 5 (some 12), .int .i64 0, .nils, .ref 1978 0 0 16 none, .int .i64 0, .nils, .bool false, .int .i64 (-1), .ref 1983 3 0 4 (some 12), .int .i64 0, .nils, .ref 2685 0 0 16 none, .int .i64 0, .nils, .bool false, .int .i64 (-1), .ref 2690 4 0 5 (some 12), .int .i64 0]),
  (1978, 0, [.int .u8 0, .int .u8 0, .int .u8 0, .int .u8 0, .int .u8 0, .int .u8 0, .int .u8 0, .int .u8 0, .int .u8 0, .int .u8 0, .int .u8 0, .int .u8 0, .int .u8 0, .int .u8 0, .int .u8 0, .int .u8 0]),
  (1983, 3, [.int .u8 10, .int .u8 0, .int .i64 0, .int .i64 0, .int .i64 0, .int .i64 0, .int .i64 0, .int .i64 0, .int .u64 0, .nils, .int .i64 1, .int .i64 0, .int .u8 13, .int .u8 0, .int .i64 (-1), .int .i64 0, .int .i64 0, .int .i64 0, .int .i64 2, .int .i64 0, .int .u64 0, .nils, .int .i64 2, .int .i64 0, .int .u8 1, .int .u8 0, .int .i64 0, .int .i64 (-1), .int .i64 (-1), .int .i64 0, .int .i64 0, .int .i64 0, .sym .u64 (.var 1), .nils, .int .i64 3, .int .i64 0, .int .u8 14, .int .u8 0, .int .i64 (-1), .int .i64 (-1), .int .i64 0, .int .i64 0, .int .i64 0, .int .i64 0, .int .u64 0, .nils, .int .i64 0, .int .i64 0]),
  (2685, 0, [.int .u8 0, .int .u8 0, .int .u8 0, .int .u8 0, .int .u8 0, .int .u8 0, .int .u8 0, .int .u8 0, .int .u8 0, .int .u8 0, .int .u8 0, .int .u8 0, .int .u8 0, .int .u8 0, .int .u8 0, .int .u8 0]),
  (2690, 4, [.int .u8 10, .int .u8 0, .int .i64 0, .int .i64 0, .int .i64 0, .int .i64 0, .int .i64 0, .int .i64 0, .int .u64 0, .nils, .int .i64 1, .int .i64 0, .int .u8 15, .int .u8 0, .int .i64 0, .int .i64 1, .int .i64 (-1), .int .i64 0, .int .i64 0, .int .i64 0, .int .u64 0, .nils, .int .i64 2, .int .i64 0, .int .u8 10, .int .u8 0, .int .i64 (-1), .int .i64 (-1), .int .i64 (-1), .int .i64 0, .int .i64 0, .int .i64 0, .int .u64 0, .nils, .int .i64 3, .int .i64 0, .int .u8 10, .int .u8 0, .int .i64 (-1), .int .i64 (-1), .int .i64 (-1), .int .i64 0, .int .i64 0, .int .i64 0, .int .u64 0, .nils, .int .i64 4, .int .i64 0, .int .u8 12, .int .u8 0, .int .i64 (-1), .int .i64 (-1), .int .i64 (-1), .int .i64 0, .int .i64 0, .int .i64 0, .int .u64 0, .nils, .int .i64 0, .int .i64 0])],
  [],
  .tup [.agg [.ref 5048 21 0 176 none, .ref 4776 2 0 3 (some 6), .ref 4764 0 0 1 (some 2)], .int .i64 0], 5133,
  [(4, 0, [.int .u8 25, .int .i64 2, .int .u64 0, .int .u8 1, .int .i64 0, .sym .u64 (.var 1), .int .u8 26, .int .i64 0, .int .u64 0]),
  (15, 3, [.int .u8 27, .int .i64 0, .int .u64 0, .int .u8 31, .int .i64 0, .int .u64 0, .int .u8 31, .int .i64 0, .int .u64 0, .int .u8 24, .int .i64 0, .int .u64 0]),
  (19, 0, [.int .i64 0, .nils, .bool false, .int .i64 (-1), .ref 27 1 0 4 (some 3), .int .i64 0, .ref 0 0 0 0 none, .bool false, .int .i64 (-1), .ref 4 0 0 3 (some 3), .int .i64 0, .nils, .bool false, .int .i64 (-1), .ref 15 3 0 4 (some 3)]),
  (27, 1, [.int .u8 23, .int .i64 1, .int .u64 0, .int .u8 1, .int .i64 0, .int .u64 0, .int .u8 29, .int .i64 0, .int .u64 0, .int .u8 24, .int .i64 0, .int .u64 0]),
  (28, 0, [.int .u64 0]),
  (29, 0, [.ref 19 0 0 3 (some 5)]),
  (30, 0, [.nils, .int .i64 0]),
  (31, 0, [.int .i64 1, .int .u64 0]),
  (33, 0, [.nils, .nils, .nils]),
  (105, 0, [.nils, .nils, .nils]),
  (4764, 0, [.int .i64 4, .nils]),
  (4776, 2, [.int .i64 2, .int .i64 9, .int .i64 0, .nils, .nils, .int .i64 (-1), .int .i64 9, .int .i64 17, .int .i64 0, .nils, .nils, .int .i64 16, .int .i64 17, .int .i64 22, .int .i64 0, .nils, .nils, .int .i64 (-1)]),
  (5048, 21, [.int .u8 13, .int .u8 0, .int .u8 0, .int .u8 0, .int .u8 0, .int .u8 0, .int .u8 0, .int .u8 0, .int .u8 13, .int .u8 0, .int .u8 0, .int .u8 0, .int .u8 1, .int .u8 0, .int .u8 0, .int .u8 0, .int .u8 11, .int .u8 0, .int .u8 0, .int .u8 0, .int .u8 0, .int .u8 0, .int .u8 0, .int .u8 0, .int .u8 9, .int .u8 0, .int .u8 0, .int .u8 0, .int .u8 9, .int .u8 0, .int .u8 0, .int .u8 0, .int .u8 1, .int .u8 0, .int .u8 0, .int .u8 0, .int .u8 0, .int .u8 0, .int .u8 0, .int .u8 0, .int .u8 13, .int .u8 0, .int .u8 0, .int .u8 0, .int .u8 2, .int .u8 0, .int .u8 0, .int .u8 0, .int .u8 7, .int .u8 0, .int .u8 0, .int .u8 0, .int .u8 7, .int .u8 0, .int .u8 0, .int .u8 0, .int .u8 12, .int .u8 0, .int .u8 0, .int .u8 0, .int .u8 0, .int .u8 0, .int .u8 0, .int .u8 0, .int .u8 10, .int .u8 0, .int .u8 0, .int .u8 0, .int .u8 0, .int .u8 0, .int .u8 0, .int .u8 0, .int .u8 11, .int .u8 0, .int .u8 0, .int .u8 0, .int .u8 0, .int .u8 0, .int .u8 0, .int .u8 0, .int .u8 13, .int .u8 0, .int .u8 0, .int .u8 0, .int .u8 7, .int .u8 2, .int .u8 0, .int .u8 0, .int .u8 1, .int .u8 0, .int .u8 0, .int .u8 0, .sym .u8 (.cv .u8 (.cv .u32 (.cv .i32 (.cv .u32 (.var 1))))), .sym .u8 (.cv .u8 (.bop .shr .u32 (.cv .u32 (.cv .i32 (.cv .u32 (.var 1)))) (.num 8))), .sym .u8 (.cv .u8 (.bop .shr .u32 (.cv .u32 (.cv .i32 (.cv .u32 (.var 1)))) (.num 16))), .sym .u8 (.cv .u8 (.bop .shr .u32 (.cv .u32 (.cv .i32 (.cv .u32 (.var 1)))) (.num 24))), .int .u8 13, .int .u8 0, .int .u8 0, .int .u8 0, .int .u8 5, .int .u8 0, .int .u8 0, .int .u8 0, .int .u8 13, .int .u8 0, .int .u8 0, .int .u8 0, .int .u8 8, .int .u8 0, .int .u8 0, .int .u8 0, .int .u8 12, .int .u8 0, .int .u8 0, .int .u8 0, .int .u8 0, .int .u8 0, .int .u8 0, .int .u8 0, .int .u8 10, .int .u8 0, .int .u8 0, .int .u8 0, .int .u8 0, .int .u8 0, .int .u8 0, .int .u8 0, .int .u8 7, .int .u8 0, .int .u8 0, .int .u8 0, .int .u8 13, .int .u8 0, .int .u8 0, .int .u8 0, .int .u8 11, .int .u8 0, .int .u8 0, .int .u8 0, .int .u8 0, .int .u8 0, .int .u8 0, .int .u8 0, .int .u8 13, .int .u8 0, .int .u8 0, .int .u8 1, .int .u8 6, .int .u8 0, .int .u8 0, .int .u8 0, .int .u8 7, .int .u8 0, .int .u8 0, .int .u8 0, .int .u8 20, .int .u8 0, .int .u8 0, .int .u8 0, .int .u8 12, .int .u8 0, .int .u8 0, .int .u8 0, .int .u8 0, .int .u8 0, .int .u8 0, .int .u8 0, .int .u8 10, .int .u8 0, .int .u8 0, .int .u8 0, .int .u8 0, .int .u8 0, .int .u8 0, .int .u8 0])],
  [] ⟩
theorem ke5_e : chkM uT (runR Tryz.prog pvZ (codeT tabL) (ovA ovL []) 200) ke5 = true := by kernel_rfl
theorem ke5_ok : MemoOK Tryz.prog uT ke5 := chkM_ok (run_ok (ms := []) trivial) ke5_e
end Go.Proofs.YtklmiejnopdabaaGreatDoor
/- One case: known calls, evaluated by the kernel. Printed by a program. -/
namespace Go.Proofs.YtklmiejnopdabaaGreatDoor
set_option linter.constructorNameAsVariable false
set_option linter.unusedSimpArgs false
set_option linter.unusedVariables false
open Go Go.Ab Go.RowKit
set_option maxRecDepth 100000
set_option linter.unusedVariables false
def ke6 : Memo := ⟨ 21, [.ref 35 41 0 50 none], 105,
  [(4, 0, [.int .u8 25, .int .i64 2, .int .u64 0, .int .u8 1, .int .i64 0, .sym .u64 (.var 1), .int .u8 26, .int .i64 0, .int .u64 0]),
  (15, 3, [.int .u8 27, .int .i64 0, .int .u64 0, .int .u8 31, .int .i64 0, .int .u64 0, .int .u8 31, .int .i64 0, .int .u64 0, .int .u8 24, .int .i64 0, .int .u64 0]),
  (19, 0, [.int .i64 0, .nils, .bool false, .int .i64 (-1), .ref 27 1 0 4 (some 3), .int .i64 0, .ref 0 0 0 0 none, .bool false, .int .i64 (-1), .ref 4 0 0 3 (some 3), .int .i64 0, .nils, .bool false, .int .i64 (-1), .ref 15 3 0 4 (some 3)]),
  (27, 1, [.int .u8 23, .int .i64 1, .int .u64 0, .int .u8 1, .int .i64 0, .int .u64 0, .int .u8 29, .int .i64 0, .int .u64 0, .int .u8 24, .int .i64 0, .int .u64 0]),
  (28, 0, [.int .u64 0]),
  (29, 0, [.ref 19 0 0 3 (some 5)]),
  (30, 0, [.nils, .int .i64 0]),
  (31, 0, [.int .i64 1, .int .u64 0]),
  (33, 0, [.nils, .nils, .nils]),
  (35, 41, [.int .u8 87, .int .u8 76, .int .u8 3, .int .u8 0, .int .u8 0, .int .u8 0, .int .u8 255, .int .u8 4, .int .u8 0, .int .u8 23, .int .u8 1, .int .u8 1, .int .u8 0, .int .u8 0, .int .u8 0, .int .u8 0, .int .u8 0, .int .u8 0, .int .u8 0, .int .u8 0, .int .u8 29, .int .u8 24, .int .u8 0, .int .u8 0, .int .u8 0, .int .u8 255, .int .u8 3, .int .u8 0, .int .u8 25, .int .u8 2, .int .u8 1, .sym .u8 (.cv .u8 (.bop .shr .u64 (.var 1) (.num 0))), .sym .u8 (.cv .u8 (.bop .shr .u64 (.var 1) (.num 8))), .sym .u8 (.cv .u8 (.bop .shr .u64 (.var 1) (.num 16))), .sym .u8 (.cv .u8 (.bop .shr .u64 (.var 1) (.num 24))), .sym .u8 (.cv .u8 (.bop .shr .u64 (.var 1) (.num 32))), .sym .u8 (.cv .u8 (.bop .shr .u64 (.var 1) (.num 40))), .sym .u8 (.cv .u8 (.bop .shr .u64 (.var 1) (.num 48))), .sym .u8 (.cv .u8 (.bop .shr .u64 (.var 1) (.num 56))), .int .u8 26, .int .u8 0, .int .u8 0, .int .u8 0, .int .u8 255, .int .u8 4, .int .u8 0, .int .u8 27, .int .u8 31, .int .u8 31, .int .u8 24])],
  [],
  .tup [.agg [.ref 5048 21 0 176 none, .ref 4776 2 0 3 (some 6), .ref 4764 0 0 1 (some 2)], .int .i64 0], 5133,
  [(4, 0, [.int .u8 25, .int .i64 2, .int .u64 0, .int .u8 1, .int .i64 0, .sym .u64 (.var 1), .int .u8 26, .int .i64 0, .int .u64 0]),
  (15, 3, [.int .u8 27, .int .i64 0, .int .u64 0, .int .u8 31, .int .i64 0, .int .u64 0, .int .u8 31, .int .i64 0, .int .u64 0, .int .u8 24, .int .i64 0, .int .u64 0]),
  (19, 0, [.int .i64 0, .nils, .bool false, .int .i64 (-1), .ref 27 1 0 4 (some 3), .int .i64 0, .ref 0 0 0 0 none, .bool false, .int .i64 (-1), .ref 4 0 0 3 (some 3), .int .i64 0, .nils, .bool false, .int .i64 (-1), .ref 15 3 0 4 (some 3)]),
  (27, 1, [.int .u8 23, .int .i64 1, .int .u64 0, .int .u8 1, .int .i64 0, .int .u64 0, .int .u8 29, .int .i64 0, .int .u64 0, .int .u8 24, .int .i64 0, .int .u64 0]),
  (28, 0, [.int .u64 0]),
  (29, 0, [.ref 19 0 0 3 (some 5)]),
  (30, 0, [.nils, .int .i64 0]),
  (31, 0, [.int .i64 1, .int .u64 0]),
  (33, 0, [.nils, .nils, .nils]),
  (4764, 0, [.int .i64 4, .nils]),
  (4776, 2, [.int .i64 2, .int .i64 9, .int .i64 0, .nils, .nils, .int .i64 (-1), .int .i64 9, .int .i64 17, .int .i64 0, .nils, .nils, .int .i64 16, .int .i64 17, .int .i64 22, .int .i64 0, .nils, .nils, .int .i64 (-1)]),
  (5048, 21, [.int .u8 13, .int .u8 0, .int .u8 0, .int .u8 0, .int .u8 0, .int .u8 0, .int .u8 0, .int .u8 0, .int .u8 13, .int .u8 0, .int .u8 0, .int .u8 0, .int .u8 1, .int .u8 0, .int .u8 0, .int .u8 0, .int .u8 11, .int .u8 0, .int .u8 0, .int .u8 0, .int .u8 0, .int .u8 0, .int .u8 0, .int .u8 0, .int .u8 9, .int .u8 0, .int .u8 0, .int .u8 0, .int .u8 9, .int .u8 0, .int .u8 0, .int .u8 0, .int .u8 1, .int .u8 0, .int .u8 0, .int .u8 0, .int .u8 0, .int .u8 0, .int .u8 0, .int .u8 0, .int .u8 13, .int .u8 0, .int .u8 0, .int .u8 0, .int .u8 2, .int .u8 0, .int .u8 0, .int .u8 0, .int .u8 7, .int .u8 0, .int .u8 0, .int .u8 0, .int .u8 7, .int .u8 0, .int .u8 0, .int .u8 0, .int .u8 12, .int .u8 0, .int .u8 0, .int .u8 0, .int .u8 0, .int .u8 0, .int .u8 0, .int .u8 0, .int .u8 10, .int .u8 0, .int .u8 0, .int .u8 0, .int .u8 0, .int .u8 0, .int .u8 0, .int .u8 0, .int .u8 11, .int .u8 0, .int .u8 0, .int .u8 0, .int .u8 0, .int .u8 0, .int .u8 0, .int .u8 0, .int .u8 13, .int .u8 0, .int .u8 0, .int .u8 0, .int .u8 7, .int .u8 2, .int .u8 0, .int .u8 0, .int .u8 1, .int .u8 0, .int .u8 0, .int .u8 0, .sym .u8 (.cv .u8 (.cv .u32 (.cv .i32 (.cv .u32 (.var 1))))), .sym .u8 (.cv .u8 (.bop .shr .u32 (.cv .u32 (.cv .i32 (.cv .u32 (.var 1)))) (.num 8))), .sym .u8 (.cv .u8 (.bop .shr .u32 (.cv .u32 (.cv .i32 (.cv .u32 (.var 1)))) (.num 16))), .sym .u8 (.cv .u8 (.bop .shr .u32 (.cv .u32 (.cv .i32 (.cv .u32 (.var 1)))) (.num 24))), .int .u8 13, .int .u8 0, .int .u8 0, .int .u8 0, .int .u8 5, .int .u8 0, .int .u8 0, .int .u8 0, .int .u8 13, .int .u8 0, .int .u8 0, .int .u8 0, .int .u8 8, .int .u8 0, .int .u8 0, .int .u8 0, .int .u8 12, .int .u8 0, .int .u8 0, .int .u8 0, .int .u8 0, .int .u8 0, .int .u8 0, .int .u8 0, .int .u8 10, .int .u8 0, .int .u8 0, .int .u8 0, .int .u8 0, .int .u8 0, .int .u8 0, .int .u8 0, .int .u8 7, .int .u8 0, .int .u8 0, .int .u8 0, .int .u8 13, .int .u8 0, .int .u8 0, .int .u8 0, .int .u8 11, .int .u8 0, .int .u8 0, .int .u8 0, .int .u8 0, .int .u8 0, .int .u8 0, .int .u8 0, .int .u8 13, .int .u8 0, .int .u8 0, .int .u8 1, .int .u8 6, .int .u8 0, .int .u8 0, .int .u8 0, .int .u8 7, .int .u8 0, .int .u8 0, .int .u8 0, .int .u8 20, .int .u8 0, .int .u8 0, .int .u8 0, .int .u8 12, .int .u8 0, .int .u8 0, .int .u8 0, .int .u8 0, .int .u8 0, .int .u8 0, .int .u8 0, .int .u8 10, .int .u8 0, .int .u8 0, .int .u8 0, .int .u8 0, .int .u8 0, .int .u8 0, .int .u8 0])],
  [] ⟩
theorem ke6_e : chkM uT (runR Tryz.prog pvZ (codeT tabL) (ovA ovL [ke3, ke4, ke5]) 200) ke6 = true := by kernel_rfl
theorem ke6_ok : MemoOK Tryz.prog uT ke6 := chkM_ok (run_ok (ms := [ke3, ke4, ke5]) ⟨ke3_ok.mono uT_sub, ke4_ok.mono uT_sub, ke5_ok, trivial⟩) ke6_e
end Go.Proofs.YtklmiejnopdabaaGreatDoor
/- One case: known calls, evaluated by the kernel. Printed by a program. -/
namespace Go.Proofs.YtklmiejnopdabaaGreatDoor
set_option linter.constructorNameAsVariable false
set_option linter.unusedSimpArgs false
set_option linter.unusedVariables false
open Go Go.Ab Go.RowKit
set_option maxRecDepth 100000
set_option linter.unusedVariables false
def ke7 : Memo := ⟨ 17, [.agg [.ref 19 0 0 3 (some 5)], .nils, .int .i64 1048576], 5135,
  [(4, 0, [.int .u8 25, .int .i64 2, .int .u64 0, .int .u8 1, .int .i64 0, .sym .u64 (.var 1), .int .u8 26, .int .i64 0, .int .u64 0]),
  (15, 3, [.int .u8 27, .int .i64 0, .int .u64 0, .int .u8 31, .int .i64 0, .int .u64 0, .int .u8 31, .int .i64 0, .int .u64 0, .int .u8 24, .int .i64 0, .int .u64 0]),
  (19, 0, [.int .i64 0, .nils, .bool false, .int .i64 (-1), .ref 27 1 0 4 (some 3), .int .i64 0, .ref 0 0 0 0 none, .bool false, .int .i64 (-1), .ref 4 0 0 3 (some 3), .int .i64 0, .nils, .bool false, .int .i64 (-1), .ref 15 3 0 4 (some 3)]),
  (27, 1, [.int .u8 23, .int .i64 1, .int .u64 0, .int .u8 1, .int .i64 0, .int .u64 0, .int .u8 29, .int .i64 0, .int .u64 0, .int .u8 24, .int .i64 0, .int .u64 0]),
  (28, 0, [.int .u64 0]),
  (30, 0, [.nils, .int .i64 0]),
  (31, 0, [.int .i64 1, .int .u64 0]),
  (4764, 0, [.int .i64 4, .nils]),
  (4776, 2, [.int .i64 2, .int .i64 9, .int .i64 0, .nils, .nils, .int .i64 (-1), .int .i64 9, .int .i64 17, .int .i64 0, .nils, .nils, .int .i64 16, .int .i64 17, .int .i64 22, .int .i64 0, .nils, .nils, .int .i64 (-1)]),
  (5048, 21, [.int .u8 13, .int .u8 0, .int .u8 0, .int .u8 0, .int .u8 0, .int .u8 0, .int .u8 0, .int .u8 0, .int .u8 13, .int .u8 0, .int .u8 0, .int .u8 0, .int .u8 1, .int .u8 0, .int .u8 0, .int .u8 0, .int .u8 11, .int .u8 0, .int .u8 0, .int .u8 0, .int .u8 0, .int .u8 0, .int .u8 0, .int .u8 0, .int .u8 9, .int .u8 0, .int .u8 0, .int .u8 0, .int .u8 9, .int .u8 0, .int .u8 0, .int .u8 0, .int .u8 1, .int .u8 0, .int .u8 0, .int .u8 0, .int .u8 0, .int .u8 0, .int .u8 0, .int .u8 0, .int .u8 13, .int .u8 0, .int .u8 0, .int .u8 0, .int .u8 2, .int .u8 0, .int .u8 0, .int .u8 0, .int .u8 7, .int .u8 0, .int .u8 0, .int .u8 0, .int .u8 7, .int .u8 0, .int .u8 0, .int .u8 0, .int .u8 12, .int .u8 0, .int .u8 0, .int .u8 0, .int .u8 0, .int .u8 0, .int .u8 0, .int .u8 0, .int .u8 10, .int .u8 0, .int .u8 0, .int .u8 0, .int .u8 0, .int .u8 0, .int .u8 0, .int .u8 0, .int .u8 11, .int .u8 0, .int .u8 0, .int .u8 0, .int .u8 0, .int .u8 0, .int .u8 0, .int .u8 0, .int .u8 13, .int .u8 0, .int .u8 0, .int .u8 0, .int .u8 7, .int .u8 2, .int .u8 0, .int .u8 0, .int .u8 1, .int .u8 0, .int .u8 0, .int .u8 0, .sym .u8 (.cv .u8 (.cv .u32 (.cv .i32 (.cv .u32 (.var 1))))), .sym .u8 (.cv .u8 (.bop .shr .u32 (.cv .u32 (.cv .i32 (.cv .u32 (.var 1)))) (.num 8))), .sym .u8 (.cv .u8 (.bop .shr .u32 (.cv .u32 (.cv .i32 (.cv .u32 (.var 1)))) (.num 16))), .sym .u8 (.cv .u8 (.bop .shr .u32 (.cv .u32 (.cv .i32 (.cv .u32 (.var 1)))) (.num 24))), .int .u8 13, .int .u8 0, .int .u8 0, .int .u8 0, .int .u8 5, .int .u8 0, .int .u8 0, .int .u8 0, .int .u8 13, .int .u8 0, .int .u8 0, .int .u8 0, .int .u8 8, .int .u8 0, .int .u8 0, .int .u8 0, .int .u8 12, .int .u8 0, .int .u8 0, .int .u8 0, .int .u8 0, .int .u8 0, .int .u8 0, .int .u8 0, .int .u8 10, .int .u8 0, .int .u8 0, .int .u8 0, .int .u8 0, .int .u8 0, .int .u8 0, .int .u8 0, .int .u8 7, .int .u8 0, .int .u8 0, .int .u8 0, .int .u8 13, .int .u8 0, .int .u8 0, .int .u8 0, .int .u8 11, .int .u8 0, .int .u8 0, .int .u8 0, .int .u8 0, .int .u8 0, .int .u8 0, .int .u8 0, .int .u8 13, .int .u8 0, .int .u8 0, .int .u8 1, .int .u8 6, .int .u8 0, .int .u8 0, .int .u8 0, .int .u8 7, .int .u8 0, .int .u8 0, .int .u8 0, .int .u8 20, .int .u8 0, .int .u8 0, .int .u8 0, .int .u8 12, .int .u8 0, .int .u8 0, .int .u8 0, .int .u8 0, .int .u8 0, .int .u8 0, .int .u8 0, .int .u8 10, .int .u8 0, .int .u8 0, .int .u8 0, .int .u8 0, .int .u8 0, .int .u8 0, .int .u8 0]),
  (5134, 0, [.ref 5048 21 0 176 none, .ref 4776 2 0 3 (some 6), .ref 4764 0 0 1 (some 2)])],
  [],
  .tup [.agg [.ref 5440 1 0 1 (some 2), .int .i64 1, .int .u64 0, .int .i64 11, .int .i64 3, .int .i64 1, .int .i64 1], .int .i64 0], 5441,
  [(28, 0, [.int .u64 0]),
  (30, 0, [.nils, .int .i64 0]),
  (31, 0, [.int .i64 1, .int .u64 0]),
  (4764, 0, [.int .i64 4, .nils]),
  (4776, 2, [.int .i64 2, .int .i64 9, .int .i64 0, .nils, .nils, .int .i64 (-1), .int .i64 9, .int .i64 17, .int .i64 0, .nils, .nils, .int .i64 16, .int .i64 17, .int .i64 22, .int .i64 0, .nils, .nils, .int .i64 (-1)]),
  (5048, 21, [.int .u8 13, .int .u8 0, .int .u8 0, .int .u8 0, .int .u8 0, .int .u8 0, .int .u8 0, .int .u8 0, .int .u8 13, .int .u8 0, .int .u8 0, .int .u8 0, .int .u8 1, .int .u8 0, .int .u8 0, .int .u8 0, .int .u8 11, .int .u8 0, .int .u8 0, .int .u8 0, .int .u8 0, .int .u8 0, .int .u8 0, .int .u8 0, .int .u8 9, .int .u8 0, .int .u8 0, .int .u8 0, .int .u8 9, .int .u8 0, .int .u8 0, .int .u8 0, .int .u8 1, .int .u8 0, .int .u8 0, .int .u8 0, .int .u8 0, .int .u8 0, .int .u8 0, .int .u8 0, .int .u8 13, .int .u8 0, .int .u8 0, .int .u8 0, .int .u8 2, .int .u8 0, .int .u8 0, .int .u8 0, .int .u8 7, .int .u8 0, .int .u8 0, .int .u8 0, .int .u8 7, .int .u8 0, .int .u8 0, .int .u8 0, .int .u8 12, .int .u8 0, .int .u8 0, .int .u8 0, .int .u8 0, .int .u8 0, .int .u8 0, .int .u8 0, .int .u8 10, .int .u8 0, .int .u8 0, .int .u8 0, .int .u8 0, .int .u8 0, .int .u8 0, .int .u8 0, .int .u8 11, .int .u8 0, .int .u8 0, .int .u8 0, .int .u8 0, .int .u8 0, .int .u8 0, .int .u8 0, .int .u8 13, .int .u8 0, .int .u8 0, .int .u8 0, .int .u8 7, .int .u8 2, .int .u8 0, .int .u8 0, .int .u8 1, .int .u8 0, .int .u8 0, .int .u8 0, .sym .u8 (.cv .u8 (.cv .u32 (.cv .i32 (.cv .u32 (.var 1))))), .sym .u8 (.cv .u8 (.bop .shr .u32 (.cv .u32 (.cv .i32 (.cv .u32 (.var 1)))) (.num 8))), .sym .u8 (.cv .u8 (.bop .shr .u32 (.cv .u32 (.cv .i32 (.cv .u32 (.var 1)))) (.num 16))), .sym .u8 (.cv .u8 (.bop .shr .u32 (.cv .u32 (.cv .i32 (.cv .u32 (.var 1)))) (.num 24))), .int .u8 13, .int .u8 0, .int .u8 0, .int .u8 0, .int .u8 5, .int .u8 0, .int .u8 0, .int .u8 0, .int .u8 13, .int .u8 0, .int .u8 0, .int .u8 0, .int .u8 8, .int .u8 0, .int .u8 0, .int .u8 0, .int .u8 12, .int .u8 0, .int .u8 0, .int .u8 0, .int .u8 0, .int .u8 0, .int .u8 0, .int .u8 0, .int .u8 10, .int .u8 0, .int .u8 0, .int .u8 0, .int .u8 0, .int .u8 0, .int .u8 0, .int .u8 0, .int .u8 7, .int .u8 0, .int .u8 0, .int .u8 0, .int .u8 13, .int .u8 0, .int .u8 0, .int .u8 0, .int .u8 11, .int .u8 0, .int .u8 0, .int .u8 0, .int .u8 0, .int .u8 0, .int .u8 0, .int .u8 0, .int .u8 13, .int .u8 0, .int .u8 0, .int .u8 1, .int .u8 6, .int .u8 0, .int .u8 0, .int .u8 0, .int .u8 7, .int .u8 0, .int .u8 0, .int .u8 0, .int .u8 20, .int .u8 0, .int .u8 0, .int .u8 0, .int .u8 12, .int .u8 0, .int .u8 0, .int .u8 0, .int .u8 0, .int .u8 0, .int .u8 0, .int .u8 0, .int .u8 10, .int .u8 0, .int .u8 0, .int .u8 0, .int .u8 0, .int .u8 0, .int .u8 0, .int .u8 0]),
  (5134, 0, [.ref 5048 21 0 176 none, .ref 4776 2 0 3 (some 6), .ref 4764 0 0 1 (some 2)]),
  (5440, 1, [.int .i64 1, .int .u64 0])],
  [] ⟩
theorem ke7_e : chkM uT (runR Tryz.prog pvZ (codeT tabL) (ovA ovL []) 200) ke7 = true := by kernel_rfl
theorem ke7_ok : MemoOK Tryz.prog uT ke7 := chkM_ok (run_ok (ms := []) trivial) ke7_e
end Go.Proofs.YtklmiejnopdabaaGreatDoor
