/- One case: known calls, evaluated by the kernel. Printed by a program. -/
import Derived.Test.YtklmiejnopdabaaGreatDoorWhH
import Derived.Test.YtklmiejnopdabaaGreatDoorWh_rb4
namespace Go.Proofs.YtklmiejnopdabaaGreatDoor
set_option linter.constructorNameAsVariable false
set_option linter.unusedSimpArgs false
set_option linter.unusedVariables false
open Go Go.Ab Go.RowKit
set_option maxRecDepth 100000
set_option linter.unusedVariables false
def rb5 : Memo := ⟨ 41, [.agg [.ref 1155 2 0 3 (some 8)]], 3782,
  [(12, 0, [.int .u8 25, .int .i64 1, .int .u64 0, .int .u8 1, .int .i64 0, .sym .u64 (.var 0), .int .u8 26, .int .i64 0, .int .u64 0]),
  (16, 1, [.int .u8 27, .int .i64 0, .int .u64 0, .int .u8 29, .int .i64 0, .int .u64 0, .int .u8 29, .int .i64 0, .int .u64 0, .int .u8 24, .int .i64 0, .int .u64 0]),
  (23, 1, [.int .u8 23, .int .i64 2, .int .u64 0, .int .u8 24, .int .i64 0, .int .u64 0]),
  (24, 0, [.int .u64 0, .int .u64 0]),
  (25, 0, [.int .i64 0, .nils, .bool false, .int .i64 (-1), .ref 12 0 0 3 (some 3), .int .i64 0, .nils, .bool false, .int .i64 (-1), .ref 23 1 0 2 (some 3), .int .i64 0, .nils, .bool false, .int .i64 (-1), .ref 16 1 0 4 (some 3)]),
  (27, 0, [.ref 25 0 0 3 (some 5)]),
  (28, 0, [.slt false 1 [], .sym .i64 (.var 2)]),
  (29, 0, [.int .i64 2, .sym .u64 (.var 0)]),
  (31, 0, [.nils, .nils, .nils]),
  (89, 0, [.nils, .nils, .nils]),
  (1104, 0, [.int .u8 0, .int .u8 0, .int .u8 0, .int .u8 0, .int .u8 0, .int .u8 0, .int .u8 0, .int .u8 0, .int .u8 0, .int .u8 0, .int .u8 0, .int .u8 0, .int .u8 0, .int .u8 0, .int .u8 0, .int .u8 0]),
  (1109, 3, [.int .u8 10, .int .u8 0, .int .i64 0, .int .i64 0, .int .i64 0, .int .i64 0, .int .i64 0, .int .i64 0, .int .u64 0, .nils, .int .i64 1, .int .i64 0, .int .u8 13, .int .u8 0, .int .i64 (-1), .int .i64 0, .int .i64 0, .int .i64 0, .int .i64 1, .int .i64 0, .int .u64 0, .nils, .int .i64 2, .int .i64 0, .int .u8 1, .int .u8 0, .int .i64 0, .int .i64 (-1), .int .i64 (-1), .int .i64 0, .int .i64 0, .int .i64 0, .sym .u64 (.var 0), .nils, .int .i64 3, .int .i64 0, .int .u8 14, .int .u8 0, .int .i64 (-1), .int .i64 (-1), .int .i64 0, .int .i64 0, .int .i64 0, .int .i64 0, .int .u64 0, .nils, .int .i64 0, .int .i64 0]),
  (1155, 2, [.nils, .ref 1104 0 0 16 none, .int .i64 0, .nils, .bool false, .int .i64 (-1), .ref 1109 3 0 4 (some 12), .int .i64 0, .nils, .ref 1603 0 0 16 none, .int .i64 0, .nils, .bool false, .int .i64 (-1), .ref 1608 2 0 3 (some 12), .int .i64 0, .nils, .ref 2346 0 0 16 none, .int .i64 0, .nils, .bool false, .int .i64 (-1), .ref 2351 4 0 5 (some 12), .int .i64 0]),
  (1603, 0, [.int .u8 0, .int .u8 0, .int .u8 0, .int .u8 0, .int .u8 0, .int .u8 0, .int .u8 0, .int .u8 0, .int .u8 0, .int .u8 0, .int .u8 0, .int .u8 0, .int .u8 0, .int .u8 0, .int .u8 0, .int .u8 0]),
  (1608, 2, [.int .u8 10, .int .u8 0, .int .i64 0, .int .i64 0, .int .i64 0, .int .i64 0, .int .i64 0, .int .i64 0, .int .u64 0, .nils, .int .i64 1, .int .i64 0, .int .u8 11, .int .u8 0, .int .i64 (-1), .int .i64 0, .int .i64 0, .int .i64 0, .int .i64 2, .int .i64 0, .int .u64 0, .nils, .int .i64 2, .int .i64 0, .int .u8 12, .int .u8 0, .int .i64 (-1), .int .i64 (-1), .int .i64 (-1), .int .i64 0, .int .i64 0, .int .i64 0, .int .u64 0, .nils, .int .i64 0, .int .i64 0]),
  (2346, 0, [.int .u8 0, .int .u8 0, .int .u8 0, .int .u8 0, .int .u8 0, .int .u8 0, .int .u8 0, .int .u8 0, .int .u8 0, .int .u8 0, .int .u8 0, .int .u8 0, .int .u8 0, .int .u8 0, .int .u8 0, .int .u8 0]),
  (2351, 4, [.int .u8 10, .int .u8 0, .int .i64 0, .int .i64 0, .int .i64 0, .int .i64 0, .int .i64 0, .int .i64 0, .int .u64 0, .nils, .int .i64 1, .int .i64 0, .int .u8 15, .int .u8 0, .int .i64 0, .int .i64 1, .int .i64 (-1), .int .i64 0, .int .i64 0, .int .i64 0, .int .u64 0, .nils, .int .i64 2, .int .i64 0, .int .u8 17, .int .u8 0, .int .i64 (-1), .int .i64 (-1), .int .i64 1, .int .i64 0, .int .i64 0, .int .i64 0, .int .u64 0, .nils, .int .i64 3, .int .i64 0, .int .u8 17, .int .u8 0, .int .i64 (-1), .int .i64 (-1), .int .i64 0, .int .i64 0, .int .i64 0, .int .i64 0, .int .u64 0, .nils, .int .i64 4, .int .i64 0, .int .u8 12, .int .u8 0, .int .i64 (-1), .int .i64 (-1), .int .i64 (-1), .int .i64 0, .int .i64 0, .int .i64 0, .int .u64 0, .nils, .int .i64 0, .int .i64 0])],
  [],
  .tup [.agg [.ref 4527 21 0 176 none, .ref 4213 2 0 3 (some 6), .ref 4310 0 0 1 (some 2)], .int .i64 0], 4612,
  [(12, 0, [.int .u8 25, .int .i64 1, .int .u64 0, .int .u8 1, .int .i64 0, .sym .u64 (.var 0), .int .u8 26, .int .i64 0, .int .u64 0]),
  (16, 1, [.int .u8 27, .int .i64 0, .int .u64 0, .int .u8 29, .int .i64 0, .int .u64 0, .int .u8 29, .int .i64 0, .int .u64 0, .int .u8 24, .int .i64 0, .int .u64 0]),
  (23, 1, [.int .u8 23, .int .i64 2, .int .u64 0, .int .u8 24, .int .i64 0, .int .u64 0]),
  (24, 0, [.int .u64 0, .int .u64 0]),
  (25, 0, [.int .i64 0, .nils, .bool false, .int .i64 (-1), .ref 12 0 0 3 (some 3), .int .i64 0, .nils, .bool false, .int .i64 (-1), .ref 23 1 0 2 (some 3), .int .i64 0, .nils, .bool false, .int .i64 (-1), .ref 16 1 0 4 (some 3)]),
  (27, 0, [.ref 25 0 0 3 (some 5)]),
  (28, 0, [.slt false 1 [], .sym .i64 (.var 2)]),
  (29, 0, [.int .i64 2, .sym .u64 (.var 0)]),
  (31, 0, [.nils, .nils, .nils]),
  (89, 0, [.nils, .nils, .nils]),
  (4213, 2, [.int .i64 2, .int .i64 10, .int .i64 0, .nils, .nils, .int .i64 9, .int .i64 10, .int .i64 15, .int .i64 0, .nils, .nils, .int .i64 (-1), .int .i64 15, .int .i64 22, .int .i64 0, .nils, .nils, .int .i64 (-1)]),
  (4310, 0, [.int .i64 12, .nils]),
  (4527, 21, [.int .u8 13, .int .u8 0, .int .u8 0, .int .u8 0, .int .u8 0, .int .u8 0, .int .u8 0, .int .u8 0, .int .u8 13, .int .u8 0, .int .u8 0, .int .u8 0, .int .u8 1, .int .u8 0, .int .u8 0, .int .u8 0, .int .u8 11, .int .u8 0, .int .u8 0, .int .u8 0, .int .u8 0, .int .u8 0, .int .u8 0, .int .u8 0, .int .u8 13, .int .u8 0, .int .u8 0, .int .u8 0, .int .u8 7, .int .u8 1, .int .u8 0, .int .u8 0, .int .u8 1, .int .u8 0, .int .u8 0, .int .u8 0, .sym .u8 (.cv .u8 (.cv .u32 (.cv .i32 (.cv .u32 (.var 0))))), .sym .u8 (.cv .u8 (.bop .shr .u32 (.cv .u32 (.cv .i32 (.cv .u32 (.var 0)))) (.num 8))), .sym .u8 (.cv .u8 (.bop .shr .u32 (.cv .u32 (.cv .i32 (.cv .u32 (.var 0)))) (.num 16))), .sym .u8 (.cv .u8 (.bop .shr .u32 (.cv .u32 (.cv .i32 (.cv .u32 (.var 0)))) (.num 24))), .int .u8 13, .int .u8 0, .int .u8 0, .int .u8 0, .int .u8 5, .int .u8 0, .int .u8 0, .int .u8 0, .int .u8 13, .int .u8 0, .int .u8 0, .int .u8 0, .int .u8 8, .int .u8 0, .int .u8 0, .int .u8 0, .int .u8 12, .int .u8 0, .int .u8 0, .int .u8 0, .int .u8 0, .int .u8 0, .int .u8 0, .int .u8 0, .int .u8 10, .int .u8 0, .int .u8 0, .int .u8 0, .int .u8 0, .int .u8 0, .int .u8 0, .int .u8 0, .int .u8 7, .int .u8 0, .int .u8 0, .int .u8 0, .int .u8 6, .int .u8 0, .int .u8 0, .int .u8 0, .int .u8 11, .int .u8 0, .int .u8 0, .int .u8 0, .int .u8 0, .int .u8 0, .int .u8 0, .int .u8 0, .int .u8 9, .int .u8 0, .int .u8 0, .int .u8 0, .int .u8 15, .int .u8 0, .int .u8 0, .int .u8 0, .int .u8 7, .int .u8 0, .int .u8 0, .int .u8 0, .int .u8 13, .int .u8 0, .int .u8 0, .int .u8 0, .int .u8 12, .int .u8 0, .int .u8 0, .int .u8 0, .int .u8 0, .int .u8 0, .int .u8 0, .int .u8 0, .int .u8 10, .int .u8 0, .int .u8 0, .int .u8 0, .int .u8 0, .int .u8 0, .int .u8 0, .int .u8 0, .int .u8 11, .int .u8 0, .int .u8 0, .int .u8 0, .int .u8 0, .int .u8 0, .int .u8 0, .int .u8 0, .int .u8 13, .int .u8 0, .int .u8 0, .int .u8 1, .int .u8 6, .int .u8 0, .int .u8 0, .int .u8 0, .int .u8 13, .int .u8 0, .int .u8 1, .int .u8 0, .int .u8 2, .int .u8 0, .int .u8 0, .int .u8 0, .int .u8 13, .int .u8 0, .int .u8 0, .int .u8 0, .int .u8 2, .int .u8 0, .int .u8 0, .int .u8 0, .int .u8 7, .int .u8 0, .int .u8 0, .int .u8 0, .int .u8 20, .int .u8 0, .int .u8 0, .int .u8 0, .int .u8 12, .int .u8 0, .int .u8 0, .int .u8 0, .int .u8 0, .int .u8 0, .int .u8 0, .int .u8 0, .int .u8 10, .int .u8 0, .int .u8 0, .int .u8 0, .int .u8 0, .int .u8 0, .int .u8 0, .int .u8 0])],
  [] ⟩
theorem rb5_e : chkM r1T (runR Tryz.prog pvZ (codeT tabL) (ovA ovL []) 200) rb5 = true := by kernel_rfl
theorem rb5_ok : MemoOK Tryz.prog r1T rb5 := chkM_ok (run_ok (ms := []) trivial) rb5_e
end Go.Proofs.YtklmiejnopdabaaGreatDoor
/- One case: known calls, evaluated by the kernel. Printed by a program. -/
namespace Go.Proofs.YtklmiejnopdabaaGreatDoor
set_option linter.constructorNameAsVariable false
set_option linter.unusedSimpArgs false
set_option linter.unusedVariables false
open Go Go.Ab Go.RowKit
set_option maxRecDepth 100000
set_option linter.unusedVariables false
def rb6 : Memo := ⟨ 21, [.ref 33 31 0 40 none], 89,
  [(12, 0, [.int .u8 25, .int .i64 1, .int .u64 0, .int .u8 1, .int .i64 0, .sym .u64 (.var 0), .int .u8 26, .int .i64 0, .int .u64 0]),
  (16, 1, [.int .u8 27, .int .i64 0, .int .u64 0, .int .u8 29, .int .i64 0, .int .u64 0, .int .u8 29, .int .i64 0, .int .u64 0, .int .u8 24, .int .i64 0, .int .u64 0]),
  (23, 1, [.int .u8 23, .int .i64 2, .int .u64 0, .int .u8 24, .int .i64 0, .int .u64 0]),
  (24, 0, [.int .u64 0, .int .u64 0]),
  (25, 0, [.int .i64 0, .nils, .bool false, .int .i64 (-1), .ref 12 0 0 3 (some 3), .int .i64 0, .nils, .bool false, .int .i64 (-1), .ref 23 1 0 2 (some 3), .int .i64 0, .nils, .bool false, .int .i64 (-1), .ref 16 1 0 4 (some 3)]),
  (27, 0, [.ref 25 0 0 3 (some 5)]),
  (28, 0, [.slt false 1 [], .sym .i64 (.var 2)]),
  (29, 0, [.int .i64 2, .sym .u64 (.var 0)]),
  (31, 0, [.nils, .nils, .nils]),
  (33, 31, [.int .u8 87, .int .u8 76, .int .u8 3, .int .u8 0, .int .u8 0, .int .u8 0, .int .u8 255, .int .u8 3, .int .u8 0, .int .u8 25, .int .u8 1, .int .u8 1, .sym .u8 (.cv .u8 (.bop .shr .u64 (.var 0) (.num 0))), .sym .u8 (.cv .u8 (.bop .shr .u64 (.var 0) (.num 8))), .sym .u8 (.cv .u8 (.bop .shr .u64 (.var 0) (.num 16))), .sym .u8 (.cv .u8 (.bop .shr .u64 (.var 0) (.num 24))), .sym .u8 (.cv .u8 (.bop .shr .u64 (.var 0) (.num 32))), .sym .u8 (.cv .u8 (.bop .shr .u64 (.var 0) (.num 40))), .sym .u8 (.cv .u8 (.bop .shr .u64 (.var 0) (.num 48))), .sym .u8 (.cv .u8 (.bop .shr .u64 (.var 0) (.num 56))), .int .u8 26, .int .u8 0, .int .u8 0, .int .u8 0, .int .u8 255, .int .u8 2, .int .u8 0, .int .u8 23, .int .u8 2, .int .u8 24, .int .u8 0, .int .u8 0, .int .u8 0, .int .u8 255, .int .u8 4, .int .u8 0, .int .u8 27, .int .u8 29, .int .u8 29, .int .u8 24])],
  [],
  .tup [.agg [.ref 4527 21 0 176 none, .ref 4213 2 0 3 (some 6), .ref 4310 0 0 1 (some 2)], .int .i64 0], 4612,
  [(12, 0, [.int .u8 25, .int .i64 1, .int .u64 0, .int .u8 1, .int .i64 0, .sym .u64 (.var 0), .int .u8 26, .int .i64 0, .int .u64 0]),
  (16, 1, [.int .u8 27, .int .i64 0, .int .u64 0, .int .u8 29, .int .i64 0, .int .u64 0, .int .u8 29, .int .i64 0, .int .u64 0, .int .u8 24, .int .i64 0, .int .u64 0]),
  (23, 1, [.int .u8 23, .int .i64 2, .int .u64 0, .int .u8 24, .int .i64 0, .int .u64 0]),
  (24, 0, [.int .u64 0, .int .u64 0]),
  (25, 0, [.int .i64 0, .nils, .bool false, .int .i64 (-1), .ref 12 0 0 3 (some 3), .int .i64 0, .nils, .bool false, .int .i64 (-1), .ref 23 1 0 2 (some 3), .int .i64 0, .nils, .bool false, .int .i64 (-1), .ref 16 1 0 4 (some 3)]),
  (27, 0, [.ref 25 0 0 3 (some 5)]),
  (28, 0, [.slt false 1 [], .sym .i64 (.var 2)]),
  (29, 0, [.int .i64 2, .sym .u64 (.var 0)]),
  (31, 0, [.nils, .nils, .nils]),
  (4213, 2, [.int .i64 2, .int .i64 10, .int .i64 0, .nils, .nils, .int .i64 9, .int .i64 10, .int .i64 15, .int .i64 0, .nils, .nils, .int .i64 (-1), .int .i64 15, .int .i64 22, .int .i64 0, .nils, .nils, .int .i64 (-1)]),
  (4310, 0, [.int .i64 12, .nils]),
  (4527, 21, [.int .u8 13, .int .u8 0, .int .u8 0, .int .u8 0, .int .u8 0, .int .u8 0, .int .u8 0, .int .u8 0, .int .u8 13, .int .u8 0, .int .u8 0, .int .u8 0, .int .u8 1, .int .u8 0, .int .u8 0, .int .u8 0, .int .u8 11, .int .u8 0, .int .u8 0, .int .u8 0, .int .u8 0, .int .u8 0, .int .u8 0, .int .u8 0, .int .u8 13, .int .u8 0, .int .u8 0, .int .u8 0, .int .u8 7, .int .u8 1, .int .u8 0, .int .u8 0, .int .u8 1, .int .u8 0, .int .u8 0, .int .u8 0, .sym .u8 (.cv .u8 (.cv .u32 (.cv .i32 (.cv .u32 (.var 0))))), .sym .u8 (.cv .u8 (.bop .shr .u32 (.cv .u32 (.cv .i32 (.cv .u32 (.var 0)))) (.num 8))), .sym .u8 (.cv .u8 (.bop .shr .u32 (.cv .u32 (.cv .i32 (.cv .u32 (.var 0)))) (.num 16))), .sym .u8 (.cv .u8 (.bop .shr .u32 (.cv .u32 (.cv .i32 (.cv .u32 (.var 0)))) (.num 24))), .int .u8 13, .int .u8 0, .int .u8 0, .int .u8 0, .int .u8 5, .int .u8 0, .int .u8 0, .int .u8 0, .int .u8 13, .int .u8 0, .int .u8 0, .int .u8 0, .int .u8 8, .int .u8 0, .int .u8 0, .int .u8 0, .int .u8 12, .int .u8 0, .int .u8 0, .int .u8 0, .int .u8 0, .int .u8 0, .int .u8 0, .int .u8 0, .int .u8 10, .int .u8 0, .int .u8 0, .int .u8 0, .int .u8 0, .int .u8 0, .int .u8 0, .int .u8 0, .int .u8 7, .int .u8 0, .int .u8 0, .int .u8 0, .int .u8 6, .int .u8 0, .int .u8 0, .int .u8 0, .int .u8 11, .int .u8 0, .int .u8 0, .int .u8 0, .int .u8 0, .int .u8 0, .int .u8 0, .int .u8 0, .int .u8 9, .int .u8 0, .int .u8 0, .int .u8 0, .int .u8 15, .int .u8 0, .int .u8 0, .int .u8 0, .int .u8 7, .int .u8 0, .int .u8 0, .int .u8 0, .int .u8 13, .int .u8 0, .int .u8 0, .int .u8 0, .int .u8 12, .int .u8 0, .int .u8 0, .int .u8 0, .int .u8 0, .int .u8 0, .int .u8 0, .int .u8 0, .int .u8 10, .int .u8 0, .int .u8 0, .int .u8 0, .int .u8 0, .int .u8 0, .int .u8 0, .int .u8 0, .int .u8 11, .int .u8 0, .int .u8 0, .int .u8 0, .int .u8 0, .int .u8 0, .int .u8 0, .int .u8 0, .int .u8 13, .int .u8 0, .int .u8 0, .int .u8 1, .int .u8 6, .int .u8 0, .int .u8 0, .int .u8 0, .int .u8 13, .int .u8 0, .int .u8 1, .int .u8 0, .int .u8 2, .int .u8 0, .int .u8 0, .int .u8 0, .int .u8 13, .int .u8 0, .int .u8 0, .int .u8 0, .int .u8 2, .int .u8 0, .int .u8 0, .int .u8 0, .int .u8 7, .int .u8 0, .int .u8 0, .int .u8 0, .int .u8 20, .int .u8 0, .int .u8 0, .int .u8 0, .int .u8 12, .int .u8 0, .int .u8 0, .int .u8 0, .int .u8 0, .int .u8 0, .int .u8 0, .int .u8 0, .int .u8 10, .int .u8 0, .int .u8 0, .int .u8 0, .int .u8 0, .int .u8 0, .int .u8 0, .int .u8 0])],
  [] ⟩
theorem rb6_e : chkM r1T (runR Tryz.prog pvZ (codeT tabL) (ovA ovL [rb3, rb4, rb5]) 200) rb6 = true := by kernel_rfl
theorem rb6_ok : MemoOK Tryz.prog r1T rb6 := chkM_ok (run_ok (ms := [rb3, rb4, rb5]) ⟨rb3_ok.mono r1T_sub, rb4_ok.mono r1T_sub, rb5_ok, trivial⟩) rb6_e
end Go.Proofs.YtklmiejnopdabaaGreatDoor
/- One case: known calls, evaluated by the kernel. Printed by a program. -/
namespace Go.Proofs.YtklmiejnopdabaaGreatDoor
set_option linter.constructorNameAsVariable false
set_option linter.unusedSimpArgs false
set_option linter.unusedVariables false
open Go Go.Ab Go.RowKit
set_option maxRecDepth 100000
set_option linter.unusedVariables false
def rb7 : Memo := ⟨ 17, [.agg [.ref 25 0 0 3 (some 5)], .nils, .int .i64 1048576], 4614,
  [(12, 0, [.int .u8 25, .int .i64 1, .int .u64 0, .int .u8 1, .int .i64 0, .sym .u64 (.var 0), .int .u8 26, .int .i64 0, .int .u64 0]),
  (16, 1, [.int .u8 27, .int .i64 0, .int .u64 0, .int .u8 29, .int .i64 0, .int .u64 0, .int .u8 29, .int .i64 0, .int .u64 0, .int .u8 24, .int .i64 0, .int .u64 0]),
  (23, 1, [.int .u8 23, .int .i64 2, .int .u64 0, .int .u8 24, .int .i64 0, .int .u64 0]),
  (24, 0, [.int .u64 0, .int .u64 0]),
  (25, 0, [.int .i64 0, .nils, .bool false, .int .i64 (-1), .ref 12 0 0 3 (some 3), .int .i64 0, .nils, .bool false, .int .i64 (-1), .ref 23 1 0 2 (some 3), .int .i64 0, .nils, .bool false, .int .i64 (-1), .ref 16 1 0 4 (some 3)]),
  (28, 0, [.slt false 1 [], .sym .i64 (.var 2)]),
  (29, 0, [.int .i64 2, .sym .u64 (.var 0)]),
  (4213, 2, [.int .i64 2, .int .i64 10, .int .i64 0, .nils, .nils, .int .i64 9, .int .i64 10, .int .i64 15, .int .i64 0, .nils, .nils, .int .i64 (-1), .int .i64 15, .int .i64 22, .int .i64 0, .nils, .nils, .int .i64 (-1)]),
  (4310, 0, [.int .i64 12, .nils]),
  (4527, 21, [.int .u8 13, .int .u8 0, .int .u8 0, .int .u8 0, .int .u8 0, .int .u8 0, .int .u8 0, .int .u8 0, .int .u8 13, .int .u8 0, .int .u8 0, .int .u8 0, .int .u8 1, .int .u8 0, .int .u8 0, .int .u8 0, .int .u8 11, .int .u8 0, .int .u8 0, .int .u8 0, .int .u8 0, .int .u8 0, .int .u8 0, .int .u8 0, .int .u8 13, .int .u8 0, .int .u8 0, .int .u8 0, .int .u8 7, .int .u8 1, .int .u8 0, .int .u8 0, .int .u8 1, .int .u8 0, .int .u8 0, .int .u8 0, .sym .u8 (.cv .u8 (.cv .u32 (.cv .i32 (.cv .u32 (.var 0))))), .sym .u8 (.cv .u8 (.bop .shr .u32 (.cv .u32 (.cv .i32 (.cv .u32 (.var 0)))) (.num 8))), .sym .u8 (.cv .u8 (.bop .shr .u32 (.cv .u32 (.cv .i32 (.cv .u32 (.var 0)))) (.num 16))), .sym .u8 (.cv .u8 (.bop .shr .u32 (.cv .u32 (.cv .i32 (.cv .u32 (.var 0)))) (.num 24))), .int .u8 13, .int .u8 0, .int .u8 0, .int .u8 0, .int .u8 5, .int .u8 0, .int .u8 0, .int .u8 0, .int .u8 13, .int .u8 0, .int .u8 0, .int .u8 0, .int .u8 8, .int .u8 0, .int .u8 0, .int .u8 0, .int .u8 12, .int .u8 0, .int .u8 0, .int .u8 0, .int .u8 0, .int .u8 0, .int .u8 0, .int .u8 0, .int .u8 10, .int .u8 0, .int .u8 0, .int .u8 0, .int .u8 0, .int .u8 0, .int .u8 0, .int .u8 0, .int .u8 7, .int .u8 0, .int .u8 0, .int .u8 0, .int .u8 6, .int .u8 0, .int .u8 0, .int .u8 0, .int .u8 11, .int .u8 0, .int .u8 0, .int .u8 0, .int .u8 0, .int .u8 0, .int .u8 0, .int .u8 0, .int .u8 9, .int .u8 0, .int .u8 0, .int .u8 0, .int .u8 15, .int .u8 0, .int .u8 0, .int .u8 0, .int .u8 7, .int .u8 0, .int .u8 0, .int .u8 0, .int .u8 13, .int .u8 0, .int .u8 0, .int .u8 0, .int .u8 12, .int .u8 0, .int .u8 0, .int .u8 0, .int .u8 0, .int .u8 0, .int .u8 0, .int .u8 0, .int .u8 10, .int .u8 0, .int .u8 0, .int .u8 0, .int .u8 0, .int .u8 0, .int .u8 0, .int .u8 0, .int .u8 11, .int .u8 0, .int .u8 0, .int .u8 0, .int .u8 0, .int .u8 0, .int .u8 0, .int .u8 0, .int .u8 13, .int .u8 0, .int .u8 0, .int .u8 1, .int .u8 6, .int .u8 0, .int .u8 0, .int .u8 0, .int .u8 13, .int .u8 0, .int .u8 1, .int .u8 0, .int .u8 2, .int .u8 0, .int .u8 0, .int .u8 0, .int .u8 13, .int .u8 0, .int .u8 0, .int .u8 0, .int .u8 2, .int .u8 0, .int .u8 0, .int .u8 0, .int .u8 7, .int .u8 0, .int .u8 0, .int .u8 0, .int .u8 20, .int .u8 0, .int .u8 0, .int .u8 0, .int .u8 12, .int .u8 0, .int .u8 0, .int .u8 0, .int .u8 0, .int .u8 0, .int .u8 0, .int .u8 0, .int .u8 10, .int .u8 0, .int .u8 0, .int .u8 0, .int .u8 0, .int .u8 0, .int .u8 0, .int .u8 0]),
  (4613, 0, [.ref 4527 21 0 176 none, .ref 4213 2 0 3 (some 6), .ref 4310 0 0 1 (some 2)])],
  [],
  .tup [.agg [.ref 4871 1 0 2 (some 2), .int .i64 2, .sym .u64 (.var 0), .int .i64 9, .int .i64 3, .int .i64 1, .int .i64 1], .int .i64 0], 4872,
  [(24, 0, [.int .u64 0, .int .u64 0]),
  (28, 0, [.slt false 1 [], .sym .i64 (.var 2)]),
  (29, 0, [.int .i64 2, .sym .u64 (.var 0)]),
  (4213, 2, [.int .i64 2, .int .i64 10, .int .i64 0, .nils, .nils, .int .i64 9, .int .i64 10, .int .i64 15, .int .i64 0, .nils, .nils, .int .i64 (-1), .int .i64 15, .int .i64 22, .int .i64 0, .nils, .nils, .int .i64 (-1)]),
  (4310, 0, [.int .i64 12, .nils]),
  (4527, 21, [.int .u8 13, .int .u8 0, .int .u8 0, .int .u8 0, .int .u8 0, .int .u8 0, .int .u8 0, .int .u8 0, .int .u8 13, .int .u8 0, .int .u8 0, .int .u8 0, .int .u8 1, .int .u8 0, .int .u8 0, .int .u8 0, .int .u8 11, .int .u8 0, .int .u8 0, .int .u8 0, .int .u8 0, .int .u8 0, .int .u8 0, .int .u8 0, .int .u8 13, .int .u8 0, .int .u8 0, .int .u8 0, .int .u8 7, .int .u8 1, .int .u8 0, .int .u8 0, .int .u8 1, .int .u8 0, .int .u8 0, .int .u8 0, .sym .u8 (.cv .u8 (.cv .u32 (.cv .i32 (.cv .u32 (.var 0))))), .sym .u8 (.cv .u8 (.bop .shr .u32 (.cv .u32 (.cv .i32 (.cv .u32 (.var 0)))) (.num 8))), .sym .u8 (.cv .u8 (.bop .shr .u32 (.cv .u32 (.cv .i32 (.cv .u32 (.var 0)))) (.num 16))), .sym .u8 (.cv .u8 (.bop .shr .u32 (.cv .u32 (.cv .i32 (.cv .u32 (.var 0)))) (.num 24))), .int .u8 13, .int .u8 0, .int .u8 0, .int .u8 0, .int .u8 5, .int .u8 0, .int .u8 0, .int .u8 0, .int .u8 13, .int .u8 0, .int .u8 0, .int .u8 0, .int .u8 8, .int .u8 0, .int .u8 0, .int .u8 0, .int .u8 12, .int .u8 0, .int .u8 0, .int .u8 0, .int .u8 0, .int .u8 0, .int .u8 0, .int .u8 0, .int .u8 10, .int .u8 0, .int .u8 0, .int .u8 0, .int .u8 0, .int .u8 0, .int .u8 0, .int .u8 0, .int .u8 7, .int .u8 0, .int .u8 0, .int .u8 0, .int .u8 6, .int .u8 0, .int .u8 0, .int .u8 0, .int .u8 11, .int .u8 0, .int .u8 0, .int .u8 0, .int .u8 0, .int .u8 0, .int .u8 0, .int .u8 0, .int .u8 9, .int .u8 0, .int .u8 0, .int .u8 0, .int .u8 15, .int .u8 0, .int .u8 0, .int .u8 0, .int .u8 7, .int .u8 0, .int .u8 0, .int .u8 0, .int .u8 13, .int .u8 0, .int .u8 0, .int .u8 0, .int .u8 12, .int .u8 0, .int .u8 0, .int .u8 0, .int .u8 0, .int .u8 0, .int .u8 0, .int .u8 0, .int .u8 10, .int .u8 0, .int .u8 0, .int .u8 0, .int .u8 0, .int .u8 0, .int .u8 0, .int .u8 0, .int .u8 11, .int .u8 0, .int .u8 0, .int .u8 0, .int .u8 0, .int .u8 0, .int .u8 0, .int .u8 0, .int .u8 13, .int .u8 0, .int .u8 0, .int .u8 1, .int .u8 6, .int .u8 0, .int .u8 0, .int .u8 0, .int .u8 13, .int .u8 0, .int .u8 1, .int .u8 0, .int .u8 2, .int .u8 0, .int .u8 0, .int .u8 0, .int .u8 13, .int .u8 0, .int .u8 0, .int .u8 0, .int .u8 2, .int .u8 0, .int .u8 0, .int .u8 0, .int .u8 7, .int .u8 0, .int .u8 0, .int .u8 0, .int .u8 20, .int .u8 0, .int .u8 0, .int .u8 0, .int .u8 12, .int .u8 0, .int .u8 0, .int .u8 0, .int .u8 0, .int .u8 0, .int .u8 0, .int .u8 0, .int .u8 10, .int .u8 0, .int .u8 0, .int .u8 0, .int .u8 0, .int .u8 0, .int .u8 0, .int .u8 0]),
  (4613, 0, [.ref 4527 21 0 176 none, .ref 4213 2 0 3 (some 6), .ref 4310 0 0 1 (some 2)]),
  (4871, 1, [.int .i64 1, .int .u64 0, .int .i64 1, .int .u64 0])],
  [] ⟩
theorem rb7_e : chkM r1T (runR Tryz.prog pvZ (codeT tabL) (ovA ovL []) 200) rb7 = true := by kernel_rfl
theorem rb7_ok : MemoOK Tryz.prog r1T rb7 := chkM_ok (run_ok (ms := []) trivial) rb7_e
end Go.Proofs.YtklmiejnopdabaaGreatDoor
