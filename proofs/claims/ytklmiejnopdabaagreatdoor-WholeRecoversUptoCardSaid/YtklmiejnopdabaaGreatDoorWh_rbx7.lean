/- One case: known calls, evaluated by the kernel. Printed by a program. -/
import Derived.Test.YtklmiejnopdabaaGreatDoorWhH
import Derived.Test.YtklmiejnopdabaaGreatDoorWh_rb4
namespace Go.Proofs.YtklmiejnopdabaaGreatDoor
set_option linter.constructorNameAsVariable false
set_option linter.unusedSimpArgs false
set_option linter.unusedVariables false
open Go Go.Ab Go.RowKit
set_option maxRecDepth 100000
set_option linter.unusedVariables false
def rbx5 : Memo := ⟨ 41, [.agg [.ref 1155 2 0 3 (some 8)]], 3782,
  [(12, 0, [.int .u8 25, .int .i64 1, .int .u64 0, .int .u8 1, .int .i64 0, .sym .u64 (.var 0), .int .u8 26, .int .i64 0, .int .u64 0]),
  (16, 1, [.int .u8 27, .int .i64 0, .int .u64 0, .int .u8 29, .int .i64 0, .int .u64 0, .int .u8 29, .int .i64 0, .int .u64 0, .int .u8 24, .int .i64 0, .int .u64 0]),
  (23, 1, [.int .u8 23, .int .i64 2, .int .u64 0, .int .u8 24, .int .i64 0, .int .u64 0]),
  (24, 0, [.int .u64 0, .int .u64 0]),
  (25, 0, [.int .i64 0, .nils, .bool false, .int .i64 (-1), .ref 12 0 0 3 (some 3), .int .i64 0, .nils, .bool false, .int .i64 (-1), .ref 23 1 0 2 (some 3), .int .i64 0, .nils, .bool false, .int .i64 (-1), .ref 16 1 0 4 (some 3)]),
  (27, 0, [.ref 25 0 0 3 (some 5)]),
  (28, 0, [.slt false 1 [], .sym .i64 (.var 2)]),
  (29, 0, [.int .i64 2, .sym .u64 (.var 0)]),
  (31, 0, [.nils, .nils, .nils]),
  (89, 0, [.nils, .nils, .nils]),
  (1104, 0, [.int .u8 0, .int .u8 0, .int .u8 0, .int .u8 0, .int .u8 0, .int .u8 0, .int .u8 0, .int .u8 0, .int .u8 0, .int .u8 0, .int .u8 0, .int .u8 0, .int .u8 0, .int .u8 0, .int .u8 0, .int .u8 0]),
  (1109, 3, [.int .u8 10, .int .u8 0, .int .i64 0, .int .i64 0, .int .i64 0, .int .i64 0, .int .i64 0, .int .i64 0, .int .u64 0, .nils, .int .i64 1, .int .i64 0, .int .u8 13, .int .u8 0, .int .i64 (-1), .int .i64 0, .int .i64 0, .int .i64 0, .int .i64 1, .int .i64 0, .int .u64 0, .nils, .int .i64 2, .int .i64 0, .int .u8 1, .int .u8 0, .int .i64 0, .int .i64 (-1), .int .i64 (-1), .int .i64 0, .int .i64 0, .int .i64 0, .sym .u64 (.var 0), .nils, .int .i64 3, .int .i64 0, .int .u8 14, .int .u8 0, .int .i64 (-1), .int .i64 (-1), .int .i64 0, .int .i64 0, .int .i64 0, .int .i64 0, .int .u64 0, .nils, .int .i64 0, .int .i64 0]),
  (1155, 2, [.nils, .ref 1104 0 0 16 none, .int .i64 0, .nils, .bool false, .int .i64 (-1), .ref 1109 3 0 4 (some 12), .int .i64 0, .nils, .ref 1603 0 0 16 none, .int .i64 0, .nils, .bool false, .int .i64 (-1), .ref 1608 2 0 3 (some 12), .int .i64 0, .nils, .ref 2346 0 0 16 none, .int .i64 0, .nils, .bool false, .int .i64 (-1), .ref 2351 4 0 5 (some 12), .int .i64 0]),
  (1603, 0, [.int .u8 0, .int .u8 0, .int .u8 0, .int .u8 0, .int .u8 0, .int .u8 0, .int .u8 0, .int .u8 0, .int .u8 0, .int .u8 0, .int .u8 0, .int .u8 0, .int .u8 0, .int .u8 0, .int .u8 0, .int .u8 0]),
  (1608, 2, [.int .u8 10, .int .u8 0, .int .i64 0, .int .i64 0, .int .i64 0, .int .i64 0, .int .i64 0, .int .i64 0, .int .u64 0, .nils, .int .i64 1, .int .i64 0, .int .u8 11, .int .u8 0, .int .i64 (-1), .int .i64 0, .int .i64 0, .int .i64 0, .int .i64 2, .int .i64 0, .int .u64 0, .nils, .int .i64 2, .int .i64 0, .int .u8 12, .int .u8 0, .int .i64 (-1), .int .i64 (-1), .int .i64 (-1), .int .i64 0, .int .i64 0, .int .i64 0, .int .u64 0, .nils, .int .i64 0, .int .i64 0]),
  (2346, 0, [.int .u8 0, .int .u8 0, .int .u8 0, .int .u8 0, .int .u8 0, .int .u8 0, .int .u8 0, .int .u8 0, .int .u8 0, .int .u8 0, .int .u8 0, .int .u8 0, .int .u8 0, .int .u8 0, .int .u8 0, .int .u8 0]),
  (2351, 4, [.int .u8 10, .int .u8 0, .int .i64 0, .int .i64 0, .int .i64 0, .int .i64 0, .int .i64 0, .int .i64 0, .int .u64 0, .nils, .int .i64 1, .int .i64 0, .int .u8 15, .int .u8 0, .int .i64 0, .int .i64 1, .int .i64 (-1), .int .i64 0, .int .i64 0, .int .i64 0, .int .u64 0, .nils, .int .i64 2, .int .i64 0, .int .u8 17, .int .u8 0, .int .i64 (-1), .int .i64 (-1), .int .i64 1, .int .i64 0, .int .i64 0, .int .i64 0, .int .u64 0, .nils, .int .i64 3, .int .i64 0, .int .u8 17, .int .u8 0, .int .i64 (-1), .int .i64 (-1), .int .i64 0, .int .i64 0, .int .i64 0, .int .i64 0, .int .u64 0, .nils, .int .i64 4, .int .i64 0, .int .u8 12, .int .u8 0, .int .i64 (-1), .int .i64 (-1), .int .i64 (-1), .int .i64 0, .int .i64 0, .int .i64 0, .int .u64 0, .nils, .int .i64 0, .int .i64 0])],
  [],
  .tup [.agg [.ref 4528 22 0 184 none, .ref 4214 2 0 3 (some 6), .ref 4311 0 0 1 (some 2)], .int .i64 0], 4617,
  [(12, 0, [.int .u8 25, .int .i64 1, .int .u64 0, .int .u8 1, .int .i64 0, .sym .u64 (.var 0), .int .u8 26, .int .i64 0, .int .u64 0]),
  (16, 1, [.int .u8 27, .int .i64 0, .int .u64 0, .int .u8 29, .int .i64 0, .int .u64 0, .int .u8 29, .int .i64 0, .int .u64 0, .int .u8 24, .int .i64 0, .int .u64 0]),
  (23, 1, [.int .u8 23, .int .i64 2, .int .u64 0, .int .u8 24, .int .i64 0, .int .u64 0]),
  (24, 0, [.int .u64 0, .int .u64 0]),
  (25, 0, [.int .i64 0, .nils, .bool false, .int .i64 (-1), .ref 12 0 0 3 (some 3), .int .i64 0, .nils, .bool false, .int .i64 (-1), .ref 23 1 0 2 (some 3), .int .i64 0, .nils, .bool false, .int .i64 (-1), .ref 16 1 0 4 (some 3)]),
  (27, 0, [.ref 25 0 0 3 (some 5)]),
  (28, 0, [.slt false 1 [], .sym .i64 (.var 2)]),
  (29, 0, [.int .i64 2, .sym .u64 (.var 0)]),
  (31, 0, [.nils, .nils, .nils]),
  (89, 0, [.nils, .nils, .nils]),
  (4214, 2, [.int .i64 2, .int .i64 11, .int .i64 0, .nils, .nils, .int .i64 10, .int .i64 11, .int .i64 16, .int .i64 0, .nils, .nils, .int .i64 (-1), .int .i64 16, .int .i64 23, .int .i64 0, .nils, .nils, .int .i64 (-1)]),
  (4311, 0, [.int .i64 13, .nils]),
  (4528, 22, [.int .u8 13, .int .u8 0, .int .u8 0, .int .u8 0, .int .u8 0, .int .u8 0, .int .u8 0, .int .u8 0, .int .u8 13, .int .u8 0, .int .u8 0, .int .u8 0, .int .u8 1, .int .u8 0, .int .u8 0, .int .u8 0, .int .u8 11, .int .u8 0, .int .u8 0, .int .u8 0, .int .u8 0, .int .u8 0, .int .u8 0, .int .u8 0, .int .u8 13, .int .u8 0, .int .u8 0, .int .u8 0, .int .u8 7, .int .u8 1, .int .u8 0, .int .u8 0, .int .u8 1, .int .u8 0, .int .u8 0, .int .u8 0, .sym .u8 (.cv .u8 (.cv .u32 (.cv .i32 (.cv .u32 (.var 0))))), .sym .u8 (.cv .u8 (.bop .shr .u32 (.cv .u32 (.cv .i32 (.cv .u32 (.var 0)))) (.num 8))), .sym .u8 (.cv .u8 (.bop .shr .u32 (.cv .u32 (.cv .i32 (.cv .u32 (.var 0)))) (.num 16))), .sym .u8 (.cv .u8 (.bop .shr .u32 (.cv .u32 (.cv .i32 (.cv .u32 (.var 0)))) (.num 24))), .int .u8 2, .int .u8 0, .int .u8 0, .int .u8 0, .sym .u8 (.cv .u8 (.cv .u32 (.cv .i32 (.cv .u32 (.bop .shr .u64 (.var 0) (.num 32)))))), .sym .u8 (.cv .u8 (.bop .shr .u32 (.cv .u32 (.cv .i32 (.cv .u32 (.bop .shr .u64 (.var 0) (.num 32))))) (.num 8))), .sym .u8 (.cv .u8 (.bop .shr .u32 (.cv .u32 (.cv .i32 (.cv .u32 (.bop .shr .u64 (.var 0) (.num 32))))) (.num 16))), .sym .u8 (.cv .u8 (.bop .shr .u32 (.cv .u32 (.cv .i32 (.cv .u32 (.bop .shr .u64 (.var 0) (.num 32))))) (.num 24))), .int .u8 13, .int .u8 0, .int .u8 0, .int .u8 0, .int .u8 5, .int .u8 0, .int .u8 0, .int .u8 0, .int .u8 13, .int .u8 0, .int .u8 0, .int .u8 0, .int .u8 8, .int .u8 0, .int .u8 0, .int .u8 0, .int .u8 12, .int .u8 0, .int .u8 0, .int .u8 0, .int .u8 0, .int .u8 0, .int .u8 0, .int .u8 0, .int .u8 10, .int .u8 0, .int .u8 0, .int .u8 0, .int .u8 0, .int .u8 0, .int .u8 0, .int .u8 0, .int .u8 7, .int .u8 0, .int .u8 0, .int .u8 0, .int .u8 7, .int .u8 0, .int .u8 0, .int .u8 0, .int .u8 11, .int .u8 0, .int .u8 0, .int .u8 0, .int .u8 0, .int .u8 0, .int .u8 0, .int .u8 0, .int .u8 9, .int .u8 0, .int .u8 0, .int .u8 0, .int .u8 16, .int .u8 0, .int .u8 0, .int .u8 0, .int .u8 7, .int .u8 0, .int .u8 0, .int .u8 0, .int .u8 14, .int .u8 0, .int .u8 0, .int .u8 0, .int .u8 12, .int .u8 0, .int .u8 0, .int .u8 0, .int .u8 0, .int .u8 0, .int .u8 0, .int .u8 0, .int .u8 10, .int .u8 0, .int .u8 0, .int .u8 0, .int .u8 0, .int .u8 0, .int .u8 0, .int .u8 0, .int .u8 11, .int .u8 0, .int .u8 0, .int .u8 0, .int .u8 0, .int .u8 0, .int .u8 0, .int .u8 0, .int .u8 13, .int .u8 0, .int .u8 0, .int .u8 1, .int .u8 6, .int .u8 0, .int .u8 0, .int .u8 0, .int .u8 13, .int .u8 0, .int .u8 1, .int .u8 0, .int .u8 2, .int .u8 0, .int .u8 0, .int .u8 0, .int .u8 13, .int .u8 0, .int .u8 0, .int .u8 0, .int .u8 2, .int .u8 0, .int .u8 0, .int .u8 0, .int .u8 7, .int .u8 0, .int .u8 0, .int .u8 0, .int .u8 21, .int .u8 0, .int .u8 0, .int .u8 0, .int .u8 12, .int .u8 0, .int .u8 0, .int .u8 0, .int .u8 0, .int .u8 0, .int .u8 0, .int .u8 0, .int .u8 10, .int .u8 0, .int .u8 0, .int .u8 0, .int .u8 0, .int .u8 0, .int .u8 0, .int .u8 0])],
  [] ⟩
theorem rbx5_e : chkM r1F (runR Tryz.prog pvZ (codeT tabL) (ovA ovL []) 200) rbx5 = true := by kernel_rfl
theorem rbx5_ok : MemoOK Tryz.prog r1F rbx5 := chkM_ok (run_ok (ms := []) trivial) rbx5_e
end Go.Proofs.YtklmiejnopdabaaGreatDoor
/- One case: known calls, evaluated by the kernel. Printed by a program. -/
namespace Go.Proofs.YtklmiejnopdabaaGreatDoor
set_option linter.constructorNameAsVariable false
set_option linter.unusedSimpArgs false
set_option linter.unusedVariables false
open Go Go.Ab Go.RowKit
set_option maxRecDepth 100000
set_option linter.unusedVariables false
def rbx6 : Memo := ⟨ 21, [.ref 33 31 0 40 none], 89,
  [(12, 0, [.int .u8 25, .int .i64 1, .int .u64 0, .int .u8 1, .int .i64 0, .sym .u64 (.var 0), .int .u8 26, .int .i64 0, .int .u64 0]),
  (16, 1, [.int .u8 27, .int .i64 0, .int .u64 0, .int .u8 29, .int .i64 0, .int .u64 0, .int .u8 29, .int .i64 0, .int .u64 0, .int .u8 24, .int .i64 0, .int .u64 0]),
  (23, 1, [.int .u8 23, .int .i64 2, .int .u64 0, .int .u8 24, .int .i64 0, .int .u64 0]),
  (24, 0, [.int .u64 0, .int .u64 0]),
  (25, 0, [.int .i64 0, .nils, .bool false, .int .i64 (-1), .ref 12 0 0 3 (some 3), .int .i64 0, .nils, .bool false, .int .i64 (-1), .ref 23 1 0 2 (some 3), .int .i64 0, .nils, .bool false, .int .i64 (-1), .ref 16 1 0 4 (some 3)]),
  (27, 0, [.ref 25 0 0 3 (some 5)]),
  (28, 0, [.slt false 1 [], .sym .i64 (.var 2)]),
  (29, 0, [.int .i64 2, .sym .u64 (.var 0)]),
  (31, 0, [.nils, .nils, .nils]),
  (33, 31, [.int .u8 87, .int .u8 76, .int .u8 3, .int .u8 0, .int .u8 0, .int .u8 0, .int .u8 255, .int .u8 3, .int .u8 0, .int .u8 25, .int .u8 1, .int .u8 1, .sym .u8 (.cv .u8 (.bop .shr .u64 (.var 0) (.num 0))), .sym .u8 (.cv .u8 (.bop .shr .u64 (.var 0) (.num 8))), .sym .u8 (.cv .u8 (.bop .shr .u64 (.var 0) (.num 16))), .sym .u8 (.cv .u8 (.bop .shr .u64 (.var 0) (.num 24))), .sym .u8 (.cv .u8 (.bop .shr .u64 (.var 0) (.num 32))), .sym .u8 (.cv .u8 (.bop .shr .u64 (.var 0) (.num 40))), .sym .u8 (.cv .u8 (.bop .shr .u64 (.var 0) (.num 48))), .sym .u8 (.cv .u8 (.bop .shr .u64 (.var 0) (.num 56))), .int .u8 26, .int .u8 0, .int .u8 0, .int .u8 0, .int .u8 255, .int .u8 2, .int .u8 0, .int .u8 23, .int .u8 2, .int .u8 24, .int .u8 0, .int .u8 0, .int .u8 0, .int .u8 255, .int .u8 4, .int .u8 0, .int .u8 27, .int .u8 29, .int .u8 29, .int .u8 24])],
  [],
  .tup [.agg [.ref 4528 22 0 184 none, .ref 4214 2 0 3 (some 6), .ref 4311 0 0 1 (some 2)], .int .i64 0], 4617,
  [(12, 0, [.int .u8 25, .int .i64 1, .int .u64 0, .int .u8 1, .int .i64 0, .sym .u64 (.var 0), .int .u8 26, .int .i64 0, .int .u64 0]),
  (16, 1, [.int .u8 27, .int .i64 0, .int .u64 0, .int .u8 29, .int .i64 0, .int .u64 0, .int .u8 29, .int .i64 0, .int .u64 0, .int .u8 24, .int .i64 0, .int .u64 0]),
  (23, 1, [.int .u8 23, .int .i64 2, .int .u64 0, .int .u8 24, .int .i64 0, .int .u64 0]),
  (24, 0, [.int .u64 0, .int .u64 0]),
  (25, 0, [.int .i64 0, .nils, .bool false, .int .i64 (-1), .ref 12 0 0 3 (some 3), .int .i64 0, .nils, .bool false, .int .i64 (-1), .ref 23 1 0 2 (some 3), .int .i64 0, .nils, .bool false, .int .i64 (-1), .ref 16 1 0 4 (some 3)]),
  (27, 0, [.ref 25 0 0 3 (some 5)]),
  (28, 0, [.slt false 1 [], .sym .i64 (.var 2)]),
  (29, 0, [.int .i64 2, .sym .u64 (.var 0)]),
  (31, 0, [.nils, .nils, .nils]),
  (4214, 2, [.int .i64 2, .int .i64 11, .int .i64 0, .nils, .nils, .int .i64 10, .int .i64 11, .int .i64 16, .int .i64 0, .nils, .nils, .int .i64 (-1), .int .i64 16, .int .i64 23, .int .i64 0, .nils, .nils, .int .i64 (-1)]),
  (4311, 0, [.int .i64 13, .nils]),
  (4528, 22, [.int .u8 13, .int .u8 0, .int .u8 0, .int .u8 0, .int .u8 0, .int .u8 0, .int .u8 0, .int .u8 0, .int .u8 13, .int .u8 0, .int .u8 0, .int .u8 0, .int .u8 1, .int .u8 0, .int .u8 0, .int .u8 0, .int .u8 11, .int .u8 0, .int .u8 0, .int .u8 0, .int .u8 0, .int .u8 0, .int .u8 0, .int .u8 0, .int .u8 13, .int .u8 0, .int .u8 0, .int .u8 0, .int .u8 7, .int .u8 1, .int .u8 0, .int .u8 0, .int .u8 1, .int .u8 0, .int .u8 0, .int .u8 0, .sym .u8 (.cv .u8 (.cv .u32 (.cv .i32 (.cv .u32 (.var 0))))), .sym .u8 (.cv .u8 (.bop .shr .u32 (.cv .u32 (.cv .i32 (.cv .u32 (.var 0)))) (.num 8))), .sym .u8 (.cv .u8 (.bop .shr .u32 (.cv .u32 (.cv .i32 (.cv .u32 (.var 0)))) (.num 16))), .sym .u8 (.cv .u8 (.bop .shr .u32 (.cv .u32 (.cv .i32 (.cv .u32 (.var 0)))) (.num 24))), .int .u8 2, .int .u8 0, .int .u8 0, .int .u8 0, .sym .u8 (.cv .u8 (.cv .u32 (.cv .i32 (.cv .u32 (.bop .shr .u64 (.var 0) (.num 32)))))), .sym .u8 (.cv .u8 (.bop .shr .u32 (.cv .u32 (.cv .i32 (.cv .u32 (.bop .shr .u64 (.var 0) (.num 32))))) (.num 8))), .sym .u8 (.cv .u8 (.bop .shr .u32 (.cv .u32 (.cv .i32 (.cv .u32 (.bop .shr .u64 (.var 0) (.num 32))))) (.num 16))), .sym .u8 (.cv .u8 (.bop .shr .u32 (.cv .u32 (.cv .i32 (.cv .u32 (.bop .shr .u64 (.var 0) (.num 32))))) (.num 24))), .int .u8 13, .int .u8 0, .int .u8 0, .int .u8 0, .int .u8 5, .int .u8 0, .int .u8 0, .int .u8 0, .int .u8 13, .int .u8 0, .int .u8 0, .int .u8 0, .int .u8 8, .int .u8 0, .int .u8 0, .int .u8 0, .int .u8 12, .int .u8 0, .int .u8 0, .int .u8 0, .int .u8 0, .int .u8 0, .int .u8 0, .int .u8 0, .int .u8 10, .int .u8 0, .int .u8 0, .int .u8 0, .int .u8 0, .int .u8 0, .int .u8 0, .int .u8 0, .int .u8 7, .int .u8 0, .int .u8 0, .int .u8 0, .int .u8 7, .int .u8 0, .int .u8 0, .int .u8 0, .int .u8 11, .int .u8 0, .int .u8 0, .int .u8 0, .int .u8 0, .int .u8 0, .int .u8 0, .int .u8 0, .int .u8 9, .int .u8 0, .int .u8 0, .int .u8 0, .int .u8 16, .int .u8 0, .int .u8 0, .int .u8 0, .int .u8 7, .int .u8 0, .int .u8 0, .int .u8 0, .int .u8 14, .int .u8 0, .int .u8 0, .int .u8 0, .int .u8 12, .int .u8 0, .int .u8 0, .int .u8 0, .int .u8 0, .int .u8 0, .int .u8 0, .int .u8 0, .int .u8 10, .int .u8 0, .int .u8 0, .int .u8 0, .int .u8 0, .int .u8 0, .int .u8 0, .int .u8 0, .int .u8 11, .int .u8 0, .int .u8 0, .int .u8 0, .int .u8 0, .int .u8 0, .int .u8 0, .int .u8 0, .int .u8 13, .int .u8 0, .int .u8 0, .int .u8 1, .int .u8 6, .int .u8 0, .int .u8 0, .int .u8 0, .int .u8 13, .int .u8 0, .int .u8 1, .int .u8 0, .int .u8 2, .int .u8 0, .int .u8 0, .int .u8 0, .int .u8 13, .int .u8 0, .int .u8 0, .int .u8 0, .int .u8 2, .int .u8 0, .int .u8 0, .int .u8 0, .int .u8 7, .int .u8 0, .int .u8 0, .int .u8 0, .int .u8 21, .int .u8 0, .int .u8 0, .int .u8 0, .int .u8 12, .int .u8 0, .int .u8 0, .int .u8 0, .int .u8 0, .int .u8 0, .int .u8 0, .int .u8 0, .int .u8 10, .int .u8 0, .int .u8 0, .int .u8 0, .int .u8 0, .int .u8 0, .int .u8 0, .int .u8 0])],
  [] ⟩
theorem rbx6_e : chkM r1F (runR Tryz.prog pvZ (codeT tabL) (ovA ovL [rb3, rb4, rbx5]) 200) rbx6 = true := by kernel_rfl
theorem rbx6_ok : MemoOK Tryz.prog r1F rbx6 := chkM_ok (run_ok (ms := [rb3, rb4, rbx5]) ⟨rb3_ok.mono r1F_sub, rb4_ok.mono r1F_sub, rbx5_ok, trivial⟩) rbx6_e
end Go.Proofs.YtklmiejnopdabaaGreatDoor
/- One case: known calls, evaluated by the kernel. Printed by a program. -/
namespace Go.Proofs.YtklmiejnopdabaaGreatDoor
set_option linter.constructorNameAsVariable false
set_option linter.unusedSimpArgs false
set_option linter.unusedVariables false
open Go Go.Ab Go.RowKit
set_option maxRecDepth 100000
set_option linter.unusedVariables false
def rbx7 : Memo := ⟨ 17, [.agg [.ref 25 0 0 3 (some 5)], .nils, .int .i64 1048576], 4619,
  [(12, 0, [.int .u8 25, .int .i64 1, .int .u64 0, .int .u8 1, .int .i64 0, .sym .u64 (.var 0), .int .u8 26, .int .i64 0, .int .u64 0]),
  (16, 1, [.int .u8 27, .int .i64 0, .int .u64 0, .int .u8 29, .int .i64 0, .int .u64 0, .int .u8 29, .int .i64 0, .int .u64 0, .int .u8 24, .int .i64 0, .int .u64 0]),
  (23, 1, [.int .u8 23, .int .i64 2, .int .u64 0, .int .u8 24, .int .i64 0, .int .u64 0]),
  (24, 0, [.int .u64 0, .int .u64 0]),
  (25, 0, [.int .i64 0, .nils, .bool false, .int .i64 (-1), .ref 12 0 0 3 (some 3), .int .i64 0, .nils, .bool false, .int .i64 (-1), .ref 23 1 0 2 (some 3), .int .i64 0, .nils, .bool false, .int .i64 (-1), .ref 16 1 0 4 (some 3)]),
  (28, 0, [.slt false 1 [], .sym .i64 (.var 2)]),
  (29, 0, [.int .i64 2, .sym .u64 (.var 0)]),
  (4214, 2, [.int .i64 2, .int .i64 11, .int .i64 0, .nils, .nils, .int .i64 10, .int .i64 11, .int .i64 16, .int .i64 0, .nils, .nils, .int .i64 (-1), .int .i64 16, .int .i64 23, .int .i64 0, .nils, .nils, .int .i64 (-1)]),
  (4311, 0, [.int .i64 13, .nils]),
  (4528, 22, [.int .u8 13, .int .u8 0, .int .u8 0, .int .u8 0, .int .u8 0, .int .u8 0, .int .u8 0, .int .u8 0, .int .u8 13, .int .u8 0, .int .u8 0, .int .u8 0, .int .u8 1, .int .u8 0, .int .u8 0, .int .u8 0, .int .u8 11, .int .u8 0, .int .u8 0, .int .u8 0, .int .u8 0, .int .u8 0, .int .u8 0, .int .u8 0, .int .u8 13, .int .u8 0, .int .u8 0, .int .u8 0, .int .u8 7, .int .u8 1, .int .u8 0, .int .u8 0, .int .u8 1, .int .u8 0, .int .u8 0, .int .u8 0, .sym .u8 (.cv .u8 (.cv .u32 (.cv .i32 (.cv .u32 (.var 0))))), .sym .u8 (.cv .u8 (.bop .shr .u32 (.cv .u32 (.cv .i32 (.cv .u32 (.var 0)))) (.num 8))), .sym .u8 (.cv .u8 (.bop .shr .u32 (.cv .u32 (.cv .i32 (.cv .u32 (.var 0)))) (.num 16))), .sym .u8 (.cv .u8 (.bop .shr .u32 (.cv .u32 (.cv .i32 (.cv .u32 (.var 0)))) (.num 24))), .int .u8 2, .int .u8 0, .int .u8 0, .int .u8 0, .sym .u8 (.cv .u8 (.cv .u32 (.cv .i32 (.cv .u32 (.bop .shr .u64 (.var 0) (.num 32)))))), .sym .u8 (.cv .u8 (.bop .shr .u32 (.cv .u32 (.cv .i32 (.cv .u32 (.bop .shr .u64 (.var 0) (.num 32))))) (.num 8))), .sym .u8 (.cv .u8 (.bop .shr .u32 (.cv .u32 (.cv .i32 (.cv .u32 (.bop .shr .u64 (.var 0) (.num 32))))) (.num 16))), .sym .u8 (.cv .u8 (.bop .shr .u32 (.cv .u32 (.cv .i32 (.cv .u32 (.bop .shr .u64 (.var 0) (.num 32))))) (.num 24))), .int .u8 13, .int .u8 0, .int .u8 0, .int .u8 0, .int .u8 5, .int .u8 0, .int .u8 0, .int .u8 0, .int .u8 13, .int .u8 0, .int .u8 0, .int .u8 0, .int .u8 8, .int .u8 0, .int .u8 0, .int .u8 0, .int .u8 12, .int .u8 0, .int .u8 0, .int .u8 0, .int .u8 0, .int .u8 0, .int .u8 0, .int .u8 0, .int .u8 10, .int .u8 0, .int .u8 0, .int .u8 0, .int .u8 0, .int .u8 0, .int .u8 0, .int .u8 0, .int .u8 7, .int .u8 0, .int .u8 0, .int .u8 0, .int .u8 7, .int .u8 0, .int .u8 0, .int .u8 0, .int .u8 11, .int .u8 0, .int .u8 0, .int .u8 0, .int .u8 0, .int .u8 0, .int .u8 0, .int .u8 0, .int .u8 9, .int .u8 0, .int .u8 0, .int .u8 0, .int .u8 16, .int .u8 0, .int .u8 0, .int .u8 0, .int .u8 7, .int .u8 0, .int .u8 0, .int .u8 0, .int .u8 14, .int .u8 0, .int .u8 0, .int .u8 0, .int .u8 12, .int .u8 0, .int .u8 0, .int .u8 0, .int .u8 0, .int .u8 0, .int .u8 0, .int .u8 0, .int .u8 10, .int .u8 0, .int .u8 0, .int .u8 0, .int .u8 0, .int .u8 0, .int .u8 0, .int .u8 0, .int .u8 11, .int .u8 0, .int .u8 0, .int .u8 0, .int .u8 0, .int .u8 0, .int .u8 0, .int .u8 0, .int .u8 13, .int .u8 0, .int .u8 0, .int .u8 1, .int .u8 6, .int .u8 0, .int .u8 0, .int .u8 0, .int .u8 13, .int .u8 0, .int .u8 1, .int .u8 0, .int .u8 2, .int .u8 0, .int .u8 0, .int .u8 0, .int .u8 13, .int .u8 0, .int .u8 0, .int .u8 0, .int .u8 2, .int .u8 0, .int .u8 0, .int .u8 0, .int .u8 7, .int .u8 0, .int .u8 0, .int .u8 0, .int .u8 21, .int .u8 0, .int .u8 0, .int .u8 0, .int .u8 12, .int .u8 0, .int .u8 0, .int .u8 0, .int .u8 0, .int .u8 0, .int .u8 0, .int .u8 0, .int .u8 10, .int .u8 0, .int .u8 0, .int .u8 0, .int .u8 0, .int .u8 0, .int .u8 0, .int .u8 0]),
  (4618, 0, [.ref 4528 22 0 184 none, .ref 4214 2 0 3 (some 6), .ref 4311 0 0 1 (some 2)])],
  [],
  .tup [.agg [.ref 4876 1 0 2 (some 2), .int .i64 2, .sym .u64 (.var 0), .int .i64 9, .int .i64 3, .int .i64 1, .int .i64 1], .int .i64 0], 4877,
  [(24, 0, [.int .u64 0, .int .u64 0]),
  (28, 0, [.slt false 1 [], .sym .i64 (.var 2)]),
  (29, 0, [.int .i64 2, .sym .u64 (.var 0)]),
  (4214, 2, [.int .i64 2, .int .i64 11, .int .i64 0, .nils, .nils, .int .i64 10, .int .i64 11, .int .i64 16, .int .i64 0, .nils, .nils, .int .i64 (-1), .int .i64 16, .int .i64 23, .int .i64 0, .nils, .nils, .int .i64 (-1)]),
  (4311, 0, [.int .i64 13, .nils]),
  (4528, 22, [.int .u8 13, .int .u8 0, .int .u8 0, .int .u8 0, .int .u8 0, .int .u8 0, .int .u8 0, .int .u8 0, .int .u8 13, .int .u8 0, .int .u8 0, .int .u8 0, .int .u8 1, .int .u8 0, .int .u8 0, .int .u8 0, .int .u8 11, .int .u8 0, .int .u8 0, .int .u8 0, .int .u8 0, .int .u8 0, .int .u8 0, .int .u8 0, .int .u8 13, .int .u8 0, .int .u8 0, .int .u8 0, .int .u8 7, .int .u8 1, .int .u8 0, .int .u8 0, .int .u8 1, .int .u8 0, .int .u8 0, .int .u8 0, .sym .u8 (.cv .u8 (.cv .u32 (.cv .i32 (.cv .u32 (.var 0))))), .sym .u8 (.cv .u8 (.bop .shr .u32 (.cv .u32 (.cv .i32 (.cv .u32 (.var 0)))) (.num 8))), .sym .u8 (.cv .u8 (.bop .shr .u32 (.cv .u32 (.cv .i32 (.cv .u32 (.var 0)))) (.num 16))), .sym .u8 (.cv .u8 (.bop .shr .u32 (.cv .u32 (.cv .i32 (.cv .u32 (.var 0)))) (.num 24))), .int .u8 2, .int .u8 0, .int .u8 0, .int .u8 0, .sym .u8 (.cv .u8 (.cv .u32 (.cv .i32 (.cv .u32 (.bop .shr .u64 (.var 0) (.num 32)))))), .sym .u8 (.cv .u8 (.bop .shr .u32 (.cv .u32 (.cv .i32 (.cv .u32 (.bop .shr .u64 (.var 0) (.num 32))))) (.num 8))), .sym .u8 (.cv .u8 (.bop .shr .u32 (.cv .u32 (.cv .i32 (.cv .u32 (.bop .shr .u64 (.var 0) (.num 32))))) (.num 16))), .sym .u8 (.cv .u8 (.bop .shr .u32 (.cv .u32 (.cv .i32 (.cv .u32 (.bop .shr .u64 (.var 0) (.num 32))))) (.num 24))), .int .u8 13, .int .u8 0, .int .u8 0, .int .u8 0, .int .u8 5, .int .u8 0, .int .u8 0, .int .u8 0, .int .u8 13, .int .u8 0, .int .u8 0, .int .u8 0, .int .u8 8, .int .u8 0, .int .u8 0, .int .u8 0, .int .u8 12, .int .u8 0, .int .u8 0, .int .u8 0, .int .u8 0, .int .u8 0, .int .u8 0, .int .u8 0, .int .u8 10, .int .u8 0, .int .u8 0, .int .u8 0, .int .u8 0, .int .u8 0, .int .u8 0, .int .u8 0, .int .u8 7, .int .u8 0, .int .u8 0, .int .u8 0, .int .u8 7, .int .u8 0, .int .u8 0, .int .u8 0, .int .u8 11, .int .u8 0, .int .u8 0, .int .u8 0, .int .u8 0, .int .u8 0, .int .u8 0, .int .u8 0, .int .u8 9, .int .u8 0, .int .u8 0, .int .u8 0, .int .u8 16, .int .u8 0, .int .u8 0, .int .u8 0, .int .u8 7, .int .u8 0, .int .u8 0, .int .u8 0, .int .u8 14, .int .u8 0, .int .u8 0, .int .u8 0, .int .u8 12, .int .u8 0, .int .u8 0, .int .u8 0, .int .u8 0, .int .u8 0, .int .u8 0, .int .u8 0, .int .u8 10, .int .u8 0, .int .u8 0, .int .u8 0, .int .u8 0, .int .u8 0, .int .u8 0, .int .u8 0, .int .u8 11, .int .u8 0, .int .u8 0, .int .u8 0, .int .u8 0, .int .u8 0, .int .u8 0, .int .u8 0, .int .u8 13, .int .u8 0, .int .u8 0, .int .u8 1, .int .u8 6, .int .u8 0, .int .u8 0, .int .u8 0, .int .u8 13, .int .u8 0, .int .u8 1, .int .u8 0, .int .u8 2, .int .u8 0, .int .u8 0, .int .u8 0, .int .u8 13, .int .u8 0, .int .u8 0, .int .u8 0, .int .u8 2, .int .u8 0, .int .u8 0, .int .u8 0, .int .u8 7, .int .u8 0, .int .u8 0, .int .u8 0, .int .u8 21, .int .u8 0, .int .u8 0, .int .u8 0, .int .u8 12, .int .u8 0, .int .u8 0, .int .u8 0, .int .u8 0, .int .u8 0, .int .u8 0, .int .u8 0, .int .u8 10, .int .u8 0, .int .u8 0, .int .u8 0, .int .u8 0, .int .u8 0, .int .u8 0, .int .u8 0]),
  (4618, 0, [.ref 4528 22 0 184 none, .ref 4214 2 0 3 (some 6), .ref 4311 0 0 1 (some 2)]),
  (4876, 1, [.int .i64 1, .int .u64 0, .int .i64 1, .int .u64 0])],
  [] ⟩
theorem rbx7_e : chkM r1F (runR Tryz.prog pvZ (codeT tabL) (ovA ovL []) 200) rbx7 = true := by kernel_rfl
theorem rbx7_ok : MemoOK Tryz.prog r1F rbx7 := chkM_ok (run_ok (ms := []) trivial) rbx7_e
end Go.Proofs.YtklmiejnopdabaaGreatDoor
