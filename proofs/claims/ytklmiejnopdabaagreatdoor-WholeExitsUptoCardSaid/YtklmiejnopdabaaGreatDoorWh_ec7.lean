/- One case: known calls, evaluated by the kernel. Printed by a program. -/
import Derived.Test.YtklmiejnopdabaaGreatDoorWhH
import Derived.Test.YtklmiejnopdabaaGreatDoorWh_ec4
namespace Go.Proofs.YtklmiejnopdabaaGreatDoor
set_option linter.constructorNameAsVariable false
set_option linter.unusedSimpArgs false
set_option linter.unusedVariables false
open Go Go.Ab Go.RowKit
set_option maxRecDepth 100000
set_option linter.unusedVariables false
def ec5 : Memo := ⟨ 41, [.agg [.ref 1055 2 0 3 (some 8)]], 3369,
  [(7, 0, [.int .u8 25, .int .i64 2, .int .u64 0, .int .u8 23, .int .i64 1, .int .u64 0, .int .u8 24, .int .i64 0, .int .u64 0]),
  (10, 0, [.int .u8 1, .int .i64 0, .sym .u64 (.var 0), .int .u8 30, .int .i64 0, .int .u64 0]),
  (14, 0, [.int .u8 1, .int .i64 0, .int .u64 1, .int .u8 29, .int .i64 0, .int .u64 0, .int .u8 24, .int .i64 0, .int .u64 0]),
  (15, 0, [.int .i64 0, .nils, .bool false, .int .i64 (-1), .ref 7 0 0 3 (some 3), .int .i64 0, .nils, .bool false, .int .i64 (-1), .ref 10 0 0 2 (some 3), .int .i64 0, .nils, .bool false, .int .i64 (-1), .ref 14 0 0 3 (some 3)]),
  (17, 0, [.ref 15 0 0 3 (some 5)]),
  (18, 0, [.slt false 1 [], .sym .i64 (.var 2)]),
  (19, 0, [.int .i64 1, .sym .u64 (.var 0)]),
  (21, 0, [.nils, .nils, .nils]),
  (84, 0, [.nils, .nils, .nils]),
  (1009, 0, [.int .u8 0, .int .u8 0, .int .u8 0, .int .u8 0, .int .u8 0, .int .u8 0, .int .u8 0, .int .u8 0, .int .u8 0, .int .u8 0, .int .u8 0, .int .u8 0, .int .u8 0, .int .u8 0, .int .u8 0, .int .u8 0]),
  (1014, 3, [.int .u8 10, .int .u8 0, .int .i64 0, .int .i64 0, .int .i64 0, .int .i64 0, .int .i64 0, .int .i64 0, .int .u64 0, .nils, .int .i64 1, .int .i64 0, .int .u8 13, .int .u8 0, .int .i64 (-1), .int .i64 0, .int .i64 0, .int .i64 0, .int .i64 2, .int .i64 0, .int .u64 0, .nils, .int .i64 2, .int .i64 0, .int .u8 11, .int .u8 0, .int .i64 (-1), .int .i64 0, .int .i64 0, .int .i64 0, .int .i64 1, .int .i64 0, .int .u64 0, .nils, .int .i64 3, .int .i64 0, .int .u8 12, .int .u8 0, .int .i64 (-1), .int .i64 (-1), .int .i64 (-1), .int .i64 0, .int .i64 0, .int .i64 0, .int .u64 0, .nils, .int .i64 0, .int .i64 0]),
  (1055, 2, [.nils, .ref 1009 0 0 16 none, .int .i64 0, .nils, .bool false, .int .i64 (-1), .ref 1014 3 0 4 (some 12), .int .i64 0, .nils, .ref 1528 0 0 16 none, .int .i64 0, .nils, .bool false, .int .i64 (-1), .ref 1533 2 0 3 (some 12), .int .i64 0, .nils, .ref 2120 0 0 16 none, .int .i64 0, .nils, .bool false, .int .i64 (-1), .ref 2125 3 0 4 (some 12), .int .i64 0]),
  (1528, 0, [.int .u8 0, .int .u8 0, .int .u8 0, .int .u8 0, .int .u8 0, .int .u8 0, .int .u8 0, .int .u8 0, .int .u8 0, .int .u8 0, .int .u8 0, .int .u8 0, .int .u8 0, .int .u8 0, .int .u8 0, .int .u8 0]),
  (1533, 2, [.int .u8 10, .int .u8 0, .int .i64 0, .int .i64 0, .int .i64 0, .int .i64 0, .int .i64 0, .int .i64 0, .int .u64 0, .nils, .int .i64 1, .int .i64 0, .int .u8 1, .int .u8 0, .int .i64 0, .int .i64 (-1), .int .i64 (-1), .int .i64 0, .int .i64 0, .int .i64 0, .sym .u64 (.var 0), .nils, .int .i64 2, .int .i64 0, .int .u8 18, .int .u8 0, .int .i64 (-1), .int .i64 (-1), .int .i64 0, .int .i64 0, .int .i64 0, .int .i64 0, .int .u64 0, .nils, .int .i64 0, .int .i64 0]),
  (2120, 0, [.int .u8 0, .int .u8 0, .int .u8 0, .int .u8 0, .int .u8 0, .int .u8 0, .int .u8 0, .int .u8 0, .int .u8 0, .int .u8 0, .int .u8 0, .int .u8 0, .int .u8 0, .int .u8 0, .int .u8 0, .int .u8 0]),
  (2125, 3, [.int .u8 10, .int .u8 0, .int .i64 0, .int .i64 0, .int .i64 0, .int .i64 0, .int .i64 0, .int .i64 0, .int .u64 0, .nils, .int .i64 1, .int .i64 0, .int .u8 1, .int .u8 0, .int .i64 0, .int .i64 (-1), .int .i64 (-1), .int .i64 0, .int .i64 0, .int .i64 0, .int .u64 1, .nils, .int .i64 2, .int .i64 0, .int .u8 17, .int .u8 0, .int .i64 (-1), .int .i64 (-1), .int .i64 0, .int .i64 0, .int .i64 0, .int .i64 0, .int .u64 0, .nils, .int .i64 3, .int .i64 0, .int .u8 12, .int .u8 0, .int .i64 (-1), .int .i64 (-1), .int .i64 (-1), .int .i64 0, .int .i64 0, .int .i64 0, .int .u64 0, .nils, .int .i64 0, .int .i64 0])],
  [],
  .tup [.agg [.ref 4019 20 0 168 none, .ref 3731 2 0 3 (some 6), .ref 3724 0 0 1 (some 2)], .int .i64 0], 4100,
  [(7, 0, [.int .u8 25, .int .i64 2, .int .u64 0, .int .u8 23, .int .i64 1, .int .u64 0, .int .u8 24, .int .i64 0, .int .u64 0]),
  (10, 0, [.int .u8 1, .int .i64 0, .sym .u64 (.var 0), .int .u8 30, .int .i64 0, .int .u64 0]),
  (14, 0, [.int .u8 1, .int .i64 0, .int .u64 1, .int .u8 29, .int .i64 0, .int .u64 0, .int .u8 24, .int .i64 0, .int .u64 0]),
  (15, 0, [.int .i64 0, .nils, .bool false, .int .i64 (-1), .ref 7 0 0 3 (some 3), .int .i64 0, .nils, .bool false, .int .i64 (-1), .ref 10 0 0 2 (some 3), .int .i64 0, .nils, .bool false, .int .i64 (-1), .ref 14 0 0 3 (some 3)]),
  (17, 0, [.ref 15 0 0 3 (some 5)]),
  (18, 0, [.slt false 1 [], .sym .i64 (.var 2)]),
  (19, 0, [.int .i64 1, .sym .u64 (.var 0)]),
  (21, 0, [.nils, .nils, .nils]),
  (84, 0, [.nils, .nils, .nils]),
  (3724, 0, [.int .i64 5, .nils]),
  (3731, 2, [.int .i64 2, .int .i64 10, .int .i64 0, .nils, .nils, .int .i64 9, .int .i64 10, .int .i64 15, .int .i64 0, .nils, .nils, .int .i64 (-1), .int .i64 15, .int .i64 21, .int .i64 0, .nils, .nils, .int .i64 (-1)]),
  (4019, 20, [.int .u8 13, .int .u8 0, .int .u8 0, .int .u8 0, .int .u8 0, .int .u8 0, .int .u8 0, .int .u8 0, .int .u8 13, .int .u8 0, .int .u8 0, .int .u8 0, .int .u8 1, .int .u8 0, .int .u8 0, .int .u8 0, .int .u8 11, .int .u8 0, .int .u8 0, .int .u8 0, .int .u8 0, .int .u8 0, .int .u8 0, .int .u8 0, .int .u8 13, .int .u8 0, .int .u8 0, .int .u8 0, .int .u8 7, .int .u8 2, .int .u8 0, .int .u8 0, .int .u8 9, .int .u8 0, .int .u8 0, .int .u8 0, .int .u8 10, .int .u8 0, .int .u8 0, .int .u8 0, .int .u8 7, .int .u8 0, .int .u8 0, .int .u8 0, .int .u8 6, .int .u8 0, .int .u8 0, .int .u8 0, .int .u8 13, .int .u8 0, .int .u8 0, .int .u8 0, .int .u8 8, .int .u8 0, .int .u8 0, .int .u8 0, .int .u8 12, .int .u8 0, .int .u8 0, .int .u8 0, .int .u8 0, .int .u8 0, .int .u8 0, .int .u8 0, .int .u8 10, .int .u8 0, .int .u8 0, .int .u8 0, .int .u8 0, .int .u8 0, .int .u8 0, .int .u8 0, .int .u8 7, .int .u8 0, .int .u8 0, .int .u8 0, .int .u8 6, .int .u8 0, .int .u8 0, .int .u8 0, .int .u8 11, .int .u8 0, .int .u8 0, .int .u8 0, .int .u8 0, .int .u8 0, .int .u8 0, .int .u8 0, .int .u8 1, .int .u8 0, .int .u8 0, .int .u8 0, .sym .u8 (.cv .u8 (.cv .u32 (.cv .i32 (.cv .u32 (.var 0))))), .sym .u8 (.cv .u8 (.bop .shr .u32 (.cv .u32 (.cv .i32 (.cv .u32 (.var 0)))) (.num 8))), .sym .u8 (.cv .u8 (.bop .shr .u32 (.cv .u32 (.cv .i32 (.cv .u32 (.var 0)))) (.num 16))), .sym .u8 (.cv .u8 (.bop .shr .u32 (.cv .u32 (.cv .i32 (.cv .u32 (.var 0)))) (.num 24))), .int .u8 13, .int .u8 0, .int .u8 0, .int .u8 0, .int .u8 4, .int .u8 0, .int .u8 0, .int .u8 0, .int .u8 12, .int .u8 0, .int .u8 0, .int .u8 0, .int .u8 0, .int .u8 0, .int .u8 0, .int .u8 0, .int .u8 10, .int .u8 0, .int .u8 0, .int .u8 0, .int .u8 0, .int .u8 0, .int .u8 0, .int .u8 0, .int .u8 11, .int .u8 0, .int .u8 0, .int .u8 0, .int .u8 0, .int .u8 0, .int .u8 0, .int .u8 0, .int .u8 1, .int .u8 0, .int .u8 0, .int .u8 0, .int .u8 1, .int .u8 0, .int .u8 0, .int .u8 0, .int .u8 13, .int .u8 0, .int .u8 0, .int .u8 0, .int .u8 2, .int .u8 0, .int .u8 0, .int .u8 0, .int .u8 7, .int .u8 0, .int .u8 0, .int .u8 0, .int .u8 19, .int .u8 0, .int .u8 0, .int .u8 0, .int .u8 12, .int .u8 0, .int .u8 0, .int .u8 0, .int .u8 0, .int .u8 0, .int .u8 0, .int .u8 0, .int .u8 10, .int .u8 0, .int .u8 0, .int .u8 0, .int .u8 0, .int .u8 0, .int .u8 0, .int .u8 0])],
  [] ⟩
theorem ec5_e : chkM e2T (runR Tryz.prog pvZ (codeT tabL) (ovA ovL []) 200) ec5 = true := by kernel_rfl
theorem ec5_ok : MemoOK Tryz.prog e2T ec5 := chkM_ok (run_ok (ms := []) trivial) ec5_e
end Go.Proofs.YtklmiejnopdabaaGreatDoor
/- One case: known calls, evaluated by the kernel. Printed by a program. -/
namespace Go.Proofs.YtklmiejnopdabaaGreatDoor
set_option linter.constructorNameAsVariable false
set_option linter.unusedSimpArgs false
set_option linter.unusedVariables false
open Go Go.Ab Go.RowKit
set_option maxRecDepth 100000
set_option linter.unusedVariables false
def ec6 : Memo := ⟨ 21, [.ref 23 38 0 47 none], 84,
  [(7, 0, [.int .u8 25, .int .i64 2, .int .u64 0, .int .u8 23, .int .i64 1, .int .u64 0, .int .u8 24, .int .i64 0, .int .u64 0]),
  (10, 0, [.int .u8 1, .int .i64 0, .sym .u64 (.var 0), .int .u8 30, .int .i64 0, .int .u64 0]),
  (14, 0, [.int .u8 1, .int .i64 0, .int .u64 1, .int .u8 29, .int .i64 0, .int .u64 0, .int .u8 24, .int .i64 0, .int .u64 0]),
  (15, 0, [.int .i64 0, .nils, .bool false, .int .i64 (-1), .ref 7 0 0 3 (some 3), .int .i64 0, .nils, .bool false, .int .i64 (-1), .ref 10 0 0 2 (some 3), .int .i64 0, .nils, .bool false, .int .i64 (-1), .ref 14 0 0 3 (some 3)]),
  (17, 0, [.ref 15 0 0 3 (some 5)]),
  (18, 0, [.slt false 1 [], .sym .i64 (.var 2)]),
  (19, 0, [.int .i64 1, .sym .u64 (.var 0)]),
  (21, 0, [.nils, .nils, .nils]),
  (23, 38, [.int .u8 87, .int .u8 76, .int .u8 3, .int .u8 0, .int .u8 0, .int .u8 0, .int .u8 255, .int .u8 3, .int .u8 0, .int .u8 25, .int .u8 2, .int .u8 23, .int .u8 1, .int .u8 24, .int .u8 0, .int .u8 0, .int .u8 0, .int .u8 255, .int .u8 2, .int .u8 0, .int .u8 1, .sym .u8 (.cv .u8 (.bop .shr .u64 (.var 0) (.num 0))), .sym .u8 (.cv .u8 (.bop .shr .u64 (.var 0) (.num 8))), .sym .u8 (.cv .u8 (.bop .shr .u64 (.var 0) (.num 16))), .sym .u8 (.cv .u8 (.bop .shr .u64 (.var 0) (.num 24))), .sym .u8 (.cv .u8 (.bop .shr .u64 (.var 0) (.num 32))), .sym .u8 (.cv .u8 (.bop .shr .u64 (.var 0) (.num 40))), .sym .u8 (.cv .u8 (.bop .shr .u64 (.var 0) (.num 48))), .sym .u8 (.cv .u8 (.bop .shr .u64 (.var 0) (.num 56))), .int .u8 30, .int .u8 0, .int .u8 0, .int .u8 0, .int .u8 255, .int .u8 3, .int .u8 0, .int .u8 1, .int .u8 1, .int .u8 0, .int .u8 0, .int .u8 0, .int .u8 0, .int .u8 0, .int .u8 0, .int .u8 0, .int .u8 29, .int .u8 24])],
  [],
  .tup [.agg [.ref 4019 20 0 168 none, .ref 3731 2 0 3 (some 6), .ref 3724 0 0 1 (some 2)], .int .i64 0], 4100,
  [(7, 0, [.int .u8 25, .int .i64 2, .int .u64 0, .int .u8 23, .int .i64 1, .int .u64 0, .int .u8 24, .int .i64 0, .int .u64 0]),
  (10, 0, [.int .u8 1, .int .i64 0, .sym .u64 (.var 0), .int .u8 30, .int .i64 0, .int .u64 0]),
  (14, 0, [.int .u8 1, .int .i64 0, .int .u64 1, .int .u8 29, .int .i64 0, .int .u64 0, .int .u8 24, .int .i64 0, .int .u64 0]),
  (15, 0, [.int .i64 0, .nils, .bool false, .int .i64 (-1), .ref 7 0 0 3 (some 3), .int .i64 0, .nils, .bool false, .int .i64 (-1), .ref 10 0 0 2 (some 3), .int .i64 0, .nils, .bool false, .int .i64 (-1), .ref 14 0 0 3 (some 3)]),
  (17, 0, [.ref 15 0 0 3 (some 5)]),
  (18, 0, [.slt false 1 [], .sym .i64 (.var 2)]),
  (19, 0, [.int .i64 1, .sym .u64 (.var 0)]),
  (21, 0, [.nils, .nils, .nils]),
  (3724, 0, [.int .i64 5, .nils]),
  (3731, 2, [.int .i64 2, .int .i64 10, .int .i64 0, .nils, .nils, .int .i64 9, .int .i64 10, .int .i64 15, .int .i64 0, .nils, .nils, .int .i64 (-1), .int .i64 15, .int .i64 21, .int .i64 0, .nils, .nils, .int .i64 (-1)]),
  (4019, 20, [.int .u8 13, .int .u8 0, .int .u8 0, .int .u8 0, .int .u8 0, .int .u8 0, .int .u8 0, .int .u8 0, .int .u8 13, .int .u8 0, .int .u8 0, .int .u8 0, .int .u8 1, .int .u8 0, .int .u8 0, .int .u8 0, .int .u8 11, .int .u8 0, .int .u8 0, .int .u8 0, .int .u8 0, .int .u8 0, .int .u8 0, .int .u8 0, .int .u8 13, .int .u8 0, .int .u8 0, .int .u8 0, .int .u8 7, .int .u8 2, .int .u8 0, .int .u8 0, .int .u8 9, .int .u8 0, .int .u8 0, .int .u8 0, .int .u8 10, .int .u8 0, .int .u8 0, .int .u8 0, .int .u8 7, .int .u8 0, .int .u8 0, .int .u8 0, .int .u8 6, .int .u8 0, .int .u8 0, .int .u8 0, .int .u8 13, .int .u8 0, .int .u8 0, .int .u8 0, .int .u8 8, .int .u8 0, .int .u8 0, .int .u8 0, .int .u8 12, .int .u8 0, .int .u8 0, .int .u8 0, .int .u8 0, .int .u8 0, .int .u8 0, .int .u8 0, .int .u8 10, .int .u8 0, .int .u8 0, .int .u8 0, .int .u8 0, .int .u8 0, .int .u8 0, .int .u8 0, .int .u8 7, .int .u8 0, .int .u8 0, .int .u8 0, .int .u8 6, .int .u8 0, .int .u8 0, .int .u8 0, .int .u8 11, .int .u8 0, .int .u8 0, .int .u8 0, .int .u8 0, .int .u8 0, .int .u8 0, .int .u8 0, .int .u8 1, .int .u8 0, .int .u8 0, .int .u8 0, .sym .u8 (.cv .u8 (.cv .u32 (.cv .i32 (.cv .u32 (.var 0))))), .sym .u8 (.cv .u8 (.bop .shr .u32 (.cv .u32 (.cv .i32 (.cv .u32 (.var 0)))) (.num 8))), .sym .u8 (.cv .u8 (.bop .shr .u32 (.cv .u32 (.cv .i32 (.cv .u32 (.var 0)))) (.num 16))), .sym .u8 (.cv .u8 (.bop .shr .u32 (.cv .u32 (.cv .i32 (.cv .u32 (.var 0)))) (.num 24))), .int .u8 13, .int .u8 0, .int .u8 0, .int .u8 0, .int .u8 4, .int .u8 0, .int .u8 0, .int .u8 0, .int .u8 12, .int .u8 0, .int .u8 0, .int .u8 0, .int .u8 0, .int .u8 0, .int .u8 0, .int .u8 0, .int .u8 10, .int .u8 0, .int .u8 0, .int .u8 0, .int .u8 0, .int .u8 0, .int .u8 0, .int .u8 0, .int .u8 11, .int .u8 0, .int .u8 0, .int .u8 0, .int .u8 0, .int .u8 0, .int .u8 0, .int .u8 0, .int .u8 1, .int .u8 0, .int .u8 0, .int .u8 0, .int .u8 1, .int .u8 0, .int .u8 0, .int .u8 0, .int .u8 13, .int .u8 0, .int .u8 0, .int .u8 0, .int .u8 2, .int .u8 0, .int .u8 0, .int .u8 0, .int .u8 7, .int .u8 0, .int .u8 0, .int .u8 0, .int .u8 19, .int .u8 0, .int .u8 0, .int .u8 0, .int .u8 12, .int .u8 0, .int .u8 0, .int .u8 0, .int .u8 0, .int .u8 0, .int .u8 0, .int .u8 0, .int .u8 10, .int .u8 0, .int .u8 0, .int .u8 0, .int .u8 0, .int .u8 0, .int .u8 0, .int .u8 0])],
  [] ⟩
theorem ec6_e : chkM e2T (runR Tryz.prog pvZ (codeT tabL) (ovA ovL [ec3, ec4, ec5]) 200) ec6 = true := by kernel_rfl
theorem ec6_ok : MemoOK Tryz.prog e2T ec6 := chkM_ok (run_ok (ms := [ec3, ec4, ec5]) ⟨ec3_ok.mono e2T_sub, ec4_ok.mono e2T_sub, ec5_ok, trivial⟩) ec6_e
end Go.Proofs.YtklmiejnopdabaaGreatDoor
/- One case: known calls, evaluated by the kernel. Printed by a program. -/
namespace Go.Proofs.YtklmiejnopdabaaGreatDoor
set_option linter.constructorNameAsVariable false
set_option linter.unusedSimpArgs false
set_option linter.unusedVariables false
open Go Go.Ab Go.RowKit
set_option maxRecDepth 100000
set_option linter.unusedVariables false
def ec7 : Memo := ⟨ 17, [.agg [.ref 15 0 0 3 (some 5)], .nils, .int .i64 1048576], 4102,
  [(7, 0, [.int .u8 25, .int .i64 2, .int .u64 0, .int .u8 23, .int .i64 1, .int .u64 0, .int .u8 24, .int .i64 0, .int .u64 0]),
  (10, 0, [.int .u8 1, .int .i64 0, .sym .u64 (.var 0), .int .u8 30, .int .i64 0, .int .u64 0]),
  (14, 0, [.int .u8 1, .int .i64 0, .int .u64 1, .int .u8 29, .int .i64 0, .int .u64 0, .int .u8 24, .int .i64 0, .int .u64 0]),
  (15, 0, [.int .i64 0, .nils, .bool false, .int .i64 (-1), .ref 7 0 0 3 (some 3), .int .i64 0, .nils, .bool false, .int .i64 (-1), .ref 10 0 0 2 (some 3), .int .i64 0, .nils, .bool false, .int .i64 (-1), .ref 14 0 0 3 (some 3)]),
  (18, 0, [.slt false 1 [], .sym .i64 (.var 2)]),
  (19, 0, [.int .i64 1, .sym .u64 (.var 0)]),
  (3724, 0, [.int .i64 5, .nils]),
  (3731, 2, [.int .i64 2, .int .i64 10, .int .i64 0, .nils, .nils, .int .i64 9, .int .i64 10, .int .i64 15, .int .i64 0, .nils, .nils, .int .i64 (-1), .int .i64 15, .int .i64 21, .int .i64 0, .nils, .nils, .int .i64 (-1)]),
  (4019, 20, [.int .u8 13, .int .u8 0, .int .u8 0, .int .u8 0, .int .u8 0, .int .u8 0, .int .u8 0, .int .u8 0, .int .u8 13, .int .u8 0, .int .u8 0, .int .u8 0, .int .u8 1, .int .u8 0, .int .u8 0, .int .u8 0, .int .u8 11, .int .u8 0, .int .u8 0, .int .u8 0, .int .u8 0, .int .u8 0, .int .u8 0, .int .u8 0, .int .u8 13, .int .u8 0, .int .u8 0, .int .u8 0, .int .u8 7, .int .u8 2, .int .u8 0, .int .u8 0, .int .u8 9, .int .u8 0, .int .u8 0, .int .u8 0, .int .u8 10, .int .u8 0, .int .u8 0, .int .u8 0, .int .u8 7, .int .u8 0, .int .u8 0, .int .u8 0, .int .u8 6, .int .u8 0, .int .u8 0, .int .u8 0, .int .u8 13, .int .u8 0, .int .u8 0, .int .u8 0, .int .u8 8, .int .u8 0, .int .u8 0, .int .u8 0, .int .u8 12, .int .u8 0, .int .u8 0, .int .u8 0, .int .u8 0, .int .u8 0, .int .u8 0, .int .u8 0, .int .u8 10, .int .u8 0, .int .u8 0, .int .u8 0, .int .u8 0, .int .u8 0, .int .u8 0, .int .u8 0, .int .u8 7, .int .u8 0, .int .u8 0, .int .u8 0, .int .u8 6, .int .u8 0, .int .u8 0, .int .u8 0, .int .u8 11, .int .u8 0, .int .u8 0, .int .u8 0, .int .u8 0, .int .u8 0, .int .u8 0, .int .u8 0, .int .u8 1, .int .u8 0, .int .u8 0, .int .u8 0, .sym .u8 (.cv .u8 (.cv .u32 (.cv .i32 (.cv .u32 (.var 0))))), .sym .u8 (.cv .u8 (.bop .shr .u32 (.cv .u32 (.cv .i32 (.cv .u32 (.var 0)))) (.num 8))), .sym .u8 (.cv .u8 (.bop .shr .u32 (.cv .u32 (.cv .i32 (.cv .u32 (.var 0)))) (.num 16))), .sym .u8 (.cv .u8 (.bop .shr .u32 (.cv .u32 (.cv .i32 (.cv .u32 (.var 0)))) (.num 24))), .int .u8 13, .int .u8 0, .int .u8 0, .int .u8 0, .int .u8 4, .int .u8 0, .int .u8 0, .int .u8 0, .int .u8 12, .int .u8 0, .int .u8 0, .int .u8 0, .int .u8 0, .int .u8 0, .int .u8 0, .int .u8 0, .int .u8 10, .int .u8 0, .int .u8 0, .int .u8 0, .int .u8 0, .int .u8 0, .int .u8 0, .int .u8 0, .int .u8 11, .int .u8 0, .int .u8 0, .int .u8 0, .int .u8 0, .int .u8 0, .int .u8 0, .int .u8 0, .int .u8 1, .int .u8 0, .int .u8 0, .int .u8 0, .int .u8 1, .int .u8 0, .int .u8 0, .int .u8 0, .int .u8 13, .int .u8 0, .int .u8 0, .int .u8 0, .int .u8 2, .int .u8 0, .int .u8 0, .int .u8 0, .int .u8 7, .int .u8 0, .int .u8 0, .int .u8 0, .int .u8 19, .int .u8 0, .int .u8 0, .int .u8 0, .int .u8 12, .int .u8 0, .int .u8 0, .int .u8 0, .int .u8 0, .int .u8 0, .int .u8 0, .int .u8 0, .int .u8 10, .int .u8 0, .int .u8 0, .int .u8 0, .int .u8 0, .int .u8 0, .int .u8 0, .int .u8 0]),
  (4101, 0, [.ref 4019 20 0 168 none, .ref 3731 2 0 3 (some 6), .ref 3724 0 0 1 (some 2)])],
  [],
  .tup [.agg [.nils, .int .i64 1, .sym .u64 (.var 0), .int .i64 4, .int .i64 2, .int .i64 1, .int .i64 0], .int .i64 0], 4329,
  [(18, 0, [.slt false 1 [], .sym .i64 (.var 2)]),
  (19, 0, [.int .i64 1, .sym .u64 (.var 0)]),
  (3724, 0, [.int .i64 5, .nils]),
  (3731, 2, [.int .i64 2, .int .i64 10, .int .i64 0, .nils, .nils, .int .i64 9, .int .i64 10, .int .i64 15, .int .i64 0, .nils, .nils, .int .i64 (-1), .int .i64 15, .int .i64 21, .int .i64 0, .nils, .nils, .int .i64 (-1)]),
  (4019, 20, [.int .u8 13, .int .u8 0, .int .u8 0, .int .u8 0, .int .u8 0, .int .u8 0, .int .u8 0, .int .u8 0, .int .u8 13, .int .u8 0, .int .u8 0, .int .u8 0, .int .u8 1, .int .u8 0, .int .u8 0, .int .u8 0, .int .u8 11, .int .u8 0, .int .u8 0, .int .u8 0, .int .u8 0, .int .u8 0, .int .u8 0, .int .u8 0, .int .u8 13, .int .u8 0, .int .u8 0, .int .u8 0, .int .u8 7, .int .u8 2, .int .u8 0, .int .u8 0, .int .u8 9, .int .u8 0, .int .u8 0, .int .u8 0, .int .u8 10, .int .u8 0, .int .u8 0, .int .u8 0, .int .u8 7, .int .u8 0, .int .u8 0, .int .u8 0, .int .u8 6, .int .u8 0, .int .u8 0, .int .u8 0, .int .u8 13, .int .u8 0, .int .u8 0, .int .u8 0, .int .u8 8, .int .u8 0, .int .u8 0, .int .u8 0, .int .u8 12, .int .u8 0, .int .u8 0, .int .u8 0, .int .u8 0, .int .u8 0, .int .u8 0, .int .u8 0, .int .u8 10, .int .u8 0, .int .u8 0, .int .u8 0, .int .u8 0, .int .u8 0, .int .u8 0, .int .u8 0, .int .u8 7, .int .u8 0, .int .u8 0, .int .u8 0, .int .u8 6, .int .u8 0, .int .u8 0, .int .u8 0, .int .u8 11, .int .u8 0, .int .u8 0, .int .u8 0, .int .u8 0, .int .u8 0, .int .u8 0, .int .u8 0, .int .u8 1, .int .u8 0, .int .u8 0, .int .u8 0, .sym .u8 (.cv .u8 (.cv .u32 (.cv .i32 (.cv .u32 (.var 0))))), .sym .u8 (.cv .u8 (.bop .shr .u32 (.cv .u32 (.cv .i32 (.cv .u32 (.var 0)))) (.num 8))), .sym .u8 (.cv .u8 (.bop .shr .u32 (.cv .u32 (.cv .i32 (.cv .u32 (.var 0)))) (.num 16))), .sym .u8 (.cv .u8 (.bop .shr .u32 (.cv .u32 (.cv .i32 (.cv .u32 (.var 0)))) (.num 24))), .int .u8 13, .int .u8 0, .int .u8 0, .int .u8 0, .int .u8 4, .int .u8 0, .int .u8 0, .int .u8 0, .int .u8 12, .int .u8 0, .int .u8 0, .int .u8 0, .int .u8 0, .int .u8 0, .int .u8 0, .int .u8 0, .int .u8 10, .int .u8 0, .int .u8 0, .int .u8 0, .int .u8 0, .int .u8 0, .int .u8 0, .int .u8 0, .int .u8 11, .int .u8 0, .int .u8 0, .int .u8 0, .int .u8 0, .int .u8 0, .int .u8 0, .int .u8 0, .int .u8 1, .int .u8 0, .int .u8 0, .int .u8 0, .int .u8 1, .int .u8 0, .int .u8 0, .int .u8 0, .int .u8 13, .int .u8 0, .int .u8 0, .int .u8 0, .int .u8 2, .int .u8 0, .int .u8 0, .int .u8 0, .int .u8 7, .int .u8 0, .int .u8 0, .int .u8 0, .int .u8 19, .int .u8 0, .int .u8 0, .int .u8 0, .int .u8 12, .int .u8 0, .int .u8 0, .int .u8 0, .int .u8 0, .int .u8 0, .int .u8 0, .int .u8 0, .int .u8 10, .int .u8 0, .int .u8 0, .int .u8 0, .int .u8 0, .int .u8 0, .int .u8 0, .int .u8 0]),
  (4101, 0, [.ref 4019 20 0 168 none, .ref 3731 2 0 3 (some 6), .ref 3724 0 0 1 (some 2)])],
  [] ⟩
theorem ec7_e : chkM e2T (runR Tryz.prog pvZ (codeT tabL) (ovA ovL []) 200) ec7 = true := by kernel_rfl
theorem ec7_ok : MemoOK Tryz.prog e2T ec7 := chkM_ok (run_ok (ms := []) trivial) ec7_e
end Go.Proofs.YtklmiejnopdabaaGreatDoor
