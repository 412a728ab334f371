/- One case: known calls, evaluated by the kernel. Printed by a program. -/
import Derived.Test.YtklmiejnopdabaaGreatDoorWhH
import Derived.Test.YtklmiejnopdabaaGreatDoorWh_ea4
namespace Go.Proofs.YtklmiejnopdabaaGreatDoor
set_option linter.constructorNameAsVariable false
set_option linter.unusedSimpArgs false
set_option linter.unusedVariables false
open Go Go.Ab Go.RowKit
set_option maxRecDepth 100000
set_option linter.unusedVariables false
def ea5 : Memo := ⟨ 41, [.agg [.ref 900 2 0 3 (some 8)]], 3045,
  [(3, 0, [.int .u8 25, .int .i64 1, .int .u64 0, .int .u8 24, .int .i64 0, .int .u64 0]),
  (6, 0, [.int .u8 1, .int .i64 0, .sym .u64 (.var 0), .int .u8 30, .int .i64 0, .int .u64 0]),
  (10, 0, [.int .u8 1, .int .i64 0, .int .u64 1, .int .u8 29, .int .i64 0, .int .u64 0, .int .u8 24, .int .i64 0, .int .u64 0]),
  (11, 0, [.int .i64 0, .nils, .bool false, .int .i64 (-1), .ref 3 0 0 2 (some 3), .int .i64 0, .nils, .bool false, .int .i64 (-1), .ref 6 0 0 2 (some 3), .int .i64 0, .nils, .bool false, .int .i64 (-1), .ref 10 0 0 3 (some 3)]),
  (13, 0, [.ref 11 0 0 3 (some 5)]),
  (14, 0, [.slt false 1 [], .sym .i64 (.var 2)]),
  (15, 0, [.int .i64 1, .sym .u64 (.var 0)]),
  (17, 0, [.nils, .nils, .nils]),
  (76, 0, [.nils, .nils, .nils]),
  (865, 0, [.int .u8 0, .int .u8 0, .int .u8 0, .int .u8 0, .int .u8 0, .int .u8 0, .int .u8 0, .int .u8 0, .int .u8 0, .int .u8 0, .int .u8 0, .int .u8 0, .int .u8 0, .int .u8 0, .int .u8 0, .int .u8 0]),
  (870, 2, [.int .u8 10, .int .u8 0, .int .i64 0, .int .i64 0, .int .i64 0, .int .i64 0, .int .i64 0, .int .i64 0, .int .u64 0, .nils, .int .i64 1, .int .i64 0, .int .u8 13, .int .u8 0, .int .i64 (-1), .int .i64 0, .int .i64 0, .int .i64 0, .int .i64 1, .int .i64 0, .int .u64 0, .nils, .int .i64 2, .int .i64 0, .int .u8 12, .int .u8 0, .int .i64 (-1), .int .i64 (-1), .int .i64 (-1), .int .i64 0, .int .i64 0, .int .i64 0, .int .u64 0, .nils, .int .i64 0, .int .i64 0]),
  (900, 2, [.nils, .ref 865 0 0 16 none, .int .i64 0, .nils, .bool false, .int .i64 (-1), .ref 870 2 0 3 (some 12), .int .i64 0, .nils, .ref 1353 0 0 16 none, .int .i64 0, .nils, .bool false, .int .i64 (-1), .ref 1358 2 0 3 (some 12), .int .i64 0, .nils, .ref 1925 0 0 16 none, .int .i64 0, .nils, .bool false, .int .i64 (-1), .ref 1930 3 0 4 (some 12), .int .i64 0]),
  (1353, 0, [.int .u8 0, .int .u8 0, .int .u8 0, .int .u8 0, .int .u8 0, .int .u8 0, .int .u8 0, .int .u8 0, .int .u8 0, .int .u8 0, .int .u8 0, .int .u8 0, .int .u8 0, .int .u8 0, .int .u8 0, .int .u8 0]),
  (1358, 2, [.int .u8 10, .int .u8 0, .int .i64 0, .int .i64 0, .int .i64 0, .int .i64 0, .int .i64 0, .int .i64 0, .int .u64 0, .nils, .int .i64 1, .int .i64 0, .int .u8 1, .int .u8 0, .int .i64 0, .int .i64 (-1), .int .i64 (-1), .int .i64 0, .int .i64 0, .int .i64 0, .sym .u64 (.var 0), .nils, .int .i64 2, .int .i64 0, .int .u8 18, .int .u8 0, .int .i64 (-1), .int .i64 (-1), .int .i64 0, .int .i64 0, .int .i64 0, .int .i64 0, .int .u64 0, .nils, .int .i64 0, .int .i64 0]),
  (1925, 0, [.int .u8 0, .int .u8 0, .int .u8 0, .int .u8 0, .int .u8 0, .int .u8 0, .int .u8 0, .int .u8 0, .int .u8 0, .int .u8 0, .int .u8 0, .int .u8 0, .int .u8 0, .int .u8 0, .int .u8 0, .int .u8 0]),
  (1930, 3, [.int .u8 10, .int .u8 0, .int .i64 0, .int .i64 0, .int .i64 0, .int .i64 0, .int .i64 0, .int .i64 0, .int .u64 0, .nils, .int .i64 1, .int .i64 0, .int .u8 1, .int .u8 0, .int .i64 0, .int .i64 (-1), .int .i64 (-1), .int .i64 0, .int .i64 0, .int .i64 0, .int .u64 1, .nils, .int .i64 2, .int .i64 0, .int .u8 17, .int .u8 0, .int .i64 (-1), .int .i64 (-1), .int .i64 0, .int .i64 0, .int .i64 0, .int .i64 0, .int .u64 0, .nils, .int .i64 3, .int .i64 0, .int .u8 12, .int .u8 0, .int .i64 (-1), .int .i64 (-1), .int .i64 (-1), .int .i64 0, .int .i64 0, .int .i64 0, .int .u64 0, .nils, .int .i64 0, .int .i64 0])],
  [],
  .tup [.agg [.ref 3638 19 0 160 none, .ref 3360 2 0 3 (some 6), .nils], .int .i64 0], 3715,
  [(3, 0, [.int .u8 25, .int .i64 1, .int .u64 0, .int .u8 24, .int .i64 0, .int .u64 0]),
  (6, 0, [.int .u8 1, .int .i64 0, .sym .u64 (.var 0), .int .u8 30, .int .i64 0, .int .u64 0]),
  (10, 0, [.int .u8 1, .int .i64 0, .int .u64 1, .int .u8 29, .int .i64 0, .int .u64 0, .int .u8 24, .int .i64 0, .int .u64 0]),
  (11, 0, [.int .i64 0, .nils, .bool false, .int .i64 (-1), .ref 3 0 0 2 (some 3), .int .i64 0, .nils, .bool false, .int .i64 (-1), .ref 6 0 0 2 (some 3), .int .i64 0, .nils, .bool false, .int .i64 (-1), .ref 10 0 0 3 (some 3)]),
  (13, 0, [.ref 11 0 0 3 (some 5)]),
  (14, 0, [.slt false 1 [], .sym .i64 (.var 2)]),
  (15, 0, [.int .i64 1, .sym .u64 (.var 0)]),
  (17, 0, [.nils, .nils, .nils]),
  (76, 0, [.nils, .nils, .nils]),
  (3360, 2, [.int .i64 2, .int .i64 9, .int .i64 0, .nils, .nils, .int .i64 8, .int .i64 9, .int .i64 14, .int .i64 0, .nils, .nils, .int .i64 (-1), .int .i64 14, .int .i64 20, .int .i64 0, .nils, .nils, .int .i64 (-1)]),
  (3638, 19, [.int .u8 13, .int .u8 0, .int .u8 0, .int .u8 0, .int .u8 0, .int .u8 0, .int .u8 0, .int .u8 0, .int .u8 13, .int .u8 0, .int .u8 0, .int .u8 0, .int .u8 1, .int .u8 0, .int .u8 0, .int .u8 0, .int .u8 11, .int .u8 0, .int .u8 0, .int .u8 0, .int .u8 0, .int .u8 0, .int .u8 0, .int .u8 0, .int .u8 13, .int .u8 0, .int .u8 0, .int .u8 0, .int .u8 7, .int .u8 1, .int .u8 0, .int .u8 0, .int .u8 7, .int .u8 0, .int .u8 0, .int .u8 0, .int .u8 5, .int .u8 0, .int .u8 0, .int .u8 0, .int .u8 13, .int .u8 0, .int .u8 0, .int .u8 0, .int .u8 8, .int .u8 0, .int .u8 0, .int .u8 0, .int .u8 12, .int .u8 0, .int .u8 0, .int .u8 0, .int .u8 0, .int .u8 0, .int .u8 0, .int .u8 0, .int .u8 10, .int .u8 0, .int .u8 0, .int .u8 0, .int .u8 0, .int .u8 0, .int .u8 0, .int .u8 0, .int .u8 7, .int .u8 0, .int .u8 0, .int .u8 0, .int .u8 5, .int .u8 0, .int .u8 0, .int .u8 0, .int .u8 11, .int .u8 0, .int .u8 0, .int .u8 0, .int .u8 0, .int .u8 0, .int .u8 0, .int .u8 0, .int .u8 1, .int .u8 0, .int .u8 0, .int .u8 0, .sym .u8 (.cv .u8 (.cv .u32 (.cv .i32 (.cv .u32 (.var 0))))), .sym .u8 (.cv .u8 (.bop .shr .u32 (.cv .u32 (.cv .i32 (.cv .u32 (.var 0)))) (.num 8))), .sym .u8 (.cv .u8 (.bop .shr .u32 (.cv .u32 (.cv .i32 (.cv .u32 (.var 0)))) (.num 16))), .sym .u8 (.cv .u8 (.bop .shr .u32 (.cv .u32 (.cv .i32 (.cv .u32 (.var 0)))) (.num 24))), .int .u8 13, .int .u8 0, .int .u8 0, .int .u8 0, .int .u8 4, .int .u8 0, .int .u8 0, .int .u8 0, .int .u8 12, .int .u8 0, .int .u8 0, .int .u8 0, .int .u8 0, .int .u8 0, .int .u8 0, .int .u8 0, .int .u8 10, .int .u8 0, .int .u8 0, .int .u8 0, .int .u8 0, .int .u8 0, .int .u8 0, .int .u8 0, .int .u8 11, .int .u8 0, .int .u8 0, .int .u8 0, .int .u8 0, .int .u8 0, .int .u8 0, .int .u8 0, .int .u8 1, .int .u8 0, .int .u8 0, .int .u8 0, .int .u8 1, .int .u8 0, .int .u8 0, .int .u8 0, .int .u8 13, .int .u8 0, .int .u8 0, .int .u8 0, .int .u8 2, .int .u8 0, .int .u8 0, .int .u8 0, .int .u8 7, .int .u8 0, .int .u8 0, .int .u8 0, .int .u8 18, .int .u8 0, .int .u8 0, .int .u8 0, .int .u8 12, .int .u8 0, .int .u8 0, .int .u8 0, .int .u8 0, .int .u8 0, .int .u8 0, .int .u8 0, .int .u8 10, .int .u8 0, .int .u8 0, .int .u8 0, .int .u8 0, .int .u8 0, .int .u8 0, .int .u8 0])],
  [] ⟩
theorem ea5_e : chkM e0T (runR Tryz.prog pvZ (codeT tabL) (ovA ovL []) 200) ea5 = true := by kernel_rfl
theorem ea5_ok : MemoOK Tryz.prog e0T ea5 := chkM_ok (run_ok (ms := []) trivial) ea5_e
end Go.Proofs.YtklmiejnopdabaaGreatDoor
/- One case: known calls, evaluated by the kernel. Printed by a program. -/
namespace Go.Proofs.YtklmiejnopdabaaGreatDoor
set_option linter.constructorNameAsVariable false
set_option linter.unusedSimpArgs false
set_option linter.unusedVariables false
open Go Go.Ab Go.RowKit
set_option maxRecDepth 100000
set_option linter.unusedVariables false
def ea6 : Memo := ⟨ 21, [.ref 19 36 0 45 none], 76,
  [(3, 0, [.int .u8 25, .int .i64 1, .int .u64 0, .int .u8 24, .int .i64 0, .int .u64 0]),
  (6, 0, [.int .u8 1, .int .i64 0, .sym .u64 (.var 0), .int .u8 30, .int .i64 0, .int .u64 0]),
  (10, 0, [.int .u8 1, .int .i64 0, .int .u64 1, .int .u8 29, .int .i64 0, .int .u64 0, .int .u8 24, .int .i64 0, .int .u64 0]),
  (11, 0, [.int .i64 0, .nils, .bool false, .int .i64 (-1), .ref 3 0 0 2 (some 3), .int .i64 0, .nils, .bool false, .int .i64 (-1), .ref 6 0 0 2 (some 3), .int .i64 0, .nils, .bool false, .int .i64 (-1), .ref 10 0 0 3 (some 3)]),
  (13, 0, [.ref 11 0 0 3 (some 5)]),
  (14, 0, [.slt false 1 [], .sym .i64 (.var 2)]),
  (15, 0, [.int .i64 1, .sym .u64 (.var 0)]),
  (17, 0, [.nils, .nils, .nils]),
  (19, 36, [.int .u8 87, .int .u8 76, .int .u8 3, .int .u8 0, .int .u8 0, .int .u8 0, .int .u8 255, .int .u8 2, .int .u8 0, .int .u8 25, .int .u8 1, .int .u8 24, .int .u8 0, .int .u8 0, .int .u8 0, .int .u8 255, .int .u8 2, .int .u8 0, .int .u8 1, .sym .u8 (.cv .u8 (.bop .shr .u64 (.var 0) (.num 0))), .sym .u8 (.cv .u8 (.bop .shr .u64 (.var 0) (.num 8))), .sym .u8 (.cv .u8 (.bop .shr .u64 (.var 0) (.num 16))), .sym .u8 (.cv .u8 (.bop .shr .u64 (.var 0) (.num 24))), .sym .u8 (.cv .u8 (.bop .shr .u64 (.var 0) (.num 32))), .sym .u8 (.cv .u8 (.bop .shr .u64 (.var 0) (.num 40))), .sym .u8 (.cv .u8 (.bop .shr .u64 (.var 0) (.num 48))), .sym .u8 (.cv .u8 (.bop .shr .u64 (.var 0) (.num 56))), .int .u8 30, .int .u8 0, .int .u8 0, .int .u8 0, .int .u8 255, .int .u8 3, .int .u8 0, .int .u8 1, .int .u8 1, .int .u8 0, .int .u8 0, .int .u8 0, .int .u8 0, .int .u8 0, .int .u8 0, .int .u8 0, .int .u8 29, .int .u8 24])],
  [],
  .tup [.agg [.ref 3638 19 0 160 none, .ref 3360 2 0 3 (some 6), .nils], .int .i64 0], 3715,
  [(3, 0, [.int .u8 25, .int .i64 1, .int .u64 0, .int .u8 24, .int .i64 0, .int .u64 0]),
  (6, 0, [.int .u8 1, .int .i64 0, .sym .u64 (.var 0), .int .u8 30, .int .i64 0, .int .u64 0]),
  (10, 0, [.int .u8 1, .int .i64 0, .int .u64 1, .int .u8 29, .int .i64 0, .int .u64 0, .int .u8 24, .int .i64 0, .int .u64 0]),
  (11, 0, [.int .i64 0, .nils, .bool false, .int .i64 (-1), .ref 3 0 0 2 (some 3), .int .i64 0, .nils, .bool false, .int .i64 (-1), .ref 6 0 0 2 (some 3), .int .i64 0, .nils, .bool false, .int .i64 (-1), .ref 10 0 0 3 (some 3)]),
  (13, 0, [.ref 11 0 0 3 (some 5)]),
  (14, 0, [.slt false 1 [], .sym .i64 (.var 2)]),
  (15, 0, [.int .i64 1, .sym .u64 (.var 0)]),
  (17, 0, [.nils, .nils, .nils]),
  (3360, 2, [.int .i64 2, .int .i64 9, .int .i64 0, .nils, .nils, .int .i64 8, .int .i64 9, .int .i64 14, .int .i64 0, .nils, .nils, .int .i64 (-1), .int .i64 14, .int .i64 20, .int .i64 0, .nils, .nils, .int .i64 (-1)]),
  (3638, 19, [.int .u8 13, .int .u8 0, .int .u8 0, .int .u8 0, .int .u8 0, .int .u8 0, .int .u8 0, .int .u8 0, .int .u8 13, .int .u8 0, .int .u8 0, .int .u8 0, .int .u8 1, .int .u8 0, .int .u8 0, .int .u8 0, .int .u8 11, .int .u8 0, .int .u8 0, .int .u8 0, .int .u8 0, .int .u8 0, .int .u8 0, .int .u8 0, .int .u8 13, .int .u8 0, .int .u8 0, .int .u8 0, .int .u8 7, .int .u8 1, .int .u8 0, .int .u8 0, .int .u8 7, .int .u8 0, .int .u8 0, .int .u8 0, .int .u8 5, .int .u8 0, .int .u8 0, .int .u8 0, .int .u8 13, .int .u8 0, .int .u8 0, .int .u8 0, .int .u8 8, .int .u8 0, .int .u8 0, .int .u8 0, .int .u8 12, .int .u8 0, .int .u8 0, .int .u8 0, .int .u8 0, .int .u8 0, .int .u8 0, .int .u8 0, .int .u8 10, .int .u8 0, .int .u8 0, .int .u8 0, .int .u8 0, .int .u8 0, .int .u8 0, .int .u8 0, .int .u8 7, .int .u8 0, .int .u8 0, .int .u8 0, .int .u8 5, .int .u8 0, .int .u8 0, .int .u8 0, .int .u8 11, .int .u8 0, .int .u8 0, .int .u8 0, .int .u8 0, .int .u8 0, .int .u8 0, .int .u8 0, .int .u8 1, .int .u8 0, .int .u8 0, .int .u8 0, .sym .u8 (.cv .u8 (.cv .u32 (.cv .i32 (.cv .u32 (.var 0))))), .sym .u8 (.cv .u8 (.bop .shr .u32 (.cv .u32 (.cv .i32 (.cv .u32 (.var 0)))) (.num 8))), .sym .u8 (.cv .u8 (.bop .shr .u32 (.cv .u32 (.cv .i32 (.cv .u32 (.var 0)))) (.num 16))), .sym .u8 (.cv .u8 (.bop .shr .u32 (.cv .u32 (.cv .i32 (.cv .u32 (.var 0)))) (.num 24))), .int .u8 13, .int .u8 0, .int .u8 0, .int .u8 0, .int .u8 4, .int .u8 0, .int .u8 0, .int .u8 0, .int .u8 12, .int .u8 0, .int .u8 0, .int .u8 0, .int .u8 0, .int .u8 0, .int .u8 0, .int .u8 0, .int .u8 10, .int .u8 0, .int .u8 0, .int .u8 0, .int .u8 0, .int .u8 0, .int .u8 0, .int .u8 0, .int .u8 11, .int .u8 0, .int .u8 0, .int .u8 0, .int .u8 0, .int .u8 0, .int .u8 0, .int .u8 0, .int .u8 1, .int .u8 0, .int .u8 0, .int .u8 0, .int .u8 1, .int .u8 0, .int .u8 0, .int .u8 0, .int .u8 13, .int .u8 0, .int .u8 0, .int .u8 0, .int .u8 2, .int .u8 0, .int .u8 0, .int .u8 0, .int .u8 7, .int .u8 0, .int .u8 0, .int .u8 0, .int .u8 18, .int .u8 0, .int .u8 0, .int .u8 0, .int .u8 12, .int .u8 0, .int .u8 0, .int .u8 0, .int .u8 0, .int .u8 0, .int .u8 0, .int .u8 0, .int .u8 10, .int .u8 0, .int .u8 0, .int .u8 0, .int .u8 0, .int .u8 0, .int .u8 0, .int .u8 0])],
  [] ⟩
theorem ea6_e : chkM e0T (runR Tryz.prog pvZ (codeT tabL) (ovA ovL [ea3, ea4, ea5]) 200) ea6 = true := by kernel_rfl
theorem ea6_ok : MemoOK Tryz.prog e0T ea6 := chkM_ok (run_ok (ms := [ea3, ea4, ea5]) ⟨ea3_ok.mono e0T_sub, ea4_ok.mono e0T_sub, ea5_ok, trivial⟩) ea6_e
end Go.Proofs.YtklmiejnopdabaaGreatDoor
/- One case: known calls, evaluated by the kernel. Printed by a program. -/
namespace Go.Proofs.YtklmiejnopdabaaGreatDoor
set_option linter.constructorNameAsVariable false
set_option linter.unusedSimpArgs false
set_option linter.unusedVariables false
open Go Go.Ab Go.RowKit
set_option maxRecDepth 100000
set_option linter.unusedVariables false
def ea7 : Memo := ⟨ 17, [.agg [.ref 11 0 0 3 (some 5)], .nils, .int .i64 1048576], 3717,
  [(3, 0, [.int .u8 25, .int .i64 1, .int .u64 0, .int .u8 24, .int .i64 0, .int .u64 0]),
  (6, 0, [.int .u8 1, .int .i64 0, .sym .u64 (.var 0), .int .u8 30, .int .i64 0, .int .u64 0]),
  (10, 0, [.int .u8 1, .int .i64 0, .int .u64 1, .int .u8 29, .int .i64 0, .int .u64 0, .int .u8 24, .int .i64 0, .int .u64 0]),
  (11, 0, [.int .i64 0, .nils, .bool false, .int .i64 (-1), .ref 3 0 0 2 (some 3), .int .i64 0, .nils, .bool false, .int .i64 (-1), .ref 6 0 0 2 (some 3), .int .i64 0, .nils, .bool false, .int .i64 (-1), .ref 10 0 0 3 (some 3)]),
  (14, 0, [.slt false 1 [], .sym .i64 (.var 2)]),
  (15, 0, [.int .i64 1, .sym .u64 (.var 0)]),
  (3360, 2, [.int .i64 2, .int .i64 9, .int .i64 0, .nils, .nils, .int .i64 8, .int .i64 9, .int .i64 14, .int .i64 0, .nils, .nils, .int .i64 (-1), .int .i64 14, .int .i64 20, .int .i64 0, .nils, .nils, .int .i64 (-1)]),
  (3638, 19, [.int .u8 13, .int .u8 0, .int .u8 0, .int .u8 0, .int .u8 0, .int .u8 0, .int .u8 0, .int .u8 0, .int .u8 13, .int .u8 0, .int .u8 0, .int .u8 0, .int .u8 1, .int .u8 0, .int .u8 0, .int .u8 0, .int .u8 11, .int .u8 0, .int .u8 0, .int .u8 0, .int .u8 0, .int .u8 0, .int .u8 0, .int .u8 0, .int .u8 13, .int .u8 0, .int .u8 0, .int .u8 0, .int .u8 7, .int .u8 1, .int .u8 0, .int .u8 0, .int .u8 7, .int .u8 0, .int .u8 0, .int .u8 0, .int .u8 5, .int .u8 0, .int .u8 0, .int .u8 0, .int .u8 13, .int .u8 0, .int .u8 0, .int .u8 0, .int .u8 8, .int .u8 0, .int .u8 0, .int .u8 0, .int .u8 12, .int .u8 0, .int .u8 0, .int .u8 0, .int .u8 0, .int .u8 0, .int .u8 0, .int .u8 0, .int .u8 10, .int .u8 0, .int .u8 0, .int .u8 0, .int .u8 0, .int .u8 0, .int .u8 0, .int .u8 0, .int .u8 7, .int .u8 0, .int .u8 0, .int .u8 0, .int .u8 5, .int .u8 0, .int .u8 0, .int .u8 0, .int .u8 11, .int .u8 0, .int .u8 0, .int .u8 0, .int .u8 0, .int .u8 0, .int .u8 0, .int .u8 0, .int .u8 1, .int .u8 0, .int .u8 0, .int .u8 0, .sym .u8 (.cv .u8 (.cv .u32 (.cv .i32 (.cv .u32 (.var 0))))), .sym .u8 (.cv .u8 (.bop .shr .u32 (.cv .u32 (.cv .i32 (.cv .u32 (.var 0)))) (.num 8))), .sym .u8 (.cv .u8 (.bop .shr .u32 (.cv .u32 (.cv .i32 (.cv .u32 (.var 0)))) (.num 16))), .sym .u8 (.cv .u8 (.bop .shr .u32 (.cv .u32 (.cv .i32 (.cv .u32 (.var 0)))) (.num 24))), .int .u8 13, .int .u8 0, .int .u8 0, .int .u8 0, .int .u8 4, .int .u8 0, .int .u8 0, .int .u8 0, .int .u8 12, .int .u8 0, .int .u8 0, .int .u8 0, .int .u8 0, .int .u8 0, .int .u8 0, .int .u8 0, .int .u8 10, .int .u8 0, .int .u8 0, .int .u8 0, .int .u8 0, .int .u8 0, .int .u8 0, .int .u8 0, .int .u8 11, .int .u8 0, .int .u8 0, .int .u8 0, .int .u8 0, .int .u8 0, .int .u8 0, .int .u8 0, .int .u8 1, .int .u8 0, .int .u8 0, .int .u8 0, .int .u8 1, .int .u8 0, .int .u8 0, .int .u8 0, .int .u8 13, .int .u8 0, .int .u8 0, .int .u8 0, .int .u8 2, .int .u8 0, .int .u8 0, .int .u8 0, .int .u8 7, .int .u8 0, .int .u8 0, .int .u8 0, .int .u8 18, .int .u8 0, .int .u8 0, .int .u8 0, .int .u8 12, .int .u8 0, .int .u8 0, .int .u8 0, .int .u8 0, .int .u8 0, .int .u8 0, .int .u8 0, .int .u8 10, .int .u8 0, .int .u8 0, .int .u8 0, .int .u8 0, .int .u8 0, .int .u8 0, .int .u8 0]),
  (3716, 0, [.ref 3638 19 0 160 none, .ref 3360 2 0 3 (some 6), .nils])],
  [],
  .tup [.agg [.nils, .int .i64 1, .sym .u64 (.var 0), .int .i64 4, .int .i64 2, .int .i64 1, .int .i64 0], .int .i64 0], 3928,
  [(14, 0, [.slt false 1 [], .sym .i64 (.var 2)]),
  (15, 0, [.int .i64 1, .sym .u64 (.var 0)]),
  (3360, 2, [.int .i64 2, .int .i64 9, .int .i64 0, .nils, .nils, .int .i64 8, .int .i64 9, .int .i64 14, .int .i64 0, .nils, .nils, .int .i64 (-1), .int .i64 14, .int .i64 20, .int .i64 0, .nils, .nils, .int .i64 (-1)]),
  (3638, 19, [.int .u8 13, .int .u8 0, .int .u8 0, .int .u8 0, .int .u8 0, .int .u8 0, .int .u8 0, .int .u8 0, .int .u8 13, .int .u8 0, .int .u8 0, .int .u8 0, .int .u8 1, .int .u8 0, .int .u8 0, .int .u8 0, .int .u8 11, .int .u8 0, .int .u8 0, .int .u8 0, .int .u8 0, .int .u8 0, .int .u8 0, .int .u8 0, .int .u8 13, .int .u8 0, .int .u8 0, .int .u8 0, .int .u8 7, .int .u8 1, .int .u8 0, .int .u8 0, .int .u8 7, .int .u8 0, .int .u8 0, .int .u8 0, .int .u8 5, .int .u8 0, .int .u8 0, .int .u8 0, .int .u8 13, .int .u8 0, .int .u8 0, .int .u8 0, .int .u8 8, .int .u8 0, .int .u8 0, .int .u8 0, .int .u8 12, .int .u8 0, .int .u8 0, .int .u8 0, .int .u8 0, .int .u8 0, .int .u8 0, .int .u8 0, .int .u8 10, .int .u8 0, .int .u8 0, .int .u8 0, .int .u8 0, .int .u8 0, .int .u8 0, .int .u8 0, .int .u8 7, .int .u8 0, .int .u8 0, .int .u8 0, .int .u8 5, .int .u8 0, .int .u8 0, .int .u8 0, .int .u8 11, .int .u8 0, .int .u8 0, .int .u8 0, .int .u8 0, .int .u8 0, .int .u8 0, .int .u8 0, .int .u8 1, .int .u8 0, .int .u8 0, .int .u8 0, .sym .u8 (.cv .u8 (.cv .u32 (.cv .i32 (.cv .u32 (.var 0))))), .sym .u8 (.cv .u8 (.bop .shr .u32 (.cv .u32 (.cv .i32 (.cv .u32 (.var 0)))) (.num 8))), .sym .u8 (.cv .u8 (.bop .shr .u32 (.cv .u32 (.cv .i32 (.cv .u32 (.var 0)))) (.num 16))), .sym .u8 (.cv .u8 (.bop .shr .u32 (.cv .u32 (.cv .i32 (.cv .u32 (.var 0)))) (.num 24))), .int .u8 13, .int .u8 0, .int .u8 0, .int .u8 0, .int .u8 4, .int .u8 0, .int .u8 0, .int .u8 0, .int .u8 12, .int .u8 0, .int .u8 0, .int .u8 0, .int .u8 0, .int .u8 0, .int .u8 0, .int .u8 0, .int .u8 10, .int .u8 0, .int .u8 0, .int .u8 0, .int .u8 0, .int .u8 0, .int .u8 0, .int .u8 0, .int .u8 11, .int .u8 0, .int .u8 0, .int .u8 0, .int .u8 0, .int .u8 0, .int .u8 0, .int .u8 0, .int .u8 1, .int .u8 0, .int .u8 0, .int .u8 0, .int .u8 1, .int .u8 0, .int .u8 0, .int .u8 0, .int .u8 13, .int .u8 0, .int .u8 0, .int .u8 0, .int .u8 2, .int .u8 0, .int .u8 0, .int .u8 0, .int .u8 7, .int .u8 0, .int .u8 0, .int .u8 0, .int .u8 18, .int .u8 0, .int .u8 0, .int .u8 0, .int .u8 12, .int .u8 0, .int .u8 0, .int .u8 0, .int .u8 0, .int .u8 0, .int .u8 0, .int .u8 0, .int .u8 10, .int .u8 0, .int .u8 0, .int .u8 0, .int .u8 0, .int .u8 0, .int .u8 0, .int .u8 0]),
  (3716, 0, [.ref 3638 19 0 160 none, .ref 3360 2 0 3 (some 6), .nils])],
  [] ⟩
theorem ea7_e : chkM e0T (runR Tryz.prog pvZ (codeT tabL) (ovA ovL []) 200) ea7 = true := by kernel_rfl
theorem ea7_ok : MemoOK Tryz.prog e0T ea7 := chkM_ok (run_ok (ms := []) trivial) ea7_e
end Go.Proofs.YtklmiejnopdabaaGreatDoor
