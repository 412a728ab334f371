/- One case: known calls, evaluated by the kernel. Printed by a program. -/
import Derived.Test.YtklmiejnopdabaaGreatDoorWhH
import Derived.Test.YtklmiejnopdabaaGreatDoorWh_eb4
namespace Go.Proofs.YtklmiejnopdabaaGreatDoor
set_option linter.constructorNameAsVariable false
set_option linter.unusedSimpArgs false
set_option linter.unusedVariables false
open Go Go.Ab Go.RowKit
set_option maxRecDepth 100000
set_option linter.unusedVariables false
def eb5 : Memo := ⟨ 41, [.agg [.ref 1271 2 0 3 (some 8)]], 3805,
  [(8, 0, [.int .u8 25, .int .i64 2, .int .u64 0, .int .u8 25, .int .i64 1, .int .u64 0, .int .u8 1, .int .i64 0, .int .u64 3, .int .u8 26, .int .i64 0, .int .u64 0]),
  (11, 0, [.int .u8 1, .int .i64 0, .sym .u64 (.var 0), .int .u8 30, .int .i64 0, .int .u64 0]),
  (15, 0, [.int .u8 1, .int .i64 0, .int .u64 1, .int .u8 29, .int .i64 0, .int .u64 0, .int .u8 24, .int .i64 0, .int .u64 0]),
  (16, 0, [.int .i64 0, .nils, .bool false, .int .i64 (-1), .ref 8 0 0 4 (some 3), .int .i64 0, .nils, .bool false, .int .i64 (-1), .ref 11 0 0 2 (some 3), .int .i64 0, .nils, .bool false, .int .i64 (-1), .ref 15 0 0 3 (some 3)]),
  (18, 0, [.ref 16 0 0 3 (some 5)]),
  (19, 0, [.slt false 1 [], .sym .i64 (.var 2)]),
  (20, 0, [.int .i64 1, .sym .u64 (.var 0)]),
  (22, 0, [.nils, .nils, .nils]),
  (96, 0, [.nils, .nils, .nils]),
  (1209, 0, [.int .u8 0, .int .u8 0, .int .u8 0, .int .u8 0, .int .u8 0, .int .u8 0, .int .u8 0, .int .u8 0, .int .u8 0, .int .u8 0, .int .u8 0, .int .u8 0, .int .u8 0, .int .u8 0, .int .u8 0, .int .u8 0]),
  (1214, 4, [.int .u8 10, .int .u8 0, .int .i64 0, .int .i64 0, .int .i64 0, .int .i64 0, .int .i64 0, .int .i64 0, .int .u64 0, .nils, .int .i64 1, .int .i64 0, .int .u8 13, .int .u8 0, .int .i64 (-1), .int .i64 0, .int .i64 0, .int .i64 0, .int .i64 2, .int .i64 0, .int .u64 0, .nils, .int .i64 2, .int .i64 0, .int .u8 13, .int .u8 0, .int .i64 (-1), .int .i64 0, .int .i64 0, .int .i64 0, .int .i64 1, .int .i64 0, .int .u64 0, .nils, .int .i64 3, .int .i64 0, .int .u8 1, .int .u8 0, .int .i64 0, .int .i64 (-1), .int .i64 (-1), .int .i64 0, .int .i64 0, .int .i64 0, .int .u64 3, .nils, .int .i64 4, .int .i64 0, .int .u8 14, .int .u8 0, .int .i64 (-1), .int .i64 (-1), .int .i64 0, .int .i64 0, .int .i64 0, .int .i64 0, .int .u64 0, .nils, .int .i64 0, .int .i64 0]),
  (1271, 2, [.nils, .ref 1209 0 0 16 none, .int .i64 0, .nils, .bool false, .int .i64 (-1), .ref 1214 4 0 5 (some 12), .int .i64 0, .nils, .ref 1768 0 0 16 none, .int .i64 0, .nils, .bool false, .int .i64 (-1), .ref 1773 2 0 3 (some 12), .int .i64 0, .nils, .ref 2384 0 0 16 none, .int .i64 0, .nils, .bool false, .int .i64 (-1), .ref 2389 3 0 4 (some 12), .int .i64 0]),
  (1768, 0, [.int .u8 0, .int .u8 0, .int .u8 0, .int .u8 0, .int .u8 0, .int .u8 0, .int .u8 0, .int .u8 0, .int .u8 0, .int .u8 0, .int .u8 0, .int .u8 0, .int .u8 0, .int .u8 0, .int .u8 0, .int .u8 0]),
  (1773, 2, [.int .u8 10, .int .u8 0, .int .i64 0, .int .i64 0, .int .i64 0, .int .i64 0, .int .i64 0, .int .i64 0, .int .u64 0, .nils, .int .i64 1, .int .i64 0, .int .u8 1, .int .u8 0, .int .i64 0, .int .i64 (-1), .int .i64 (-1), .int .i64 0, .int .i64 0, .int .i64 0, .sym .u64 (.var 0), .nils, .int .i64 2, .int .i64 0, .int .u8 18, .int .u8 0, .int .i64 (-1), .int .i64 (-1), .int .i64 0, .int .i64 0, .int .i64 0, .int .i64 0, .int .u64 0, .nils, .int .i64 0, .int .i64 0]),
  (2384, 0, [.int .u8 0, .int .u8 0, .int .u8 0, .int .u8 0, .int .u8 0, .int .u8 0, .int .u8 0, .int .u8 0, .int .u8 0, .int .u8 0, .int .u8 0, .int .u8 0, .int .u8 0, .int .u8 0, .int .u8 0, .int .u8 0]),
  (2389, 3, [.int .u8 10, .int .u8 0, .int .i64 0, .int .i64 0, .int .i64 0, .int .i64 0, .int .i64 0, .int .i64 0, .int .u64 0, .nils, .int .i64 1, .int .i64 0, .int .u8 1, .int .u8 0, .int .i64 0, .int .i64 (-1), .int .i64 (-1), .int .i64 0, .int .i64 0, .int .i64 0, .int .u64 1, .nils, .int .i64 2, .int .i64 0, .int .u8 17, .int .u8 0, .int .i64 (-1), .int .i64 (-1), .int .i64 0, .int .i64 0, .int .i64 0, .int .i64 0, .int .u64 0, .nils, .int .i64 3, .int .i64 0, .int .u8 12, .int .u8 0, .int .i64 (-1), .int .i64 (-1), .int .i64 (-1), .int .i64 0, .int .i64 0, .int .i64 0, .int .u64 0, .nils, .int .i64 0, .int .i64 0])],
  [],
  .tup [.agg [.ref 4565 21 0 176 none, .ref 4265 2 0 3 (some 6), .nils], .int .i64 0], 4650,
  [(8, 0, [.int .u8 25, .int .i64 2, .int .u64 0, .int .u8 25, .int .i64 1, .int .u64 0, .int .u8 1, .int .i64 0, .int .u64 3, .int .u8 26, .int .i64 0, .int .u64 0]),
  (11, 0, [.int .u8 1, .int .i64 0, .sym .u64 (.var 0), .int .u8 30, .int .i64 0, .int .u64 0]),
  (15, 0, [.int .u8 1, .int .i64 0, .int .u64 1, .int .u8 29, .int .i64 0, .int .u64 0, .int .u8 24, .int .i64 0, .int .u64 0]),
  (16, 0, [.int .i64 0, .nils, .bool false, .int .i64 (-1), .ref 8 0 0 4 (some 3), .int .i64 0, .nils, .bool false, .int .i64 (-1), .ref 11 0 0 2 (some 3), .int .i64 0, .nils, .bool false, .int .i64 (-1), .ref 15 0 0 3 (some 3)]),
  (18, 0, [.ref 16 0 0 3 (some 5)]),
  (19, 0, [.slt false 1 [], .sym .i64 (.var 2)]),
  (20, 0, [.int .i64 1, .sym .u64 (.var 0)]),
  (22, 0, [.nils, .nils, .nils]),
  (96, 0, [.nils, .nils, .nils]),
  (4265, 2, [.int .i64 2, .int .i64 11, .int .i64 0, .nils, .nils, .int .i64 10, .int .i64 11, .int .i64 16, .int .i64 0, .nils, .nils, .int .i64 (-1), .int .i64 16, .int .i64 22, .int .i64 0, .nils, .nils, .int .i64 (-1)]),
  (4565, 21, [.int .u8 13, .int .u8 0, .int .u8 0, .int .u8 0, .int .u8 0, .int .u8 0, .int .u8 0, .int .u8 0, .int .u8 13, .int .u8 0, .int .u8 0, .int .u8 0, .int .u8 1, .int .u8 0, .int .u8 0, .int .u8 0, .int .u8 11, .int .u8 0, .int .u8 0, .int .u8 0, .int .u8 0, .int .u8 0, .int .u8 0, .int .u8 0, .int .u8 13, .int .u8 0, .int .u8 0, .int .u8 0, .int .u8 7, .int .u8 2, .int .u8 0, .int .u8 0, .int .u8 13, .int .u8 0, .int .u8 0, .int .u8 0, .int .u8 7, .int .u8 1, .int .u8 0, .int .u8 0, .int .u8 1, .int .u8 0, .int .u8 0, .int .u8 0, .int .u8 3, .int .u8 0, .int .u8 0, .int .u8 0, .int .u8 13, .int .u8 0, .int .u8 0, .int .u8 0, .int .u8 5, .int .u8 0, .int .u8 0, .int .u8 0, .int .u8 13, .int .u8 0, .int .u8 0, .int .u8 0, .int .u8 8, .int .u8 0, .int .u8 0, .int .u8 0, .int .u8 12, .int .u8 0, .int .u8 0, .int .u8 0, .int .u8 0, .int .u8 0, .int .u8 0, .int .u8 0, .int .u8 10, .int .u8 0, .int .u8 0, .int .u8 0, .int .u8 0, .int .u8 0, .int .u8 0, .int .u8 0, .int .u8 7, .int .u8 0, .int .u8 0, .int .u8 0, .int .u8 7, .int .u8 0, .int .u8 0, .int .u8 0, .int .u8 11, .int .u8 0, .int .u8 0, .int .u8 0, .int .u8 0, .int .u8 0, .int .u8 0, .int .u8 0, .int .u8 1, .int .u8 0, .int .u8 0, .int .u8 0, .sym .u8 (.cv .u8 (.cv .u32 (.cv .i32 (.cv .u32 (.var 0))))), .sym .u8 (.cv .u8 (.bop .shr .u32 (.cv .u32 (.cv .i32 (.cv .u32 (.var 0)))) (.num 8))), .sym .u8 (.cv .u8 (.bop .shr .u32 (.cv .u32 (.cv .i32 (.cv .u32 (.var 0)))) (.num 16))), .sym .u8 (.cv .u8 (.bop .shr .u32 (.cv .u32 (.cv .i32 (.cv .u32 (.var 0)))) (.num 24))), .int .u8 13, .int .u8 0, .int .u8 0, .int .u8 0, .int .u8 4, .int .u8 0, .int .u8 0, .int .u8 0, .int .u8 12, .int .u8 0, .int .u8 0, .int .u8 0, .int .u8 0, .int .u8 0, .int .u8 0, .int .u8 0, .int .u8 10, .int .u8 0, .int .u8 0, .int .u8 0, .int .u8 0, .int .u8 0, .int .u8 0, .int .u8 0, .int .u8 11, .int .u8 0, .int .u8 0, .int .u8 0, .int .u8 0, .int .u8 0, .int .u8 0, .int .u8 0, .int .u8 1, .int .u8 0, .int .u8 0, .int .u8 0, .int .u8 1, .int .u8 0, .int .u8 0, .int .u8 0, .int .u8 13, .int .u8 0, .int .u8 0, .int .u8 0, .int .u8 2, .int .u8 0, .int .u8 0, .int .u8 0, .int .u8 7, .int .u8 0, .int .u8 0, .int .u8 0, .int .u8 20, .int .u8 0, .int .u8 0, .int .u8 0, .int .u8 12, .int .u8 0, .int .u8 0, .int .u8 0, .int .u8 0, .int .u8 0, .int .u8 0, .int .u8 0, .int .u8 10, .int .u8 0, .int .u8 0, .int .u8 0, .int .u8 0, .int .u8 0, .int .u8 0, .int .u8 0])],
  [] ⟩
theorem eb5_e : chkM e1T (runR Tryz.prog pvZ (codeT tabL) (ovA ovL []) 200) eb5 = true := by kernel_rfl
theorem eb5_ok : MemoOK Tryz.prog e1T eb5 := chkM_ok (run_ok (ms := []) trivial) eb5_e
end Go.Proofs.YtklmiejnopdabaaGreatDoor
/- One case: known calls, evaluated by the kernel. Printed by a program. -/
namespace Go.Proofs.YtklmiejnopdabaaGreatDoor
set_option linter.constructorNameAsVariable false
set_option linter.unusedSimpArgs false
set_option linter.unusedVariables false
open Go Go.Ab Go.RowKit
set_option maxRecDepth 100000
set_option linter.unusedVariables false
def eb6 : Memo := ⟨ 21, [.ref 24 47 0 56 none], 96,
  [(8, 0, [.int .u8 25, .int .i64 2, .int .u64 0, .int .u8 25, .int .i64 1, .int .u64 0, .int .u8 1, .int .i64 0, .int .u64 3, .int .u8 26, .int .i64 0, .int .u64 0]),
  (11, 0, [.int .u8 1, .int .i64 0, .sym .u64 (.var 0), .int .u8 30, .int .i64 0, .int .u64 0]),
  (15, 0, [.int .u8 1, .int .i64 0, .int .u64 1, .int .u8 29, .int .i64 0, .int .u64 0, .int .u8 24, .int .i64 0, .int .u64 0]),
  (16, 0, [.int .i64 0, .nils, .bool false, .int .i64 (-1), .ref 8 0 0 4 (some 3), .int .i64 0, .nils, .bool false, .int .i64 (-1), .ref 11 0 0 2 (some 3), .int .i64 0, .nils, .bool false, .int .i64 (-1), .ref 15 0 0 3 (some 3)]),
  (18, 0, [.ref 16 0 0 3 (some 5)]),
  (19, 0, [.slt false 1 [], .sym .i64 (.var 2)]),
  (20, 0, [.int .i64 1, .sym .u64 (.var 0)]),
  (22, 0, [.nils, .nils, .nils]),
  (24, 47, [.int .u8 87, .int .u8 76, .int .u8 3, .int .u8 0, .int .u8 0, .int .u8 0, .int .u8 255, .int .u8 4, .int .u8 0, .int .u8 25, .int .u8 2, .int .u8 25, .int .u8 1, .int .u8 1, .int .u8 3, .int .u8 0, .int .u8 0, .int .u8 0, .int .u8 0, .int .u8 0, .int .u8 0, .int .u8 0, .int .u8 26, .int .u8 0, .int .u8 0, .int .u8 0, .int .u8 255, .int .u8 2, .int .u8 0, .int .u8 1, .sym .u8 (.cv .u8 (.bop .shr .u64 (.var 0) (.num 0))), .sym .u8 (.cv .u8 (.bop .shr .u64 (.var 0) (.num 8))), .sym .u8 (.cv .u8 (.bop .shr .u64 (.var 0) (.num 16))), .sym .u8 (.cv .u8 (.bop .shr .u64 (.var 0) (.num 24))), .sym .u8 (.cv .u8 (.bop .shr .u64 (.var 0) (.num 32))), .sym .u8 (.cv .u8 (.bop .shr .u64 (.var 0) (.num 40))), .sym .u8 (.cv .u8 (.bop .shr .u64 (.var 0) (.num 48))), .sym .u8 (.cv .u8 (.bop .shr .u64 (.var 0) (.num 56))), .int .u8 30, .int .u8 0, .int .u8 0, .int .u8 0, .int .u8 255, .int .u8 3, .int .u8 0, .int .u8 1, .int .u8 1, .int .u8 0, .int .u8 0, .int .u8 0, .int .u8 0, .int .u8 0, .int .u8 0, .int .u8 0, .int .u8 29, .int .u8 24])],
  [],
  .tup [.agg [.ref 4565 21 0 176 none, .ref 4265 2 0 3 (some 6), .nils], .int .i64 0], 4650,
  [(8, 0, [.int .u8 25, .int .i64 2, .int .u64 0, .int .u8 25, .int .i64 1, .int .u64 0, .int .u8 1, .int .i64 0, .int .u64 3, .int .u8 26, .int .i64 0, .int .u64 0]),
  (11, 0, [.int .u8 1, .int .i64 0, .sym .u64 (.var 0), .int .u8 30, .int .i64 0, .int .u64 0]),
  (15, 0, [.int .u8 1, .int .i64 0, .int .u64 1, .int .u8 29, .int .i64 0, .int .u64 0, .int .u8 24, .int .i64 0, .int .u64 0]),
  (16, 0, [.int .i64 0, .nils, .bool false, .int .i64 (-1), .ref 8 0 0 4 (some 3), .int .i64 0, .nils, .bool false, .int .i64 (-1), .ref 11 0 0 2 (some 3), .int .i64 0, .nils, .bool false, .int .i64 (-1), .ref 15 0 0 3 (some 3)]),
  (18, 0, [.ref 16 0 0 3 (some 5)]),
  (19, 0, [.slt false 1 [], .sym .i64 (.var 2)]),
  (20, 0, [.int .i64 1, .sym .u64 (.var 0)]),
  (22, 0, [.nils, .nils, .nils]),
  (4265, 2, [.int .i64 2, .int .i64 11, .int .i64 0, .nils, .nils, .int .i64 10, .int .i64 11, .int .i64 16, .int .i64 0, .nils, .nils, .int .i64 (-1), .int .i64 16, .int .i64 22, .int .i64 0, .nils, .nils, .int .i64 (-1)]),
  (4565, 21, [.int .u8 13, .int .u8 0, .int .u8 0, .int .u8 0, .int .u8 0, .int .u8 0, .int .u8 0, .int .u8 0, .int .u8 13, .int .u8 0, .int .u8 0, .int .u8 0, .int .u8 1, .int .u8 0, .int .u8 0, .int .u8 0, .int .u8 11, .int .u8 0, .int .u8 0, .int .u8 0, .int .u8 0, .int .u8 0, .int .u8 0, .int .u8 0, .int .u8 13, .int .u8 0, .int .u8 0, .int .u8 0, .int .u8 7, .int .u8 2, .int .u8 0, .int .u8 0, .int .u8 13, .int .u8 0, .int .u8 0, .int .u8 0, .int .u8 7, .int .u8 1, .int .u8 0, .int .u8 0, .int .u8 1, .int .u8 0, .int .u8 0, .int .u8 0, .int .u8 3, .int .u8 0, .int .u8 0, .int .u8 0, .int .u8 13, .int .u8 0, .int .u8 0, .int .u8 0, .int .u8 5, .int .u8 0, .int .u8 0, .int .u8 0, .int .u8 13, .int .u8 0, .int .u8 0, .int .u8 0, .int .u8 8, .int .u8 0, .int .u8 0, .int .u8 0, .int .u8 12, .int .u8 0, .int .u8 0, .int .u8 0, .int .u8 0, .int .u8 0, .int .u8 0, .int .u8 0, .int .u8 10, .int .u8 0, .int .u8 0, .int .u8 0, .int .u8 0, .int .u8 0, .int .u8 0, .int .u8 0, .int .u8 7, .int .u8 0, .int .u8 0, .int .u8 0, .int .u8 7, .int .u8 0, .int .u8 0, .int .u8 0, .int .u8 11, .int .u8 0, .int .u8 0, .int .u8 0, .int .u8 0, .int .u8 0, .int .u8 0, .int .u8 0, .int .u8 1, .int .u8 0, .int .u8 0, .int .u8 0, .sym .u8 (.cv .u8 (.cv .u32 (.cv .i32 (.cv .u32 (.var 0))))), .sym .u8 (.cv .u8 (.bop .shr .u32 (.cv .u32 (.cv .i32 (.cv .u32 (.var 0)))) (.num 8))), .sym .u8 (.cv .u8 (.bop .shr .u32 (.cv .u32 (.cv .i32 (.cv .u32 (.var 0)))) (.num 16))), .sym .u8 (.cv .u8 (.bop .shr .u32 (.cv .u32 (.cv .i32 (.cv .u32 (.var 0)))) (.num 24))), .int .u8 13, .int .u8 0, .int .u8 0, .int .u8 0, .int .u8 4, .int .u8 0, .int .u8 0, .int .u8 0, .int .u8 12, .int .u8 0, .int .u8 0, .int .u8 0, .int .u8 0, .int .u8 0, .int .u8 0, .int .u8 0, .int .u8 10, .int .u8 0, .int .u8 0, .int .u8 0, .int .u8 0, .int .u8 0, .int .u8 0, .int .u8 0, .int .u8 11, .int .u8 0, .int .u8 0, .int .u8 0, .int .u8 0, .int .u8 0, .int .u8 0, .int .u8 0, .int .u8 1, .int .u8 0, .int .u8 0, .int .u8 0, .int .u8 1, .int .u8 0, .int .u8 0, .int .u8 0, .int .u8 13, .int .u8 0, .int .u8 0, .int .u8 0, .int .u8 2, .int .u8 0, .int .u8 0, .int .u8 0, .int .u8 7, .int .u8 0, .int .u8 0, .int .u8 0, .int .u8 20, .int .u8 0, .int .u8 0, .int .u8 0, .int .u8 12, .int .u8 0, .int .u8 0, .int .u8 0, .int .u8 0, .int .u8 0, .int .u8 0, .int .u8 0, .int .u8 10, .int .u8 0, .int .u8 0, .int .u8 0, .int .u8 0, .int .u8 0, .int .u8 0, .int .u8 0])],
  [] ⟩
theorem eb6_e : chkM e1T (runR Tryz.prog pvZ (codeT tabL) (ovA ovL [eb3, eb4, eb5]) 200) eb6 = true := by kernel_rfl
theorem eb6_ok : MemoOK Tryz.prog e1T eb6 := chkM_ok (run_ok (ms := [eb3, eb4, eb5]) ⟨eb3_ok.mono e1T_sub, eb4_ok.mono e1T_sub, eb5_ok, trivial⟩) eb6_e
end Go.Proofs.YtklmiejnopdabaaGreatDoor
/- One case: known calls, evaluated by the kernel. Printed by a program. -/
namespace Go.Proofs.YtklmiejnopdabaaGreatDoor
set_option linter.constructorNameAsVariable false
set_option linter.unusedSimpArgs false
set_option linter.unusedVariables false
open Go Go.Ab Go.RowKit
set_option maxRecDepth 100000
set_option linter.unusedVariables false
def eb7 : Memo := ⟨ 17, [.agg [.ref 16 0 0 3 (some 5)], .nils, .int .i64 1048576], 4652,
  [(8, 0, [.int .u8 25, .int .i64 2, .int .u64 0, .int .u8 25, .int .i64 1, .int .u64 0, .int .u8 1, .int .i64 0, .int .u64 3, .int .u8 26, .int .i64 0, .int .u64 0]),
  (11, 0, [.int .u8 1, .int .i64 0, .sym .u64 (.var 0), .int .u8 30, .int .i64 0, .int .u64 0]),
  (15, 0, [.int .u8 1, .int .i64 0, .int .u64 1, .int .u8 29, .int .i64 0, .int .u64 0, .int .u8 24, .int .i64 0, .int .u64 0]),
  (16, 0, [.int .i64 0, .nils, .bool false, .int .i64 (-1), .ref 8 0 0 4 (some 3), .int .i64 0, .nils, .bool false, .int .i64 (-1), .ref 11 0 0 2 (some 3), .int .i64 0, .nils, .bool false, .int .i64 (-1), .ref 15 0 0 3 (some 3)]),
  (19, 0, [.slt false 1 [], .sym .i64 (.var 2)]),
  (20, 0, [.int .i64 1, .sym .u64 (.var 0)]),
  (4265, 2, [.int .i64 2, .int .i64 11, .int .i64 0, .nils, .nils, .int .i64 10, .int .i64 11, .int .i64 16, .int .i64 0, .nils, .nils, .int .i64 (-1), .int .i64 16, .int .i64 22, .int .i64 0, .nils, .nils, .int .i64 (-1)]),
  (4565, 21, [.int .u8 13, .int .u8 0, .int .u8 0, .int .u8 0, .int .u8 0, .int .u8 0, .int .u8 0, .int .u8 0, .int .u8 13, .int .u8 0, .int .u8 0, .int .u8 0, .int .u8 1, .int .u8 0, .int .u8 0, .int .u8 0, .int .u8 11, .int .u8 0, .int .u8 0, .int .u8 0, .int .u8 0, .int .u8 0, .int .u8 0, .int .u8 0, .int .u8 13, .int .u8 0, .int .u8 0, .int .u8 0, .int .u8 7, .int .u8 2, .int .u8 0, .int .u8 0, .int .u8 13, .int .u8 0, .int .u8 0, .int .u8 0, .int .u8 7, .int .u8 1, .int .u8 0, .int .u8 0, .int .u8 1, .int .u8 0, .int .u8 0, .int .u8 0, .int .u8 3, .int .u8 0, .int .u8 0, .int .u8 0, .int .u8 13, .int .u8 0, .int .u8 0, .int .u8 0, .int .u8 5, .int .u8 0, .int .u8 0, .int .u8 0, .int .u8 13, .int .u8 0, .int .u8 0, .int .u8 0, .int .u8 8, .int .u8 0, .int .u8 0, .int .u8 0, .int .u8 12, .int .u8 0, .int .u8 0, .int .u8 0, .int .u8 0, .int .u8 0, .int .u8 0, .int .u8 0, .int .u8 10, .int .u8 0, .int .u8 0, .int .u8 0, .int .u8 0, .int .u8 0, .int .u8 0, .int .u8 0, .int .u8 7, .int .u8 0, .int .u8 0, .int .u8 0, .int .u8 7, .int .u8 0, .int .u8 0, .int .u8 0, .int .u8 11, .int .u8 0, .int .u8 0, .int .u8 0, .int .u8 0, .int .u8 0, .int .u8 0, .int .u8 0, .int .u8 1, .int .u8 0, .int .u8 0, .int .u8 0, .sym .u8 (.cv .u8 (.cv .u32 (.cv .i32 (.cv .u32 (.var 0))))), .sym .u8 (.cv .u8 (.bop .shr .u32 (.cv .u32 (.cv .i32 (.cv .u32 (.var 0)))) (.num 8))), .sym .u8 (.cv .u8 (.bop .shr .u32 (.cv .u32 (.cv .i32 (.cv .u32 (.var 0)))) (.num 16))), .sym .u8 (.cv .u8 (.bop .shr .u32 (.cv .u32 (.cv .i32 (.cv .u32 (.var 0)))) (.num 24))), .int .u8 13, .int .u8 0, .int .u8 0, .int .u8 0, .int .u8 4, .int .u8 0, .int .u8 0, .int .u8 0, .int .u8 12, .int .u8 0, .int .u8 0, .int .u8 0, .int .u8 0, .int .u8 0, .int .u8 0, .int .u8 0, .int .u8 10, .int .u8 0, .int .u8 0, .int .u8 0, .int .u8 0, .int .u8 0, .int .u8 0, .int .u8 0, .int .u8 11, .int .u8 0, .int .u8 0, .int .u8 0, .int .u8 0, .int .u8 0, .int .u8 0, .int .u8 0, .int .u8 1, .int .u8 0, .int .u8 0, .int .u8 0, .int .u8 1, .int .u8 0, .int .u8 0, .int .u8 0, .int .u8 13, .int .u8 0, .int .u8 0, .int .u8 0, .int .u8 2, .int .u8 0, .int .u8 0, .int .u8 0, .int .u8 7, .int .u8 0, .int .u8 0, .int .u8 0, .int .u8 20, .int .u8 0, .int .u8 0, .int .u8 0, .int .u8 12, .int .u8 0, .int .u8 0, .int .u8 0, .int .u8 0, .int .u8 0, .int .u8 0, .int .u8 0, .int .u8 10, .int .u8 0, .int .u8 0, .int .u8 0, .int .u8 0, .int .u8 0, .int .u8 0, .int .u8 0]),
  (4651, 0, [.ref 4565 21 0 176 none, .ref 4265 2 0 3 (some 6), .nils])],
  [],
  .tup [.agg [.nils, .int .i64 1, .sym .u64 (.var 0), .int .i64 6, .int .i64 2, .int .i64 2, .int .i64 1], .int .i64 0], 4914,
  [(19, 0, [.slt false 1 [], .sym .i64 (.var 2)]),
  (20, 0, [.int .i64 1, .sym .u64 (.var 0)]),
  (4265, 2, [.int .i64 2, .int .i64 11, .int .i64 0, .nils, .nils, .int .i64 10, .int .i64 11, .int .i64 16, .int .i64 0, .nils, .nils, .int .i64 (-1), .int .i64 16, .int .i64 22, .int .i64 0, .nils, .nils, .int .i64 (-1)]),
  (4565, 21, [.int .u8 13, .int .u8 0, .int .u8 0, .int .u8 0, .int .u8 0, .int .u8 0, .int .u8 0, .int .u8 0, .int .u8 13, .int .u8 0, .int .u8 0, .int .u8 0, .int .u8 1, .int .u8 0, .int .u8 0, .int .u8 0, .int .u8 11, .int .u8 0, .int .u8 0, .int .u8 0, .int .u8 0, .int .u8 0, .int .u8 0, .int .u8 0, .int .u8 13, .int .u8 0, .int .u8 0, .int .u8 0, .int .u8 7, .int .u8 2, .int .u8 0, .int .u8 0, .int .u8 13, .int .u8 0, .int .u8 0, .int .u8 0, .int .u8 7, .int .u8 1, .int .u8 0, .int .u8 0, .int .u8 1, .int .u8 0, .int .u8 0, .int .u8 0, .int .u8 3, .int .u8 0, .int .u8 0, .int .u8 0, .int .u8 13, .int .u8 0, .int .u8 0, .int .u8 0, .int .u8 5, .int .u8 0, .int .u8 0, .int .u8 0, .int .u8 13, .int .u8 0, .int .u8 0, .int .u8 0, .int .u8 8, .int .u8 0, .int .u8 0, .int .u8 0, .int .u8 12, .int .u8 0, .int .u8 0, .int .u8 0, .int .u8 0, .int .u8 0, .int .u8 0, .int .u8 0, .int .u8 10, .int .u8 0, .int .u8 0, .int .u8 0, .int .u8 0, .int .u8 0, .int .u8 0, .int .u8 0, .int .u8 7, .int .u8 0, .int .u8 0, .int .u8 0, .int .u8 7, .int .u8 0, .int .u8 0, .int .u8 0, .int .u8 11, .int .u8 0, .int .u8 0, .int .u8 0, .int .u8 0, .int .u8 0, .int .u8 0, .int .u8 0, .int .u8 1, .int .u8 0, .int .u8 0, .int .u8 0, .sym .u8 (.cv .u8 (.cv .u32 (.cv .i32 (.cv .u32 (.var 0))))), .sym .u8 (.cv .u8 (.bop .shr .u32 (.cv .u32 (.cv .i32 (.cv .u32 (.var 0)))) (.num 8))), .sym .u8 (.cv .u8 (.bop .shr .u32 (.cv .u32 (.cv .i32 (.cv .u32 (.var 0)))) (.num 16))), .sym .u8 (.cv .u8 (.bop .shr .u32 (.cv .u32 (.cv .i32 (.cv .u32 (.var 0)))) (.num 24))), .int .u8 13, .int .u8 0, .int .u8 0, .int .u8 0, .int .u8 4, .int .u8 0, .int .u8 0, .int .u8 0, .int .u8 12, .int .u8 0, .int .u8 0, .int .u8 0, .int .u8 0, .int .u8 0, .int .u8 0, .int .u8 0, .int .u8 10, .int .u8 0, .int .u8 0, .int .u8 0, .int .u8 0, .int .u8 0, .int .u8 0, .int .u8 0, .int .u8 11, .int .u8 0, .int .u8 0, .int .u8 0, .int .u8 0, .int .u8 0, .int .u8 0, .int .u8 0, .int .u8 1, .int .u8 0, .int .u8 0, .int .u8 0, .int .u8 1, .int .u8 0, .int .u8 0, .int .u8 0, .int .u8 13, .int .u8 0, .int .u8 0, .int .u8 0, .int .u8 2, .int .u8 0, .int .u8 0, .int .u8 0, .int .u8 7, .int .u8 0, .int .u8 0, .int .u8 0, .int .u8 20, .int .u8 0, .int .u8 0, .int .u8 0, .int .u8 12, .int .u8 0, .int .u8 0, .int .u8 0, .int .u8 0, .int .u8 0, .int .u8 0, .int .u8 0, .int .u8 10, .int .u8 0, .int .u8 0, .int .u8 0, .int .u8 0, .int .u8 0, .int .u8 0, .int .u8 0]),
  (4651, 0, [.ref 4565 21 0 176 none, .ref 4265 2 0 3 (some 6), .nils])],
  [] ⟩
theorem eb7_e : chkM e1T (runR Tryz.prog pvZ (codeT tabL) (ovA ovL []) 200) eb7 = true := by kernel_rfl
theorem eb7_ok : MemoOK Tryz.prog e1T eb7 := chkM_ok (run_ok (ms := []) trivial) eb7_e
end Go.Proofs.YtklmiejnopdabaaGreatDoor
