/- The code of the functions that are met, resolved; the kernel holds each against the program's own text. Printed by a program. -/
import Derived.Test.YtjgdppgagihejaaWlY2
import Derived.Test.YtjgdppgagihejaaRows
namespace Go.Proofs.Ytjgdppgagihejaa
open Go Go.Ab Go.RowKit
set_option maxRecDepth 100000
set_option linter.unusedVariables false
def fc3 : FC := (.seq (.reg [⟨(some 6), none, .op (.mv (.v (.bool false)))⟩] [])
  (.seq (.seq (.reg [⟨(some 14), none, .call 10 []⟩,
  ⟨(some 15), none, .op (.un .not (.t 14))⟩] [])
  (.cond (.t 15)
  (.seq (.reg [⟨(some 6), none, .op (.mv (.v (.bool false)))⟩] [])
  .ret)
  .skip))
  (.seq (.reg [⟨(some 16), none, .op (.mv (.t 0))⟩,
  ⟨(some 17), none, .op (.cint .u64 (.t 16))⟩,
  ⟨(some 18), none, .op (.bin .none .rem (.t 17) (.v (.int .u64 16)))⟩,
  ⟨(some 19), none, .op (.cint .i64 (.t 18))⟩,
  ⟨(some 7), none, .op (.mv (.t 19))⟩] [])
  (.seq (.reg [⟨(some 20), none, .op (.mksl none 1 [(.int .u8 0)] (.v (.int .i64 16)) (.v (.int .i64 16)))⟩,
  ⟨(some 21), none, .op (.build [.nils, .nils, (.int .i64 0), .nils, (.bool false), (.int .i64 0), .nils, (.int .i64 0)] [(1, 1, (.t 20)), (5, 1, (.v (.int .i64 (-1)))), (4, 1, (.v (.bool true)))])⟩,
  ⟨(some 8), none, .op (.new [.nils, .nils, (.int .i64 0), .nils, (.bool false), (.int .i64 0), .nils, (.int .i64 0)])⟩,
  ⟨none, none, .op (.store 8 (.t 8) (.t 21))⟩] [])
  (.seq (.seq (.reg [⟨(some 22), none, .op (.mv (.v (.int .i64 0)))⟩] [])
  (.block 0 (.loop (.seq (.reg [⟨(some 23), none, .op (.bin .none .lss (.t 22) (.v (.int .i64 16)))⟩] [])
  (.seq (.cond (.t 23)
  .skip
  (.exit 0))
  (.seq (.block 1 (.seq (.reg [⟨(some 24), none, .op (.mv (.t 22))⟩,
  ⟨(some 9), none, .op (.mv (.t 24))⟩] [])
  (.reg [⟨(some 25), none, .op (.fad 6 (.t 8))⟩,
  ⟨(some 26), none, .op (.load none (.t 25))⟩,
  ⟨(some 27), none, .op (.mv (.t 9))⟩,
  ⟨(some 28), none, .op (.mv (.t 2))⟩,
  ⟨(some 29), none, .op (.mv (.t 9))⟩,
  ⟨(some 30), none, .op (.bin .none .add (.t 29) (.v (.int .i64 1)))⟩,
  ⟨(some 31), none, .op (.build [(.int .u8 0), (.int .u8 0), (.int .i64 0), (.int .i64 0), (.int .i64 0), (.int .i64 0), (.int .i64 0), (.int .i64 0), (.int .u64 0), .nils, (.int .i64 0), (.int .i64 0)] [(0, 1, (.v (.int .u8 1))), (2, 1, (.t 27)), (8, 1, (.t 28)), (10, 1, (.t 30))])⟩,
  ⟨(some 32), none, .op (.bsl (some 12) [(.int .u8 0), (.int .u8 0), (.int .i64 0), (.int .i64 0), (.int .i64 0), (.int .i64 0), (.int .i64 0), (.int .i64 0), (.int .u64 0), .nils, (.int .i64 0), (.int .i64 0)] 1 [(0, 12, (.t 31))])⟩,
  ⟨(some 33), none, .op (.app (some 12) 104 (.t 26) (.t 32))⟩,
  ⟨(some 34), none, .op (.fad 6 (.t 8))⟩,
  ⟨none, none, .op (.store 1 (.t 34) (.t 33))⟩] [])))
  (.reg [⟨(some 35), none, .op (.bin .none .add (.t 22) (.v (.int .i64 1)))⟩,
  ⟨(some 22), none, .op (.mv (.t 35))⟩] [])))))))
  (.seq (.reg [⟨(some 36), none, .op (.fad 6 (.t 8))⟩,
  ⟨(some 37), none, .op (.load none (.t 36))⟩,
  ⟨(some 38), none, .op (.build [(.int .u8 0), (.int .u8 0), (.int .i64 0), (.int .i64 0), (.int .i64 0), (.int .i64 0), (.int .i64 0), (.int .i64 0), (.int .u64 0), .nils, (.int .i64 0), (.int .i64 0)] [(0, 1, (.v (.int .u8 12))), (4, 1, (.v (.int .i64 3)))])⟩,
  ⟨(some 39), none, .op (.bsl (some 12) [(.int .u8 0), (.int .u8 0), (.int .i64 0), (.int .i64 0), (.int .i64 0), (.int .i64 0), (.int .i64 0), (.int .i64 0), (.int .u64 0), .nils, (.int .i64 0), (.int .i64 0)] 1 [(0, 12, (.t 38))])⟩,
  ⟨(some 40), none, .op (.app (some 12) 104 (.t 37) (.t 39))⟩,
  ⟨(some 41), none, .op (.fad 6 (.t 8))⟩,
  ⟨none, none, .op (.store 1 (.t 41) (.t 40))⟩] [])
  (.seq (.reg [⟨(some 42), none, .op (.mksl none 1 [(.int .u8 0)] (.v (.int .i64 16)) (.v (.int .i64 16)))⟩,
  ⟨(some 43), none, .op (.mv (.t 7))⟩,
  ⟨(some 44), none, .op (.mv (.t 1))⟩,
  ⟨(some 45), none, .op (.build [(.int .u8 0), (.int .u8 0), (.int .i64 0), (.int .i64 0), (.int .i64 0), (.int .i64 0), (.int .i64 0), (.int .i64 0), (.int .u64 0), .nils, (.int .i64 0), (.int .i64 0)] [(0, 1, (.v (.int .u8 1))), (2, 1, (.t 43)), (8, 1, (.t 44)), (10, 1, (.v (.int .i64 1)))])⟩,
  ⟨(some 46), none, .op (.build [(.int .u8 0), (.int .u8 0), (.int .i64 0), (.int .i64 0), (.int .i64 0), (.int .i64 0), (.int .i64 0), (.int .i64 0), (.int .u64 0), .nils, (.int .i64 0), (.int .i64 0)] [(0, 1, (.v (.int .u8 11))), (6, 1, (.v (.int .i64 1))), (2, 1, (.v (.int .i64 0))), (10, 1, (.v (.int .i64 2)))])⟩,
  ⟨(some 47), none, .op (.mv (.t 7))⟩,
  ⟨(some 48), none, .op (.build [(.int .u8 0), (.int .u8 0), (.int .i64 0), (.int .i64 0), (.int .i64 0), (.int .i64 0), (.int .i64 0), (.int .i64 0), (.int .u64 0), .nils, (.int .i64 0), (.int .i64 0)] [(0, 1, (.v (.int .u8 18))), (4, 1, (.t 47))])⟩,
  ⟨(some 49), none, .op (.bsl (some 12) [(.int .u8 0), (.int .u8 0), (.int .i64 0), (.int .i64 0), (.int .i64 0), (.int .i64 0), (.int .i64 0), (.int .i64 0), (.int .u64 0), .nils, (.int .i64 0), (.int .i64 0)] 3 [(0, 12, (.t 45)), (12, 12, (.t 46)), (24, 12, (.t 48))])⟩,
  ⟨(some 50), none, .op (.build [.nils, .nils, (.int .i64 0), .nils, (.bool false), (.int .i64 0), .nils, (.int .i64 0)] [(1, 1, (.t 42)), (5, 1, (.v (.int .i64 (-1)))), (6, 1, (.t 49))])⟩,
  ⟨(some 10), none, .op (.new [.nils, .nils, (.int .i64 0), .nils, (.bool false), (.int .i64 0), .nils, (.int .i64 0)])⟩,
  ⟨none, none, .op (.store 8 (.t 10) (.t 50))⟩] [])
  (.seq (.reg [⟨(some 52), none, .op (.load (some 8) (.t 10))⟩,
  ⟨(some 53), none, .op (.load (some 8) (.t 8))⟩,
  ⟨(some 54), none, .op (.bsl (some 8) [.nils, .nils, (.int .i64 0), .nils, (.bool false), (.int .i64 0), .nils, (.int .i64 0)] 2 [(0, 8, (.t 52)), (8, 8, (.t 53))])⟩,
  ⟨(some 55), none, .op (.build [.nils] [(0, 1, (.t 54))])⟩,
  ⟨(some 56), none, .call 11 [(.t 55), (.v (.bool true)), (.v .nils), (.v (.int .i64 100))]⟩,
  ⟨(some 51), none, .op (.mv (.t 56))⟩,
  ⟨(some 57), none, .op (.ext 0 (.t 51))⟩,
  ⟨(some 58), none, .op (.ext 1 (.t 51))⟩,
  ⟨(some 11), none, .op (.new [.nils, (.int .i64 0), (.int .u64 0), (.int .i64 0), (.int .i64 0), (.int .i64 0), (.int .i64 0)])⟩,
  ⟨none, none, .op (.store 7 (.t 11) (.t 57))⟩,
  ⟨(some 12), none, .op (.mv (.t 58))⟩] [])
  (.seq (.reg [⟨(some 13), none, .op (.mv (.v (.int .u64 6510615555426900570)))⟩] [])
  (.seq (.seq (.reg [⟨(some 59), none, .op (.mv (.t 7))⟩,
  ⟨(some 60), none, .op (.bin .none .eql (.t 59) (.v (.int .i64 0)))⟩] [])
  (.cond (.t 60)
  (.reg [⟨(some 61), none, .op (.mv (.t 2))⟩,
  ⟨(some 13), none, .op (.mv (.t 61))⟩] [])
  (.seq (.reg [⟨(some 62), none, .op (.mv (.t 7))⟩,
  ⟨(some 63), none, .op (.bin .none .geq (.t 62) (.v (.int .i64 6)))⟩,
  ⟨(some 64), none, .op (.mv (.t 63))⟩,
  ⟨(some 65), some (64, true), .op (.mv (.t 7))⟩,
  ⟨(some 66), some (64, true), .op (.bin .none .leq (.t 65) (.v (.int .i64 11)))⟩,
  ⟨(some 67), none, .op (.pick (.t 64) (.t 66) (.v (.bool false)))⟩] [])
  (.cond (.t 67)
  (.reg [⟨(some 68), none, .op (.mv (.t 1))⟩,
  ⟨(some 13), none, .op (.mv (.t 68))⟩] [])
  .skip))))
  (.seq (.reg [⟨(some 69), none, .op (.mv (.t 12))⟩,
  ⟨(some 70), none, .op (.bin .none .eql (.t 69) (.v (.int .i64 0)))⟩,
  ⟨(some 71), none, .op (.mv (.t 70))⟩,
  ⟨(some 72), some (71, true), .op (.fad 1 (.t 11))⟩,
  ⟨(some 73), some (71, true), .op (.load (some 2) (.t 72))⟩,
  ⟨(some 74), some (71, true), .op (.mv (.t 13))⟩,
  ⟨(some 75), some (71, true), .op (.build [(.int .i64 0), (.int .u64 0)] [(0, 1, (.v (.int .i64 1))), (1, 1, (.t 74))])⟩,
  ⟨(some 76), some (71, true), .op (.eqs [.int, .int] .eql (.t 73) (.t 75))⟩,
  ⟨(some 77), none, .op (.pick (.t 71) (.t 76) (.v (.bool false)))⟩,
  ⟨(some 6), none, .op (.mv (.t 77))⟩] [])
  .ret)))))))))))
theorem c3 : codeOf Try.prog 3 = some (78, [(6, none)], fc3) := by kernel_rfl
def fc10 : FC := (.seq (.reg [⟨(some 0), none, .op (.mv (.v (.bool false)))⟩] [])
  (.seq (.reg [⟨(some 4), none, .op (.bsl none [(.int .u8 0)] 1 [(0, 1, (.v (.int .u8 0)))])⟩,
  ⟨(some 5), none, .op (.build [(.int .u8 0), (.int .u8 0), (.int .i64 0), (.int .i64 0), (.int .i64 0), (.int .i64 0), (.int .i64 0), (.int .i64 0), (.int .u64 0), .nils, (.int .i64 0), (.int .i64 0)] [(0, 1, (.v (.int .u8 1))), (8, 1, (.v (.int .u64 7))), (10, 1, (.v (.int .i64 1)))])⟩,
  ⟨(some 6), none, .op (.build [(.int .u8 0), (.int .u8 0), (.int .i64 0), (.int .i64 0), (.int .i64 0), (.int .i64 0), (.int .i64 0), (.int .i64 0), (.int .u64 0), .nils, (.int .i64 0), (.int .i64 0)] [(0, 1, (.v (.int .u8 17))), (10, 1, (.v (.int .i64 2)))])⟩,
  ⟨(some 7), none, .op (.build [(.int .u8 0), (.int .u8 0), (.int .i64 0), (.int .i64 0), (.int .i64 0), (.int .i64 0), (.int .i64 0), (.int .i64 0), (.int .u64 0), .nils, (.int .i64 0), (.int .i64 0)] [(0, 1, (.v (.int .u8 12))), (4, 1, (.v (.int .i64 (-1))))])⟩,
  ⟨(some 8), none, .op (.bsl (some 12) [(.int .u8 0), (.int .u8 0), (.int .i64 0), (.int .i64 0), (.int .i64 0), (.int .i64 0), (.int .i64 0), (.int .i64 0), (.int .u64 0), .nils, (.int .i64 0), (.int .i64 0)] 3 [(0, 12, (.t 5)), (12, 12, (.t 6)), (24, 12, (.t 7))])⟩,
  ⟨(some 9), none, .op (.build [.nils, .nils, (.int .i64 0), .nils, (.bool false), (.int .i64 0), .nils, (.int .i64 0)] [(1, 1, (.t 4)), (5, 1, (.v (.int .i64 (-1)))), (6, 1, (.t 8))])⟩,
  ⟨(some 10), none, .op (.bsl (some 8) [.nils, .nils, (.int .i64 0), .nils, (.bool false), (.int .i64 0), .nils, (.int .i64 0)] 1 [(0, 8, (.t 9))])⟩,
  ⟨(some 11), none, .op (.build [.nils] [(0, 1, (.t 10))])⟩,
  ⟨(some 12), none, .call 11 [(.t 11), (.v (.bool false)), (.v .nils), (.v (.int .i64 10))]⟩,
  ⟨(some 3), none, .op (.mv (.t 12))⟩,
  ⟨(some 13), none, .op (.ext 0 (.t 3))⟩,
  ⟨(some 14), none, .op (.ext 1 (.t 3))⟩,
  ⟨(some 1), none, .op (.new [.nils, (.int .i64 0), (.int .u64 0), (.int .i64 0), (.int .i64 0), (.int .i64 0), (.int .i64 0)])⟩,
  ⟨none, none, .op (.store 7 (.t 1) (.t 13))⟩,
  ⟨(some 2), none, .op (.mv (.t 14))⟩] [])
  (.seq (.reg [⟨(some 15), none, .op (.mv (.t 2))⟩,
  ⟨(some 16), none, .op (.bin .none .eql (.t 15) (.v (.int .i64 0)))⟩,
  ⟨(some 17), none, .op (.mv (.t 16))⟩,
  ⟨(some 18), some (17, true), .op (.fad 1 (.t 1))⟩,
  ⟨(some 19), some (17, true), .op (.load (some 2) (.t 18))⟩,
  ⟨(some 20), some (17, true), .op (.build [(.int .i64 0), (.int .u64 0)] [(0, 1, (.v (.int .i64 1)))])⟩,
  ⟨(some 21), some (17, true), .op (.eqs [.int, .int] .eql (.t 19) (.t 20))⟩,
  ⟨(some 22), none, .op (.pick (.t 17) (.t 21) (.v (.bool false)))⟩,
  ⟨(some 23), none, .op (.mv (.t 22))⟩,
  ⟨(some 24), some (23, true), .op (.fad 0 (.t 1))⟩,
  ⟨(some 25), some (23, true), .op (.load none (.t 24))⟩,
  ⟨(some 26), some (23, true), .op (.len .sl (.t 25))⟩,
  ⟨(some 27), some (23, true), .op (.bin .none .eql (.t 26) (.v (.int .i64 1)))⟩,
  ⟨(some 28), none, .op (.pick (.t 23) (.t 27) (.v (.bool false)))⟩,
  ⟨(some 29), none, .op (.mv (.t 28))⟩,
  ⟨(some 30), some (29, true), .op (.fad 0 (.t 1))⟩,
  ⟨(some 31), some (29, true), .op (.load none (.t 30))⟩,
  ⟨(some 32), some (29, true), .op (.iad none (some 2) (.t 31) (.v (.int .i64 0)))⟩,
  ⟨(some 33), some (29, true), .op (.fad 1 (.t 32))⟩,
  ⟨(some 34), some (29, true), .op (.load none (.t 33))⟩,
  ⟨(some 35), some (29, true), .op (.bin .none .eql (.t 34) (.v (.int .u64 7)))⟩,
  ⟨(some 36), none, .op (.pick (.t 29) (.t 35) (.v (.bool false)))⟩,
  ⟨(some 37), none, .op (.mv (.t 36))⟩,
  ⟨(some 38), some (37, true), .op (.fad 3 (.t 1))⟩,
  ⟨(some 39), some (37, true), .op (.load none (.t 38))⟩,
  ⟨(some 40), some (37, true), .op (.bin .none .eql (.t 39) (.v (.int .i64 3)))⟩,
  ⟨(some 41), none, .op (.pick (.t 37) (.t 40) (.v (.bool false)))⟩,
  ⟨(some 0), none, .op (.mv (.t 41))⟩] [])
  .ret)))
theorem c10 : codeOf Try.prog 10 = some (42, [(0, none)], fc10) := by kernel_rfl
def fc11 : FC := (.seq (.reg [⟨(some 4), none, .op (.box (.t 0))⟩,
  ⟨(some 8), none, .op (.new [.nils, (.int .i64 0), (.int .u64 0), (.int .i64 0), (.int .i64 0), (.int .i64 0), (.int .i64 0)])⟩,
  ⟨(some 9), none, .op (.mv (.v (.int .i64 0)))⟩] [])
  (.seq (.seq (.reg [⟨(some 13), none, .op (.load (some 1) (.t 4))⟩,
  ⟨(some 14), none, .op (.mv (.t 1))⟩,
  ⟨(some 15), none, .call 18 [(.t 13), (.t 14)]⟩,
  ⟨(some 10), none, .op (.mv (.t 15))⟩] [])
  (.seq (.reg [⟨(some 16), none, .op (.mv (.t 10))⟩,
  ⟨(some 17), none, .op (.bin .none .neq (.t 16) (.v (.int .i64 0)))⟩] [])
  (.cond (.t 17)
  (.seq (.reg [⟨(some 18), none, .op (.build [.nils, (.int .i64 0), (.int .u64 0), (.int .i64 0), (.int .i64 0), (.int .i64 0), (.int .i64 0)] [])⟩,
  ⟨(some 19), none, .op (.mv (.t 10))⟩,
  ⟨none, none, .op (.store 7 (.t 8) (.t 18))⟩,
  ⟨(some 9), none, .op (.mv (.t 19))⟩] [])
  .ret)
  .skip)))
  (.seq (.seq (.reg [⟨(some 20), none, .op (.mv (.t 3))⟩,
  ⟨(some 21), none, .op (.bin .none .lss (.t 20) (.v (.int .i64 0)))⟩,
  ⟨(some 22), none, .op (.mv (.t 21))⟩,
  ⟨(some 23), some (22, false), .op (.mv (.t 3))⟩,
  ⟨(some 24), some (22, false), .op (.bin .none .gtr (.t 23) (.v (.int .i64 1048576)))⟩,
  ⟨(some 25), none, .op (.pick (.t 22) (.v (.bool true)) (.t 24))⟩] [])
  (.cond (.t 25)
  (.seq (.reg [⟨(some 26), none, .op (.build [.nils, (.int .i64 0), (.int .u64 0), (.int .i64 0), (.int .i64 0), (.int .i64 0), (.int .i64 0)] [])⟩,
  ⟨none, none, .op (.store 7 (.t 8) (.t 26))⟩,
  ⟨(some 9), none, .op (.mv (.v (.int .i64 2)))⟩] [])
  .ret)
  .skip))
  (.seq (.reg [⟨(some 27), none, .op (.fad 0 (.t 4))⟩,
  ⟨(some 28), none, .op (.load none (.t 27))⟩,
  ⟨(some 29), none, .op (.mv (.t 1))⟩,
  ⟨(some 30), none, .op (.build [.nils, (.bool false), (.int .u64 0), (.int .u64 0), (.int .u64 0), (.int .u64 0), (.int .u64 0), (.int .u64 0), (.int .u64 0), (.int .u64 0), (.int .u64 0), (.int .u64 0), (.int .u64 0), (.int .u64 0), (.int .u64 0), (.int .u64 0), (.int .u64 0), (.int .u64 0)] [(0, 1, (.t 28)), (1, 1, (.t 29))])⟩,
  ⟨(some 31), none, .op (.box (.t 30))⟩,
  ⟨(some 11), none, .op (.mv (.t 31))⟩] [])
  (.seq (.reg [⟨(some 32), none, .op (.mv (.t 2))⟩,
  ⟨(some 33), none, .call 19 [(.t 32)]⟩,
  ⟨(some 34), none, .op (.mv (.t 11))⟩,
  ⟨(some 35), none, .op (.mkf (.func 20) [(.t 34)] [])⟩,
  ⟨(some 36), none, .op (.build [.nilp, .nilf, (.int .i64 0), (.int .u64 0), (.int .i64 0), (.int .i64 0), (.int .i64 0), (.int .i64 0), .nils, .nils, (.int .i64 0)] [(0, 1, (.t 33)), (1, 1, (.t 35))])⟩,
  ⟨(some 37), none, .op (.box (.t 36))⟩,
  ⟨(some 12), none, .op (.mv (.t 37))⟩] [])
  (.seq (.reg [⟨(some 38), none, .op (.mv (.t 12))⟩,
  ⟨(some 39), none, .op (.mv (.t 3))⟩,
  ⟨(some 40), none, .call 21 [(.t 38), (.t 39)]⟩] [])
  (.seq (.reg [⟨(some 41), none, .op (.mv (.t 12))⟩,
  ⟨(some 42), none, .op (.nchk (.t 41))⟩,
  ⟨(some 43), none, .op (.fad 0 (.t 42))⟩,
  ⟨(some 44), none, .op (.load none (.t 43))⟩,
  ⟨(some 45), none, .call 22 [(.t 44)]⟩,
  ⟨(some 46), none, .op (.mv (.t 12))⟩,
  ⟨(some 47), none, .op (.nchk (.t 46))⟩,
  ⟨(some 48), none, .op (.fad 2 (.t 47))⟩,
  ⟨(some 49), none, .op (.load (some 2) (.t 48))⟩,
  ⟨(some 50), none, .op (.mv (.t 12))⟩,
  ⟨(some 51), none, .op (.nchk (.t 50))⟩,
  ⟨(some 52), none, .op (.fad 4 (.t 51))⟩,
  ⟨(some 53), none, .op (.load none (.t 52))⟩,
  ⟨(some 54), none, .op (.mv (.t 12))⟩,
  ⟨(some 55), none, .op (.nchk (.t 54))⟩,
  ⟨(some 56), none, .op (.fad 5 (.t 55))⟩,
  ⟨(some 57), none, .op (.load none (.t 56))⟩,
  ⟨(some 58), none, .op (.mv (.t 12))⟩,
  ⟨(some 59), none, .op (.nchk (.t 58))⟩,
  ⟨(some 60), none, .op (.fad 6 (.t 59))⟩,
  ⟨(some 61), none, .op (.load none (.t 60))⟩,
  ⟨(some 62), none, .op (.mv (.t 12))⟩,
  ⟨(some 63), none, .op (.nchk (.t 62))⟩,
  ⟨(some 64), none, .op (.fad 7 (.t 63))⟩,
  ⟨(some 65), none, .op (.load none (.t 64))⟩,
  ⟨(some 66), none, .op (.build [.nils, (.int .i64 0), (.int .u64 0), (.int .i64 0), (.int .i64 0), (.int .i64 0), (.int .i64 0)] [(0, 1, (.t 45)), (1, 2, (.t 49)), (3, 1, (.t 53)), (4, 1, (.t 57)), (5, 1, (.t 61)), (6, 1, (.t 65))])⟩,
  ⟨none, none, .op (.store 7 (.t 8) (.t 66))⟩,
  ⟨(some 9), none, .op (.mv (.v (.int .i64 0)))⟩] [(4, 8), (4, 12), (4, 16), (4, 20), (4, 24)])
  .ret)))))))
theorem c11 : codeOf Try.prog 11 = some (67, [(8, (some (some 7))), (9, none)], fc11) := by kernel_rfl
def fc18 : FC := (.seq (.reg [⟨(some 2), none, .op (.box (.t 0))⟩,
  ⟨(some 4), none, .op (.mv (.v (.int .i64 0)))⟩] [])
  (.seq (.seq (.reg [⟨(some 10), none, .op (.fad 0 (.t 2))⟩,
  ⟨(some 11), none, .op (.load none (.t 10))⟩,
  ⟨(some 12), none, .op (.len .sl (.t 11))⟩,
  ⟨(some 13), none, .op (.bin .none .eql (.t 12) (.v (.int .i64 0)))⟩,
  ⟨(some 14), none, .op (.mv (.t 13))⟩,
  ⟨(some 15), some (14, false), .op (.fad 0 (.t 2))⟩,
  ⟨(some 16), some (14, false), .op (.load none (.t 15))⟩,
  ⟨(some 17), some (14, false), .op (.len .sl (.t 16))⟩,
  ⟨(some 18), some (14, false), .op (.bin .none .gtr (.t 17) (.v (.int .i64 16)))⟩,
  ⟨(some 19), none, .op (.pick (.t 14) (.v (.bool true)) (.t 18))⟩,
  ⟨(some 20), none, .op (.mv (.t 19))⟩,
  ⟨(some 21), some (20, false), .op (.fad 0 (.t 2))⟩,
  ⟨(some 22), some (20, false), .op (.load none (.t 21))⟩,
  ⟨(some 23), some (20, false), .op (.iad none (some 8) (.t 22) (.v (.int .i64 0)))⟩,
  ⟨(some 24), some (20, false), .op (.fad 0 (.t 23))⟩,
  ⟨(some 25), some (20, false), .op (.load none (.t 24))⟩,
  ⟨(some 26), some (20, false), .op (.len .sl (.t 25))⟩,
  ⟨(some 27), some (20, false), .op (.bin .none .gtr (.t 26) (.v (.int .i64 0)))⟩,
  ⟨(some 28), none, .op (.pick (.t 20) (.v (.bool true)) (.t 27))⟩,
  ⟨(some 29), none, .op (.mv (.t 28))⟩,
  ⟨(some 30), some (29, false), .op (.fad 0 (.t 2))⟩,
  ⟨(some 31), some (29, false), .op (.load none (.t 30))⟩,
  ⟨(some 32), some (29, false), .op (.iad none (some 8) (.t 31) (.v (.int .i64 0)))⟩,
  ⟨(some 33), some (29, false), .op (.fad 4 (.t 32))⟩,
  ⟨(some 34), some (29, false), .op (.load none (.t 33))⟩,
  ⟨(some 35), none, .op (.pick (.t 29) (.v (.bool true)) (.t 34))⟩] [])
  (.cond (.t 35)
  (.seq (.reg [⟨(some 4), none, .op (.mv (.v (.int .i64 70)))⟩] [])
  .ret)
  .skip))
  (.seq (.seq (.reg [⟨(some 36), none, .op (.fad 0 (.t 2))⟩,
  ⟨(some 37), none, .op (.load none (.t 36))⟩,
  ⟨(some 38), none, .op (.len .sl (.t 37))⟩,
  ⟨(some 39), none, .op (.mv (.v (.int .i64 0)))⟩] [])
  (.block 0 (.loop (.seq (.reg [⟨(some 40), none, .op (.bin .none .lss (.t 39) (.t 38))⟩] [])
  (.seq (.cond (.t 40)
  .skip
  (.exit 0))
  (.seq (.block 1 (.seq (.reg [⟨(some 41), none, .op (.mv (.t 39))⟩,
  ⟨(some 5), none, .op (.mv (.t 41))⟩] [])
  (.seq (.reg [⟨(some 42), none, .op (.fad 0 (.t 2))⟩,
  ⟨(some 43), none, .op (.load none (.t 42))⟩,
  ⟨(some 44), none, .op (.fad 0 (.t 2))⟩,
  ⟨(some 45), none, .op (.load none (.t 44))⟩,
  ⟨(some 46), none, .op (.mv (.t 5))⟩,
  ⟨(some 47), none, .op (.iad none (some 8) (.t 45) (.t 46))⟩,
  ⟨(some 48), none, .op (.mv (.t 1))⟩,
  ⟨(some 49), none, .op (.build [.nils, .nilp, (.bool false)] [(0, 1, (.t 43)), (1, 1, (.t 47)), (2, 1, (.t 48))])⟩,
  ⟨(some 50), none, .op (.box (.t 49))⟩,
  ⟨(some 51), none, .call 31 [(.t 50)]⟩,
  ⟨(some 52), none, .op (.un .not (.t 51))⟩] [])
  (.cond (.t 52)
  (.seq (.reg [⟨(some 4), none, .op (.mv (.v (.int .i64 70)))⟩] [])
  .ret)
  .skip))))
  (.reg [⟨(some 53), none, .op (.bin .none .add (.t 39) (.v (.int .i64 1)))⟩,
  ⟨(some 39), none, .op (.mv (.t 53))⟩] [])))))))
  (.seq (.seq (.reg [⟨(some 54), none, .op (.fad 0 (.t 2))⟩,
  ⟨(some 55), none, .op (.load none (.t 54))⟩,
  ⟨(some 56), none, .op (.len .sl (.t 55))⟩,
  ⟨(some 57), none, .op (.mv (.v (.int .i64 0)))⟩] [])
  (.block 2 (.loop (.seq (.reg [⟨(some 58), none, .op (.bin .none .lss (.t 57) (.t 56))⟩] [])
  (.seq (.cond (.t 58)
  .skip
  (.exit 2))
  (.seq (.block 3 (.seq (.reg [⟨(some 59), none, .op (.mv (.t 57))⟩,
  ⟨(some 6), none, .op (.mv (.t 59))⟩] [])
  (.seq (.reg [⟨(some 60), none, .op (.fad 0 (.t 2))⟩,
  ⟨(some 61), none, .op (.load none (.t 60))⟩,
  ⟨(some 62), none, .op (.fad 0 (.t 2))⟩,
  ⟨(some 63), none, .op (.load none (.t 62))⟩,
  ⟨(some 64), none, .op (.mv (.t 6))⟩,
  ⟨(some 65), none, .op (.iad none (some 8) (.t 63) (.t 64))⟩,
  ⟨(some 66), none, .op (.mv (.t 1))⟩,
  ⟨(some 67), none, .op (.build [.nils, .nilp, (.bool false)] [(0, 1, (.t 61)), (1, 1, (.t 65)), (2, 1, (.t 66))])⟩,
  ⟨(some 68), none, .op (.box (.t 67))⟩,
  ⟨(some 7), none, .op (.mv (.t 68))⟩] [])
  (.seq (.reg [⟨(some 69), none, .op (.mv (.t 7))⟩,
  ⟨(some 70), none, .op (.nchk (.t 69))⟩,
  ⟨(some 71), none, .op (.fad 1 (.t 70))⟩,
  ⟨(some 72), none, .op (.load none (.t 71))⟩,
  ⟨(some 73), none, .op (.nchk (.t 72))⟩,
  ⟨(some 74), none, .op (.fad 6 (.t 73))⟩,
  ⟨(some 75), none, .op (.load none (.t 74))⟩,
  ⟨(some 76), none, .op (.len .sl (.t 75))⟩,
  ⟨(some 77), none, .op (.mv (.v (.int .i64 0)))⟩] [])
  (.block 4 (.loop (.seq (.reg [⟨(some 78), none, .op (.bin .none .lss (.t 77) (.t 76))⟩] [])
  (.seq (.cond (.t 78)
  .skip
  (.exit 4))
  (.seq (.block 5 (.seq (.reg [⟨(some 79), none, .op (.iad none (some 12) (.t 75) (.t 77))⟩,
  ⟨(some 80), none, .op (.load (some 12) (.t 79))⟩,
  ⟨(some 9), none, .op (.new [(.int .u8 0), (.int .u8 0), (.int .i64 0), (.int .i64 0), (.int .i64 0), (.int .i64 0), (.int .i64 0), (.int .i64 0), (.int .u64 0), .nils, (.int .i64 0), (.int .i64 0)])⟩,
  ⟨none, none, .op (.store 12 (.t 9) (.t 80))⟩] [])
  (.seq (.reg [⟨(some 81), none, .op (.mv (.t 7))⟩,
  ⟨(some 82), none, .op (.load (some 12) (.t 9))⟩,
  ⟨(some 83), none, .call 32 [(.t 81), (.t 82)]⟩,
  ⟨(some 84), none, .op (.un .not (.t 83))⟩] [])
  (.cond (.t 84)
  (.seq (.reg [⟨(some 4), none, .op (.mv (.v (.int .i64 70)))⟩] [])
  .ret)
  .skip))))
  (.reg [⟨(some 85), none, .op (.bin .none .add (.t 77) (.v (.int .i64 1)))⟩,
  ⟨(some 77), none, .op (.mv (.t 85))⟩] []))))))))))
  (.reg [⟨(some 86), none, .op (.bin .none .add (.t 57) (.v (.int .i64 1)))⟩,
  ⟨(some 57), none, .op (.mv (.t 86))⟩] [])))))))
  (.seq (.reg [⟨(some 4), none, .op (.mv (.v (.int .i64 0)))⟩] [])
  .ret)))))
theorem c18 : codeOf Try.prog 18 = some (87, [(4, none)], fc18) := by kernel_rfl
def fc19 : FC := (.seq (.reg [⟨(some 2), none, .op (.mv (.v .nilp))⟩] [])
  (.seq (.reg [⟨(some 3), none, .op (.mv (.t 0))⟩,
  ⟨(some 4), none, .call 33 [(.t 3)]⟩,
  ⟨(some 5), none, .op (.build [.nils, .nils] [(0, 1, (.t 4))])⟩,
  ⟨(some 6), none, .op (.box (.t 5))⟩,
  ⟨(some 2), none, .op (.mv (.t 6))⟩] [])
  .ret))
theorem c19 : codeOf Try.prog 19 = some (7, [(2, none)], fc19) := by kernel_rfl
def fc20 : FC := (.seq (.reg [⟨(some 8), none, .op (.mv (.v .nili))⟩] [])
  (.seq (.reg [⟨(some 14), none, .op (.mv (.t 0))⟩,
  ⟨(some 15), none, .op (.nchk (.t 14))⟩,
  ⟨(some 16), none, .op (.fad 0 (.t 15))⟩,
  ⟨(some 17), none, .op (.load none (.t 16))⟩,
  ⟨(some 18), none, .op (.mv (.t 2))⟩,
  ⟨(some 19), none, .op (.iad none (some 8) (.t 17) (.t 18))⟩,
  ⟨(some 9), none, .op (.mv (.t 19))⟩] [])
  (.seq (.reg [⟨(some 20), none, .op (.mv (.t 0))⟩,
  ⟨(some 21), none, .op (.mv (.t 9))⟩,
  ⟨(some 22), none, .op (.mv (.t 9))⟩,
  ⟨(some 23), none, .op (.nchk (.t 22))⟩,
  ⟨(some 24), none, .op (.fad 1 (.t 23))⟩,
  ⟨(some 25), none, .op (.load none (.t 24))⟩,
  ⟨(some 26), none, .op (.len .sl (.t 25))⟩,
  ⟨(some 27), none, .op (.mksl none 8 [(.int .u64 0)] (.t 26) (.t 26))⟩,
  ⟨(some 28), none, .op (.mv (.t 9))⟩,
  ⟨(some 29), none, .op (.nchk (.t 28))⟩,
  ⟨(some 30), none, .op (.fad 2 (.t 29))⟩,
  ⟨(some 31), none, .op (.load none (.t 30))⟩,
  ⟨(some 32), none, .op (.mksl none 8 [(.int .u64 0)] (.t 31) (.t 31))⟩,
  ⟨(some 33), none, .op (.mv (.t 9))⟩,
  ⟨(some 34), none, .op (.nchk (.t 33))⟩,
  ⟨(some 35), none, .op (.fad 7 (.t 34))⟩,
  ⟨(some 36), none, .op (.load none (.t 35))⟩,
  ⟨(some 37), none, .op (.mv (.t 1))⟩,
  ⟨(some 38), none, .call 25 [(.t 37)]⟩,
  ⟨(some 39), none, .op (.bin .none .sub (.t 38) (.v (.int .i64 1)))⟩,
  ⟨(some 40), none, .op (.build [.nilp, .nilp, .nils, .nils, (.int .i64 0), (.int .i64 0), (.int .u64 0), (.int .u64 0), (.int .u64 0), (.int .u64 0), (.int .u64 0), (.int .u64 0), (.int .u64 0), (.int .u64 0), (.int .u64 0), (.int .u64 0), (.int .u64 0), (.int .u64 0), (.int .i64 0)] [(0, 1, (.t 20)), (1, 1, (.t 21)), (2, 1, (.t 27)), (3, 1, (.t 32)), (4, 1, (.t 36)), (18, 1, (.t 39))])⟩,
  ⟨(some 41), none, .op (.box (.t 40))⟩,
  ⟨(some 10), none, .op (.mv (.t 41))⟩] [(7, 11), (5, 12), (7, 12), (7, 16), (12, 16), (5, 18), (7, 18), (11, 18), (12, 18), (16, 18)])
  (.seq (.seq (.reg [⟨(some 42), none, .op (.mv (.t 9))⟩,
  ⟨(some 43), none, .op (.nchk (.t 42))⟩,
  ⟨(some 44), none, .op (.fad 0 (.t 43))⟩,
  ⟨(some 45), none, .op (.load none (.t 44))⟩,
  ⟨(some 46), none, .op (.len .sl (.t 45))⟩,
  ⟨(some 47), none, .op (.mv (.v (.int .i64 0)))⟩] [])
  (.block 0 (.loop (.seq (.reg [⟨(some 48), none, .op (.bin .none .lss (.t 47) (.t 46))⟩] [])
  (.seq (.cond (.t 48)
  .skip
  (.exit 0))
  (.seq (.block 1 (.seq (.reg [⟨(some 49), none, .op (.mv (.t 47))⟩,
  ⟨(some 50), none, .op (.iad none none (.t 45) (.t 47))⟩,
  ⟨(some 51), none, .op (.load none (.t 50))⟩,
  ⟨(some 11), none, .op (.mv (.t 49))⟩,
  ⟨(some 12), none, .op (.mv (.t 51))⟩] [])
  (.seq (.reg [⟨(some 52), none, .op (.mv (.t 10))⟩,
  ⟨(some 53), none, .op (.mv (.t 12))⟩,
  ⟨(some 54), none, .op (.mv (.t 3))⟩,
  ⟨(some 55), none, .op (.mv (.t 11))⟩,
  ⟨(some 56), none, .op (.iad none none (.t 54) (.t 55))⟩,
  ⟨(some 57), none, .op (.load none (.t 56))⟩,
  ⟨(some 58), none, .call 34 [(.t 52), (.t 53), (.t 57)]⟩] [])
  (.seq (.reg [⟨(some 59), none, .op (.mv (.t 9))⟩,
  ⟨(some 60), none, .op (.nchk (.t 59))⟩,
  ⟨(some 61), none, .op (.fad 3 (.t 60))⟩,
  ⟨(some 62), none, .op (.load none (.t 61))⟩,
  ⟨(some 63), none, .op (.mv (.t 11))⟩,
  ⟨(some 64), none, .op (.iad none none (.t 62) (.t 63))⟩,
  ⟨(some 65), none, .op (.load none (.t 64))⟩,
  ⟨(some 13), none, .op (.mv (.t 65))⟩] [])
  (.seq (.reg [⟨(some 66), none, .op (.mv (.t 13))⟩,
  ⟨(some 67), none, .op (.bin .none .geq (.t 66) (.v (.int .i64 0)))⟩] [])
  (.cond (.t 67)
  (.reg [⟨(some 68), none, .op (.mv (.t 10))⟩,
  ⟨(some 69), none, .op (.nchk (.t 68))⟩,
  ⟨(some 70), none, .op (.fad 3 (.t 69))⟩,
  ⟨(some 71), none, .op (.load none (.t 70))⟩,
  ⟨(some 72), none, .op (.mv (.t 13))⟩,
  ⟨(some 73), none, .op (.mv (.t 3))⟩,
  ⟨(some 74), none, .op (.mv (.t 11))⟩,
  ⟨(some 75), none, .op (.iad none none (.t 73) (.t 74))⟩,
  ⟨(some 76), none, .op (.load none (.t 75))⟩,
  ⟨(some 77), none, .op (.iad none none (.t 71) (.t 72))⟩,
  ⟨none, none, .op (.store 1 (.t 77) (.t 76))⟩] [])
  .skip))))))
  (.reg [⟨(some 78), none, .op (.bin .none .add (.t 47) (.v (.int .i64 1)))⟩,
  ⟨(some 47), none, .op (.mv (.t 78))⟩] [])))))))
  (.seq (.reg [⟨(some 79), none, .op (.mv (.t 10))⟩,
  ⟨(some 80), none, .op (.mki 121 (.t 79))⟩,
  ⟨(some 8), none, .op (.mv (.t 80))⟩] [])
  .ret)))))
theorem c20 : codeOf Try.prog 20 = some (81, [(8, none)], fc20) := by kernel_rfl
def fc21 : FC := (.seq (.reg [⟨(some 4), none, .op (.mv (.t 0))⟩,
  ⟨(some 5), none, .call 35 [(.t 4), (.v (.int .i64 0)), (.v .nils)]⟩] [])
  (.block 0 (.loop (.seq (.seq (.reg [⟨(some 6), none, .op (.mv (.t 0))⟩,
  ⟨(some 7), none, .op (.nchk (.t 6))⟩,
  ⟨(some 8), none, .op (.fad 2 (.t 7))⟩,
  ⟨(some 9), none, .op (.fad 0 (.t 8))⟩,
  ⟨(some 10), none, .op (.load none (.t 9))⟩,
  ⟨(some 11), none, .op (.bin .none .eql (.t 10) (.v (.int .i64 0)))⟩] [])
  (.cond (.t 11)
  .skip
  (.exit 0)))
  (.block 1 (.seq (.seq (.reg [⟨(some 12), none, .op (.mv (.t 0))⟩,
  ⟨(some 13), none, .op (.nchk (.t 12))⟩,
  ⟨(some 14), none, .op (.fad 4 (.t 13))⟩,
  ⟨(some 15), none, .op (.load none (.t 14))⟩,
  ⟨(some 16), none, .op (.mv (.t 1))⟩,
  ⟨(some 17), none, .op (.bin .none .eql (.t 15) (.t 16))⟩] [])
  (.cond (.t 17)
  (.seq (.reg [⟨(some 18), none, .op (.mv (.t 0))⟩,
  ⟨(some 19), none, .op (.nchk (.t 18))⟩,
  ⟨(some 20), none, .op (.fad 2 (.t 19))⟩,
  ⟨(some 21), none, .op (.fad 0 (.t 20))⟩,
  ⟨none, none, .op (.store 1 (.t 21) (.v (.int .i64 3)))⟩] [])
  .ret)
  .skip))
  (.seq (.reg [⟨(some 22), none, .op (.mv (.t 0))⟩,
  ⟨(some 23), none, .op (.nchk (.t 22))⟩,
  ⟨(some 24), none, .op (.fad 4 (.t 23))⟩,
  ⟨(some 25), none, .op (.load none (.t 24))⟩,
  ⟨(some 26), none, .op (.bin .none .add (.t 25) (.v (.int .i64 1)))⟩,
  ⟨(some 27), none, .op (.nchk (.t 22))⟩,
  ⟨(some 28), none, .op (.fad 4 (.t 27))⟩,
  ⟨none, none, .op (.store 1 (.t 28) (.t 26))⟩] [])
  (.reg [⟨(some 29), none, .op (.mv (.t 0))⟩,
  ⟨(some 30), none, .op (.nchk (.t 29))⟩,
  ⟨(some 31), none, .op (.fad 8 (.t 30))⟩,
  ⟨(some 32), none, .op (.load none (.t 31))⟩,
  ⟨(some 33), none, .op (.mv (.t 0))⟩,
  ⟨(some 34), none, .op (.nchk (.t 33))⟩,
  ⟨(some 35), none, .op (.fad 8 (.t 34))⟩,
  ⟨(some 36), none, .op (.load none (.t 35))⟩,
  ⟨(some 37), none, .op (.len .sl (.t 36))⟩,
  ⟨(some 38), none, .op (.bin .none .sub (.t 37) (.v (.int .i64 1)))⟩,
  ⟨(some 39), none, .op (.iad none none (.t 32) (.t 38))⟩,
  ⟨(some 40), none, .op (.load none (.t 39))⟩,
  ⟨(some 41), none, .op (.nchk (.t 40))⟩,
  ⟨(some 42), none, .op (.fad 0 (.t 41))⟩,
  ⟨(some 43), none, .op (.load none (.t 42))⟩,
  ⟨(some 44), none, .op (.mv (.t 0))⟩,
  ⟨(some 45), none, .inv (.t 43) "Step" [(.t 44)]⟩] []))))))))
theorem c21 : codeOf Try.prog 21 = some (46, [], fc21) := by kernel_rfl
def fc22 : FC := (.seq (.reg [⟨(some 2), none, .op (.mv (.v .nils))⟩] [])
  (.seq (.seq (.reg [⟨(some 3), none, .op (.mv (.t 0))⟩,
  ⟨(some 4), none, .op (.bin .ptr .eql (.t 3) (.v .nilp))⟩] [])
  (.cond (.t 4)
  (.seq (.reg [⟨(some 2), none, .op (.mv (.v .nils))⟩] [])
  .ret)
  .skip))
  (.seq (.reg [⟨(some 5), none, .op (.mv (.t 0))⟩,
  ⟨(some 6), none, .op (.nchk (.t 5))⟩,
  ⟨(some 7), none, .op (.fad 1 (.t 6))⟩,
  ⟨(some 8), none, .op (.load none (.t 7))⟩,
  ⟨(some 9), none, .call 36 [(.t 8)]⟩,
  ⟨(some 2), none, .op (.mv (.t 9))⟩] [])
  .ret)))
theorem c22 : codeOf Try.prog 22 = some (10, [(2, none)], fc22) := by kernel_rfl
def fc31 : FC := (.seq (.reg [⟨(some 2), none, .op (.mv (.v (.bool false)))⟩] [])
  (.seq (.reg [⟨(some 7), none, .op (.mv (.t 0))⟩,
  ⟨(some 8), none, .op (.nchk (.t 7))⟩,
  ⟨(some 9), none, .op (.fad 1 (.t 8))⟩,
  ⟨(some 10), none, .op (.load none (.t 9))⟩,
  ⟨(some 3), none, .op (.mv (.t 10))⟩] [])
  (.seq (.seq (.reg [⟨(some 11), none, .op (.mv (.t 3))⟩,
  ⟨(some 12), none, .op (.nchk (.t 11))⟩,
  ⟨(some 13), none, .op (.fad 1 (.t 12))⟩,
  ⟨(some 14), none, .op (.load none (.t 13))⟩,
  ⟨(some 15), none, .op (.len .sl (.t 14))⟩,
  ⟨(some 16), none, .op (.bin .none .gtr (.t 15) (.v (.int .i64 1024)))⟩,
  ⟨(some 17), none, .op (.mv (.t 16))⟩,
  ⟨(some 18), some (17, false), .op (.mv (.t 0))⟩,
  ⟨(some 19), some (17, false), .op (.nchk (.t 18))⟩,
  ⟨(some 20), some (17, false), .op (.fad 2 (.t 19))⟩,
  ⟨(some 21), some (17, false), .op (.load none (.t 20))⟩,
  ⟨(some 22), some (17, false), .op (.mv (.t 21))⟩,
  ⟨(some 23), some (22, true), .op (.mv (.t 3))⟩,
  ⟨(some 24), some (22, true), .op (.nchk (.t 23))⟩,
  ⟨(some 25), some (22, true), .op (.fad 1 (.t 24))⟩,
  ⟨(some 26), some (22, true), .op (.load none (.t 25))⟩,
  ⟨(some 27), some (22, true), .op (.len .sl (.t 26))⟩,
  ⟨(some 28), some (22, true), .op (.bin .none .lss (.t 27) (.v (.int .i64 16)))⟩,
  ⟨(some 29), some (17, false), .op (.pick (.t 22) (.t 28) (.v (.bool false)))⟩,
  ⟨(some 30), none, .op (.pick (.t 17) (.v (.bool true)) (.t 29))⟩,
  ⟨(some 31), none, .op (.mv (.t 30))⟩,
  ⟨(some 32), some (31, false), .op (.mv (.t 3))⟩,
  ⟨(some 33), some (31, false), .op (.nchk (.t 32))⟩,
  ⟨(some 34), some (31, false), .op (.fad 1 (.t 33))⟩,
  ⟨(some 35), some (31, false), .op (.load none (.t 34))⟩,
  ⟨(some 36), some (31, false), .call 55 [(.t 35), (.v (.fn (.func 56) [] []))]⟩,
  ⟨(some 37), none, .op (.pick (.t 31) (.v (.bool true)) (.t 36))⟩] [])
  (.cond (.t 37)
  (.seq (.reg [⟨(some 2), none, .op (.mv (.v (.bool false)))⟩] [])
  .ret)
  .skip))
  (.seq (.seq (.reg [⟨(some 38), none, .op (.mv (.t 3))⟩,
  ⟨(some 39), none, .op (.nchk (.t 38))⟩,
  ⟨(some 40), none, .op (.fad 0 (.t 39))⟩,
  ⟨(some 41), none, .op (.load none (.t 40))⟩,
  ⟨(some 42), none, .op (.len .sl (.t 41))⟩,
  ⟨(some 43), none, .op (.bin .none .gtr (.t 42) (.v (.int .i64 4)))⟩,
  ⟨(some 44), none, .op (.mv (.t 43))⟩,
  ⟨(some 45), some (44, false), .op (.mv (.t 3))⟩,
  ⟨(some 46), some (44, false), .op (.nchk (.t 45))⟩,
  ⟨(some 47), some (44, false), .op (.fad 3 (.t 46))⟩,
  ⟨(some 48), some (44, false), .op (.load none (.t 47))⟩,
  ⟨(some 49), some (44, false), .op (.len .sl (.t 48))⟩,
  ⟨(some 50), some (44, false), .op (.mv (.t 3))⟩,
  ⟨(some 51), some (44, false), .op (.nchk (.t 50))⟩,
  ⟨(some 52), some (44, false), .op (.fad 0 (.t 51))⟩,
  ⟨(some 53), some (44, false), .op (.load none (.t 52))⟩,
  ⟨(some 54), some (44, false), .op (.len .sl (.t 53))⟩,
  ⟨(some 55), some (44, false), .op (.bin .none .neq (.t 49) (.t 54))⟩,
  ⟨(some 56), none, .op (.pick (.t 44) (.v (.bool true)) (.t 55))⟩,
  ⟨(some 57), none, .op (.mv (.t 56))⟩,
  ⟨(some 58), some (57, false), .op (.mv (.t 3))⟩,
  ⟨(some 59), some (57, false), .op (.nchk (.t 58))⟩,
  ⟨(some 60), some (57, false), .op (.fad 2 (.t 59))⟩,
  ⟨(some 61), some (57, false), .op (.load none (.t 60))⟩,
  ⟨(some 62), some (57, false), .op (.bin .none .lss (.t 61) (.v (.int .i64 0)))⟩,
  ⟨(some 63), none, .op (.pick (.t 57) (.v (.bool true)) (.t 62))⟩,
  ⟨(some 64), none, .op (.mv (.t 63))⟩,
  ⟨(some 65), some (64, false), .op (.mv (.t 3))⟩,
  ⟨(some 66), some (64, false), .op (.nchk (.t 65))⟩,
  ⟨(some 67), some (64, false), .op (.fad 2 (.t 66))⟩,
  ⟨(some 68), some (64, false), .op (.load none (.t 67))⟩,
  ⟨(some 69), some (64, false), .op (.bin .none .gtr (.t 68) (.v (.int .i64 64)))⟩,
  ⟨(some 70), none, .op (.pick (.t 64) (.v (.bool true)) (.t 69))⟩,
  ⟨(some 71), none, .op (.mv (.t 70))⟩,
  ⟨(some 72), some (71, false), .op (.mv (.t 3))⟩,
  ⟨(some 73), some (71, false), .op (.nchk (.t 72))⟩,
  ⟨(some 74), some (71, false), .op (.fad 5 (.t 73))⟩,
  ⟨(some 75), some (71, false), .op (.load none (.t 74))⟩,
  ⟨(some 76), some (71, false), .op (.bin .none .neq (.t 75) (.v (.int .i64 (-1))))⟩,
  ⟨(some 77), some (71, false), .op (.mv (.t 76))⟩,
  ⟨(some 78), some (77, true), .op (.mv (.t 0))⟩,
  ⟨(some 79), some (77, true), .op (.mv (.t 3))⟩,
  ⟨(some 80), some (77, true), .op (.nchk (.t 79))⟩,
  ⟨(some 81), some (77, true), .op (.fad 5 (.t 80))⟩,
  ⟨(some 82), some (77, true), .op (.load none (.t 81))⟩,
  ⟨(some 83), some (77, true), .call 57 [(.t 78), (.t 82)]⟩,
  ⟨(some 84), some (77, true), .op (.un .not (.t 83))⟩,
  ⟨(some 85), some (71, false), .op (.pick (.t 77) (.t 84) (.v (.bool false)))⟩,
  ⟨(some 86), none, .op (.pick (.t 71) (.v (.bool true)) (.t 85))⟩] [])
  (.cond (.t 86)
  (.seq (.reg [⟨(some 2), none, .op (.mv (.v (.bool false)))⟩] [])
  .ret)
  .skip))
  (.seq (.seq (.reg [⟨(some 87), none, .op (.mv (.t 3))⟩,
  ⟨(some 88), none, .op (.nchk (.t 87))⟩,
  ⟨(some 89), none, .op (.fad 0 (.t 88))⟩,
  ⟨(some 90), none, .op (.load none (.t 89))⟩,
  ⟨(some 91), none, .op (.len .sl (.t 90))⟩,
  ⟨(some 92), none, .op (.mv (.v (.int .i64 0)))⟩] [])
  (.block 0 (.loop (.seq (.reg [⟨(some 93), none, .op (.bin .none .lss (.t 92) (.t 91))⟩] [])
  (.seq (.cond (.t 93)
  .skip
  (.exit 0))
  (.seq (.block 1 (.seq (.reg [⟨(some 94), none, .op (.mv (.t 92))⟩,
  ⟨(some 95), none, .op (.iad none none (.t 90) (.t 92))⟩,
  ⟨(some 96), none, .op (.load none (.t 95))⟩,
  ⟨(some 4), none, .op (.mv (.t 94))⟩,
  ⟨(some 5), none, .op (.mv (.t 96))⟩] [])
  (.seq (.seq (.reg [⟨(some 97), none, .op (.mv (.t 5))⟩,
  ⟨(some 98), none, .op (.bin .none .lss (.t 97) (.v (.int .i64 0)))⟩,
  ⟨(some 99), none, .op (.mv (.t 98))⟩,
  ⟨(some 100), some (99, false), .op (.mv (.t 5))⟩,
  ⟨(some 101), some (99, false), .op (.mv (.t 3))⟩,
  ⟨(some 102), some (99, false), .op (.nchk (.t 101))⟩,
  ⟨(some 103), some (99, false), .op (.fad 1 (.t 102))⟩,
  ⟨(some 104), some (99, false), .op (.load none (.t 103))⟩,
  ⟨(some 105), some (99, false), .op (.len .sl (.t 104))⟩,
  ⟨(some 106), some (99, false), .op (.bin .none .geq (.t 100) (.t 105))⟩,
  ⟨(some 107), none, .op (.pick (.t 99) (.v (.bool true)) (.t 106))⟩,
  ⟨(some 108), none, .op (.mv (.t 107))⟩,
  ⟨(some 109), some (108, false), .op (.mv (.t 3))⟩,
  ⟨(some 110), some (108, false), .op (.nchk (.t 109))⟩,
  ⟨(some 111), some (108, false), .op (.fad 0 (.t 110))⟩,
  ⟨(some 112), some (108, false), .op (.load none (.t 111))⟩,
  ⟨(some 113), some (108, false), .op (.mv (.t 4))⟩,
  ⟨(some 114), some (108, false), .op (.slc none (.t 112) none (some (.t 113)) none)⟩,
  ⟨(some 115), some (108, false), .op (.mv (.t 5))⟩,
  ⟨(some 116), some (108, false), .call 58 [(.t 114), (.t 115)]⟩,
  ⟨(some 117), none, .op (.pick (.t 108) (.v (.bool true)) (.t 116))⟩,
  ⟨(some 118), none, .op (.mv (.t 117))⟩,
  ⟨(some 119), some (118, false), .op (.mv (.t 0))⟩,
  ⟨(some 120), some (118, false), .op (.nchk (.t 119))⟩,
  ⟨(some 121), some (118, false), .op (.fad 2 (.t 120))⟩,
  ⟨(some 122), some (118, false), .op (.load none (.t 121))⟩,
  ⟨(some 123), some (118, false), .op (.mv (.t 122))⟩,
  ⟨(some 124), some (123, true), .op (.mv (.t 5))⟩,
  ⟨(some 125), some (123, true), .op (.mv (.t 4))⟩,
  ⟨(some 126), some (123, true), .op (.bin .none .neq (.t 124) (.t 125))⟩,
  ⟨(some 127), some (118, false), .op (.pick (.t 123) (.t 126) (.v (.bool false)))⟩,
  ⟨(some 128), none, .op (.pick (.t 118) (.v (.bool true)) (.t 127))⟩] [])
  (.cond (.t 128)
  (.seq (.reg [⟨(some 2), none, .op (.mv (.v (.bool false)))⟩] [])
  .ret)
  .skip))
  (.seq (.reg [⟨(some 129), none, .op (.mv (.t 3))⟩,
  ⟨(some 130), none, .op (.nchk (.t 129))⟩,
  ⟨(some 131), none, .op (.fad 3 (.t 130))⟩,
  ⟨(some 132), none, .op (.load none (.t 131))⟩,
  ⟨(some 133), none, .op (.mv (.t 4))⟩,
  ⟨(some 134), none, .op (.iad none none (.t 132) (.t 133))⟩,
  ⟨(some 135), none, .op (.load none (.t 134))⟩,
  ⟨(some 6), none, .op (.mv (.t 135))⟩] [])
  (.seq (.reg [⟨(some 136), none, .op (.mv (.t 6))⟩,
  ⟨(some 137), none, .op (.bin .none .neq (.t 136) (.v (.int .i64 (-1))))⟩,
  ⟨(some 138), none, .op (.mv (.t 137))⟩,
  ⟨(some 139), some (138, true), .op (.mv (.t 0))⟩,
  ⟨(some 140), some (138, true), .op (.mv (.t 6))⟩,
  ⟨(some 141), some (138, true), .call 57 [(.t 139), (.t 140)]⟩,
  ⟨(some 142), some (138, true), .op (.un .not (.t 141))⟩,
  ⟨(some 143), some (138, true), .op (.mv (.t 142))⟩,
  ⟨(some 144), some (143, false), .op (.mv (.t 0))⟩,
  ⟨(some 145), some (143, false), .op (.mv (.t 5))⟩,
  ⟨(some 146), some (143, false), .op (.bsl none [(.int .i64 0)] 1 [(0, 1, (.t 145))])⟩,
  ⟨(some 147), some (143, false), .call 59 [(.t 144), (.v (.int .u8 0)), (.t 146)]⟩,
  ⟨(some 148), some (143, false), .op (.un .not (.t 147))⟩,
  ⟨(some 149), some (138, true), .op (.pick (.t 143) (.v (.bool true)) (.t 148))⟩,
  ⟨(some 150), none, .op (.pick (.t 138) (.t 149) (.v (.bool false)))⟩] [])
  (.cond (.t 150)
  (.seq (.reg [⟨(some 2), none, .op (.mv (.v (.bool false)))⟩] [])
  .ret)
  .skip))))))
  (.reg [⟨(some 151), none, .op (.bin .none .add (.t 92) (.v (.int .i64 1)))⟩,
  ⟨(some 92), none, .op (.mv (.t 151))⟩] [])))))))
  (.seq (.reg [⟨(some 152), none, .op (.mv (.t 3))⟩,
  ⟨(some 153), none, .op (.nchk (.t 152))⟩,
  ⟨(some 154), none, .op (.fad 6 (.t 153))⟩,
  ⟨(some 155), none, .op (.load none (.t 154))⟩,
  ⟨(some 156), none, .op (.len .sl (.t 155))⟩,
  ⟨(some 157), none, .op (.bin .none .gtr (.t 156) (.v (.int .i64 0)))⟩,
  ⟨(some 158), none, .op (.mv (.t 157))⟩,
  ⟨(some 159), some (158, true), .op (.mv (.t 3))⟩,
  ⟨(some 160), some (158, true), .op (.nchk (.t 159))⟩,
  ⟨(some 161), some (158, true), .op (.fad 6 (.t 160))⟩,
  ⟨(some 162), some (158, true), .op (.load none (.t 161))⟩,
  ⟨(some 163), some (158, true), .op (.len .sl (.t 162))⟩,
  ⟨(some 164), some (158, true), .op (.bin .none .leq (.t 163) (.v (.int .i64 4096)))⟩,
  ⟨(some 165), none, .op (.pick (.t 158) (.t 164) (.v (.bool false)))⟩,
  ⟨(some 166), none, .op (.mv (.t 165))⟩,
  ⟨(some 167), some (166, true), .op (.mv (.t 3))⟩,
  ⟨(some 168), some (166, true), .op (.nchk (.t 167))⟩,
  ⟨(some 169), some (166, true), .op (.fad 7 (.t 168))⟩,
  ⟨(some 170), some (166, true), .op (.load none (.t 169))⟩,
  ⟨(some 171), some (166, true), .op (.bin .none .geq (.t 170) (.v (.int .i64 0)))⟩,
  ⟨(some 172), none, .op (.pick (.t 166) (.t 171) (.v (.bool false)))⟩,
  ⟨(some 173), none, .op (.mv (.t 172))⟩,
  ⟨(some 174), some (173, true), .op (.mv (.t 3))⟩,
  ⟨(some 175), some (173, true), .op (.nchk (.t 174))⟩,
  ⟨(some 176), some (173, true), .op (.fad 7 (.t 175))⟩,
  ⟨(some 177), some (173, true), .op (.load none (.t 176))⟩,
  ⟨(some 178), some (173, true), .op (.mv (.t 3))⟩,
  ⟨(some 179), some (173, true), .op (.nchk (.t 178))⟩,
  ⟨(some 180), some (173, true), .op (.fad 6 (.t 179))⟩,
  ⟨(some 181), some (173, true), .op (.load none (.t 180))⟩,
  ⟨(some 182), some (173, true), .op (.len .sl (.t 181))⟩,
  ⟨(some 183), some (173, true), .op (.bin .none .lss (.t 177) (.t 182))⟩,
  ⟨(some 184), none, .op (.pick (.t 173) (.t 183) (.v (.bool false)))⟩,
  ⟨(some 2), none, .op (.mv (.t 184))⟩] [])
  .ret))))))
theorem c31 : codeOf Try.prog 31 = some (185, [(2, none)], fc31) := by kernel_rfl
def fc32 : FC := (.seq (.reg [⟨(some 3), none, .op (.box (.t 1))⟩,
  ⟨(some 4), none, .op (.mv (.v (.bool false)))⟩] [])
  (.seq (.seq (.reg [⟨(some 7), none, .op (.load (some 12) (.t 3))⟩,
  ⟨(some 8), none, .call 60 [(.t 7)]⟩,
  ⟨(some 9), none, .op (.len .sl (.t 8))⟩,
  ⟨(some 10), none, .op (.mv (.v (.int .i64 0)))⟩] [])
  (.block 0 (.loop (.seq (.reg [⟨(some 11), none, .op (.bin .none .lss (.t 10) (.t 9))⟩] [])
  (.seq (.cond (.t 11)
  .skip
  (.exit 0))
  (.seq (.block 1 (.seq (.reg [⟨(some 12), none, .op (.iad none none (.t 8) (.t 10))⟩,
  ⟨(some 13), none, .op (.load none (.t 12))⟩,
  ⟨(some 6), none, .op (.mv (.t 13))⟩] [])
  (.seq (.reg [⟨(some 14), none, .op (.mv (.t 6))⟩,
  ⟨(some 15), none, .op (.bin .none .lss (.t 14) (.v (.int .i64 0)))⟩,
  ⟨(some 16), none, .op (.mv (.t 15))⟩,
  ⟨(some 17), some (16, false), .op (.mv (.t 6))⟩,
  ⟨(some 18), some (16, false), .op (.mv (.t 0))⟩,
  ⟨(some 19), some (16, false), .op (.nchk (.t 18))⟩,
  ⟨(some 20), some (16, false), .op (.fad 1 (.t 19))⟩,
  ⟨(some 21), some (16, false), .op (.load none (.t 20))⟩,
  ⟨(some 22), some (16, false), .op (.nchk (.t 21))⟩,
  ⟨(some 23), some (16, false), .op (.fad 6 (.t 22))⟩,
  ⟨(some 24), some (16, false), .op (.load none (.t 23))⟩,
  ⟨(some 25), some (16, false), .op (.len .sl (.t 24))⟩,
  ⟨(some 26), some (16, false), .op (.bin .none .geq (.t 17) (.t 25))⟩,
  ⟨(some 27), none, .op (.pick (.t 16) (.v (.bool true)) (.t 26))⟩] [])
  (.cond (.t 27)
  (.seq (.reg [⟨(some 4), none, .op (.mv (.v (.bool false)))⟩] [])
  .ret)
  .skip))))
  (.reg [⟨(some 28), none, .op (.bin .none .add (.t 10) (.v (.int .i64 1)))⟩,
  ⟨(some 10), none, .op (.mv (.t 28))⟩] [])))))))
  (.seq (.seq (.reg [⟨(some 29), none, .op (.fad 0 (.t 3))⟩,
  ⟨(some 30), none, .op (.load none (.t 29))⟩] [])
  (.block 2 (.seq (.seq (.reg [⟨(some 32), none, .op (.bin .none .eql (.t 30) (.v (.int .u8 1)))⟩,
  ⟨(some 31), none, .op (.mv (.t 32))⟩] [])
  (.cond (.t 31)
  .skip
  (.reg [⟨(some 33), none, .op (.bin .none .eql (.t 30) (.v (.int .u8 16)))⟩,
  ⟨(some 31), none, .op (.mv (.t 33))⟩] [])))
  (.cond (.t 31)
  (.seq (.reg [⟨(some 34), none, .op (.mv (.t 0))⟩,
  ⟨(some 35), none, .op (.fad 2 (.t 3))⟩,
  ⟨(some 36), none, .op (.load none (.t 35))⟩,
  ⟨(some 37), none, .op (.bsl none [(.int .i64 0)] 1 [(0, 1, (.t 36))])⟩,
  ⟨(some 38), none, .call 59 [(.t 34), (.v (.int .u8 0)), (.t 37)]⟩,
  ⟨(some 4), none, .op (.mv (.t 38))⟩] [])
  .ret)
  (.seq (.reg [⟨(some 40), none, .op (.bin .none .eql (.t 30) (.v (.int .u8 2)))⟩,
  ⟨(some 39), none, .op (.mv (.t 40))⟩] [])
  (.cond (.t 39)
  (.seq (.reg [⟨(some 41), none, .op (.mv (.t 0))⟩,
  ⟨(some 42), none, .op (.fad 2 (.t 3))⟩,
  ⟨(some 43), none, .op (.load none (.t 42))⟩,
  ⟨(some 44), none, .op (.fad 4 (.t 3))⟩,
  ⟨(some 45), none, .op (.load none (.t 44))⟩,
  ⟨(some 46), none, .op (.bsl none [(.int .i64 0)] 2 [(0, 1, (.t 43)), (1, 1, (.t 45))])⟩,
  ⟨(some 47), none, .call 59 [(.t 41), (.v (.int .u8 0)), (.t 46)]⟩,
  ⟨(some 48), none, .op (.mv (.t 47))⟩,
  ⟨(some 49), some (48, false), .op (.mv (.t 0))⟩,
  ⟨(some 50), some (48, false), .op (.fad 2 (.t 3))⟩,
  ⟨(some 51), some (48, false), .op (.load none (.t 50))⟩,
  ⟨(some 52), some (48, false), .op (.fad 4 (.t 3))⟩,
  ⟨(some 53), some (48, false), .op (.load none (.t 52))⟩,
  ⟨(some 54), some (48, false), .op (.bsl none [(.int .i64 0)] 2 [(0, 1, (.t 51)), (1, 1, (.t 53))])⟩,
  ⟨(some 55), some (48, false), .call 59 [(.t 49), (.v (.int .u8 1)), (.t 54)]⟩,
  ⟨(some 56), none, .op (.pick (.t 48) (.v (.bool true)) (.t 55))⟩,
  ⟨(some 4), none, .op (.mv (.t 56))⟩] [])
  .ret)
  (.seq (.reg [⟨(some 58), none, .op (.bin .none .eql (.t 30) (.v (.int .u8 3)))⟩,
  ⟨(some 57), none, .op (.mv (.t 58))⟩] [])
  (.cond (.t 57)
  (.seq (.reg [⟨(some 59), none, .op (.fad 1 (.t 3))⟩,
  ⟨(some 60), none, .op (.load none (.t 59))⟩,
  ⟨(some 61), none, .op (.bin .none .geq (.t 60) (.v (.int .u8 7)))⟩,
  ⟨(some 62), none, .op (.mv (.t 61))⟩,
  ⟨(some 63), some (62, true), .op (.fad 1 (.t 3))⟩,
  ⟨(some 64), some (62, true), .op (.load none (.t 63))⟩,
  ⟨(some 65), some (62, true), .op (.bin .none .leq (.t 64) (.v (.int .u8 20)))⟩,
  ⟨(some 66), none, .op (.pick (.t 62) (.t 65) (.v (.bool false)))⟩,
  ⟨(some 67), none, .op (.mv (.t 66))⟩,
  ⟨(some 68), some (67, true), .op (.mv (.t 0))⟩,
  ⟨(some 69), some (67, true), .op (.fad 2 (.t 3))⟩,
  ⟨(some 70), some (67, true), .op (.load none (.t 69))⟩,
  ⟨(some 71), some (67, true), .op (.fad 4 (.t 3))⟩,
  ⟨(some 72), some (67, true), .op (.load none (.t 71))⟩,
  ⟨(some 73), some (67, true), .op (.fad 5 (.t 3))⟩,
  ⟨(some 74), some (67, true), .op (.load none (.t 73))⟩,
  ⟨(some 75), some (67, true), .op (.bsl none [(.int .i64 0)] 3 [(0, 1, (.t 70)), (1, 1, (.t 72)), (2, 1, (.t 74))])⟩,
  ⟨(some 76), some (67, true), .call 59 [(.t 68), (.v (.int .u8 0)), (.t 75)]⟩,
  ⟨(some 77), none, .op (.pick (.t 67) (.t 76) (.v (.bool false)))⟩,
  ⟨(some 4), none, .op (.mv (.t 77))⟩] [])
  .ret)
  (.seq (.reg [⟨(some 79), none, .op (.bin .none .eql (.t 30) (.v (.int .u8 4)))⟩,
  ⟨(some 78), none, .op (.mv (.t 79))⟩] [])
  (.cond (.t 78)
  (.seq (.reg [⟨(some 80), none, .op (.mv (.t 0))⟩,
  ⟨(some 81), none, .op (.fad 7 (.t 3))⟩,
  ⟨(some 82), none, .op (.load none (.t 81))⟩,
  ⟨(some 83), none, .call 57 [(.t 80), (.t 82)]⟩,
  ⟨(some 84), none, .op (.mv (.t 83))⟩,
  ⟨(some 85), some (84, true), .op (.mv (.t 0))⟩,
  ⟨(some 86), some (84, true), .op (.fad 2 (.t 3))⟩,
  ⟨(some 87), some (84, true), .op (.load none (.t 86))⟩,
  ⟨(some 88), some (84, true), .op (.bsl none [(.int .i64 0)] 1 [(0, 1, (.t 87))])⟩,
  ⟨(some 89), some (84, true), .call 59 [(.t 85), (.v (.int .u8 0)), (.t 88)]⟩,
  ⟨(some 90), none, .op (.pick (.t 84) (.t 89) (.v (.bool false)))⟩,
  ⟨(some 4), none, .op (.mv (.t 90))⟩] [])
  .ret)
  (.seq (.reg [⟨(some 92), none, .op (.bin .none .eql (.t 30) (.v (.int .u8 5)))⟩,
  ⟨(some 91), none, .op (.mv (.t 92))⟩] [])
  (.cond (.t 91)
  (.seq (.reg [⟨(some 93), none, .op (.mv (.t 0))⟩,
  ⟨(some 94), none, .op (.fad 7 (.t 3))⟩,
  ⟨(some 95), none, .op (.load none (.t 94))⟩,
  ⟨(some 96), none, .call 57 [(.t 93), (.t 95)]⟩,
  ⟨(some 97), none, .op (.mv (.t 96))⟩,
  ⟨(some 98), some (97, true), .op (.mv (.t 0))⟩,
  ⟨(some 99), some (97, true), .op (.fad 4 (.t 3))⟩,
  ⟨(some 100), some (97, true), .op (.load none (.t 99))⟩,
  ⟨(some 101), some (97, true), .op (.bsl none [(.int .i64 0)] 1 [(0, 1, (.t 100))])⟩,
  ⟨(some 102), some (97, true), .call 59 [(.t 98), (.v (.int .u8 0)), (.t 101)]⟩,
  ⟨(some 103), none, .op (.pick (.t 97) (.t 102) (.v (.bool false)))⟩,
  ⟨(some 4), none, .op (.mv (.t 103))⟩] [])
  .ret)
  (.seq (.reg [⟨(some 105), none, .op (.bin .none .eql (.t 30) (.v (.int .u8 6)))⟩,
  ⟨(some 104), none, .op (.mv (.t 105))⟩] [])
  (.cond (.t 104)
  (.seq (.reg [⟨(some 106), none, .op (.mv (.t 0))⟩,
  ⟨(some 107), none, .op (.fad 7 (.t 3))⟩,
  ⟨(some 108), none, .op (.load none (.t 107))⟩,
  ⟨(some 109), none, .call 57 [(.t 106), (.t 108)]⟩,
  ⟨(some 110), none, .op (.mv (.t 109))⟩,
  ⟨(some 111), some (110, true), .op (.mv (.t 0))⟩,
  ⟨(some 112), some (110, true), .op (.fad 2 (.t 3))⟩,
  ⟨(some 113), some (110, true), .op (.load none (.t 112))⟩,
  ⟨(some 114), some (110, true), .op (.bsl none [(.int .i64 0)] 1 [(0, 1, (.t 113))])⟩,
  ⟨(some 115), some (110, true), .call 59 [(.t 111), (.v (.int .u8 1)), (.t 114)]⟩,
  ⟨(some 116), none, .op (.pick (.t 110) (.t 115) (.v (.bool false)))⟩,
  ⟨(some 4), none, .op (.mv (.t 116))⟩] [])
  .ret)
  (.seq (.reg [⟨(some 118), none, .op (.bin .none .eql (.t 30) (.v (.int .u8 7)))⟩,
  ⟨(some 117), none, .op (.mv (.t 118))⟩] [])
  (.cond (.t 117)
  (.seq (.reg [⟨(some 119), none, .op (.mv (.t 0))⟩,
  ⟨(some 120), none, .op (.fad 2 (.t 3))⟩,
  ⟨(some 121), none, .op (.load none (.t 120))⟩,
  ⟨(some 122), none, .op (.bsl none [(.int .i64 0)] 1 [(0, 1, (.t 121))])⟩,
  ⟨(some 123), none, .call 59 [(.t 119), (.v (.int .u8 0)), (.t 122)]⟩,
  ⟨(some 124), none, .op (.mv (.t 123))⟩,
  ⟨(some 125), some (124, true), .op (.mv (.t 0))⟩,
  ⟨(some 126), some (124, true), .op (.fad 4 (.t 3))⟩,
  ⟨(some 127), some (124, true), .op (.load none (.t 126))⟩,
  ⟨(some 128), some (124, true), .op (.bsl none [(.int .i64 0)] 1 [(0, 1, (.t 127))])⟩,
  ⟨(some 129), some (124, true), .call 59 [(.t 125), (.v (.int .u8 1)), (.t 128)]⟩,
  ⟨(some 130), none, .op (.pick (.t 124) (.t 129) (.v (.bool false)))⟩,
  ⟨(some 4), none, .op (.mv (.t 130))⟩] [])
  .ret)
  (.seq (.reg [⟨(some 132), none, .op (.bin .none .eql (.t 30) (.v (.int .u8 8)))⟩,
  ⟨(some 131), none, .op (.mv (.t 132))⟩] [])
  (.cond (.t 131)
  (.seq (.reg [⟨(some 133), none, .op (.mv (.t 0))⟩,
  ⟨(some 134), none, .op (.fad 4 (.t 3))⟩,
  ⟨(some 135), none, .op (.load none (.t 134))⟩,
  ⟨(some 136), none, .op (.bsl none [(.int .i64 0)] 1 [(0, 1, (.t 135))])⟩,
  ⟨(some 137), none, .call 59 [(.t 133), (.v (.int .u8 1)), (.t 136)]⟩,
  ⟨(some 138), none, .op (.mv (.t 137))⟩,
  ⟨(some 139), some (138, true), .op (.mv (.t 0))⟩,
  ⟨(some 140), some (138, true), .op (.fad 5 (.t 3))⟩,
  ⟨(some 141), some (138, true), .op (.load none (.t 140))⟩,
  ⟨(some 142), some (138, true), .op (.bsl none [(.int .i64 0)] 1 [(0, 1, (.t 141))])⟩,
  ⟨(some 143), some (138, true), .call 59 [(.t 139), (.v (.int .u8 0)), (.t 142)]⟩,
  ⟨(some 144), none, .op (.pick (.t 138) (.t 143) (.v (.bool false)))⟩,
  ⟨(some 4), none, .op (.mv (.t 144))⟩] [])
  .ret)
  (.seq (.reg [⟨(some 146), none, .op (.bin .none .eql (.t 30) (.v (.int .u8 10)))⟩,
  ⟨(some 145), none, .op (.mv (.t 146))⟩] [])
  (.cond (.t 145)
  (.seq (.reg [⟨(some 4), none, .op (.mv (.v (.bool true)))⟩] [])
  .ret)
  (.seq (.seq (.reg [⟨(some 148), none, .op (.bin .none .eql (.t 30) (.v (.int .u8 9)))⟩,
  ⟨(some 147), none, .op (.mv (.t 148))⟩] [])
  (.cond (.t 147)
  .skip
  (.seq (.reg [⟨(some 149), none, .op (.bin .none .eql (.t 30) (.v (.int .u8 14)))⟩,
  ⟨(some 147), none, .op (.mv (.t 149))⟩] [])
  (.cond (.t 147)
  .skip
  (.seq (.reg [⟨(some 150), none, .op (.bin .none .eql (.t 30) (.v (.int .u8 18)))⟩,
  ⟨(some 147), none, .op (.mv (.t 150))⟩] [])
  (.cond (.t 147)
  .skip
  (.reg [⟨(some 151), none, .op (.bin .none .eql (.t 30) (.v (.int .u8 17)))⟩,
  ⟨(some 147), none, .op (.mv (.t 151))⟩] [])))))))
  (.cond (.t 147)
  (.seq (.reg [⟨(some 152), none, .op (.mv (.t 0))⟩,
  ⟨(some 153), none, .op (.fad 4 (.t 3))⟩,
  ⟨(some 154), none, .op (.load none (.t 153))⟩,
  ⟨(some 155), none, .op (.bsl none [(.int .i64 0)] 1 [(0, 1, (.t 154))])⟩,
  ⟨(some 156), none, .call 59 [(.t 152), (.v (.int .u8 0)), (.t 155)]⟩,
  ⟨(some 4), none, .op (.mv (.t 156))⟩] [])
  .ret)
  (.seq (.reg [⟨(some 158), none, .op (.bin .none .eql (.t 30) (.v (.int .u8 15)))⟩,
  ⟨(some 157), none, .op (.mv (.t 158))⟩] [])
  (.cond (.t 157)
  (.seq (.reg [⟨(some 159), none, .op (.fad 2 (.t 3))⟩,
  ⟨(some 160), none, .op (.load none (.t 159))⟩,
  ⟨(some 161), none, .op (.fad 3 (.t 3))⟩,
  ⟨(some 162), none, .op (.load none (.t 161))⟩,
  ⟨(some 163), none, .op (.bin .none .neq (.t 160) (.t 162))⟩,
  ⟨(some 164), none, .op (.mv (.t 163))⟩,
  ⟨(some 165), some (164, true), .op (.mv (.t 0))⟩,
  ⟨(some 166), some (164, true), .op (.fad 2 (.t 3))⟩,
  ⟨(some 167), some (164, true), .op (.load none (.t 166))⟩,
  ⟨(some 168), some (164, true), .op (.fad 3 (.t 3))⟩,
  ⟨(some 169), some (164, true), .op (.load none (.t 168))⟩,
  ⟨(some 170), some (164, true), .op (.bsl none [(.int .i64 0)] 2 [(0, 1, (.t 167)), (1, 1, (.t 169))])⟩,
  ⟨(some 171), some (164, true), .call 59 [(.t 165), (.v (.int .u8 0)), (.t 170)]⟩,
  ⟨(some 172), none, .op (.pick (.t 164) (.t 171) (.v (.bool false)))⟩,
  ⟨(some 4), none, .op (.mv (.t 172))⟩] [])
  .ret)
  (.seq (.reg [⟨(some 174), none, .op (.bin .none .eql (.t 30) (.v (.int .u8 13)))⟩,
  ⟨(some 173), none, .op (.mv (.t 174))⟩] [])
  (.cond (.t 173)
  (.seq (.reg [⟨(some 175), none, .op (.mv (.t 0))⟩,
  ⟨(some 176), none, .op (.load (some 12) (.t 3))⟩,
  ⟨(some 177), none, .call 61 [(.t 175), (.t 176)]⟩,
  ⟨(some 4), none, .op (.mv (.t 177))⟩] [])
  .ret)
  (.seq (.reg [⟨(some 179), none, .op (.bin .none .eql (.t 30) (.v (.int .u8 11)))⟩,
  ⟨(some 178), none, .op (.mv (.t 179))⟩] [])
  (.cond (.t 178)
  (.seq (.reg [⟨(some 180), none, .op (.mv (.t 0))⟩,
  ⟨(some 181), none, .op (.load (some 12) (.t 3))⟩,
  ⟨(some 182), none, .call 61 [(.t 180), (.t 181)]⟩,
  ⟨(some 183), none, .op (.mv (.t 182))⟩,
  ⟨(some 184), some (183, true), .op (.fad 2 (.t 3))⟩,
  ⟨(some 185), some (183, true), .op (.load none (.t 184))⟩,
  ⟨(some 186), some (183, true), .op (.bin .none .eql (.t 185) (.v (.int .i64 (-1))))⟩,
  ⟨(some 187), some (183, true), .op (.mv (.t 186))⟩,
  ⟨(some 188), some (187, false), .op (.mv (.t 0))⟩,
  ⟨(some 189), some (187, false), .op (.fad 2 (.t 3))⟩,
  ⟨(some 190), some (187, false), .op (.load none (.t 189))⟩,
  ⟨(some 191), some (187, false), .op (.bsl none [(.int .i64 0)] 1 [(0, 1, (.t 190))])⟩,
  ⟨(some 192), some (187, false), .call 59 [(.t 188), (.v (.int .u8 0)), (.t 191)]⟩,
  ⟨(some 193), some (187, false), .op (.mv (.t 192))⟩,
  ⟨(some 194), some (193, true), .op (.mv (.t 0))⟩,
  ⟨(some 195), some (193, true), .op (.nchk (.t 194))⟩,
  ⟨(some 196), some (193, true), .op (.fad 0 (.t 195))⟩,
  ⟨(some 197), some (193, true), .op (.load none (.t 196))⟩,
  ⟨(some 198), some (193, true), .op (.fad 6 (.t 3))⟩,
  ⟨(some 199), some (193, true), .op (.load none (.t 198))⟩,
  ⟨(some 200), some (193, true), .op (.iad none (some 8) (.t 197) (.t 199))⟩,
  ⟨(some 201), some (193, true), .op (.fad 4 (.t 200))⟩,
  ⟨(some 202), some (193, true), .op (.load none (.t 201))⟩,
  ⟨(some 203), some (187, false), .op (.pick (.t 193) (.t 202) (.v (.bool false)))⟩,
  ⟨(some 204), some (187, false), .op (.mv (.t 203))⟩,
  ⟨(some 205), some (204, true), .op (.mv (.t 0))⟩,
  ⟨(some 206), some (204, true), .op (.nchk (.t 205))⟩,
  ⟨(some 207), some (204, true), .op (.fad 2 (.t 206))⟩,
  ⟨(some 208), some (204, true), .op (.load none (.t 207))⟩,
  ⟨(some 209), some (204, true), .op (.un .not (.t 208))⟩,
  ⟨(some 210), some (204, true), .op (.mv (.t 209))⟩,
  ⟨(some 211), some (210, false), .op (.fad 2 (.t 3))⟩,
  ⟨(some 212), some (210, false), .op (.load none (.t 211))⟩,
  ⟨(some 213), some (210, false), .op (.bin .none .eql (.t 212) (.v (.int .i64 0)))⟩,
  ⟨(some 214), some (204, true), .op (.pick (.t 210) (.v (.bool true)) (.t 213))⟩,
  ⟨(some 215), some (187, false), .op (.pick (.t 204) (.t 214) (.v (.bool false)))⟩,
  ⟨(some 216), some (183, true), .op (.pick (.t 187) (.v (.bool true)) (.t 215))⟩,
  ⟨(some 217), none, .op (.pick (.t 183) (.t 216) (.v (.bool false)))⟩,
  ⟨(some 4), none, .op (.mv (.t 217))⟩] [])
  .ret)
  (.seq (.reg [⟨(some 219), none, .op (.bin .none .eql (.t 30) (.v (.int .u8 12)))⟩,
  ⟨(some 218), none, .op (.mv (.t 219))⟩] [])
  (.cond (.t 218)
  (.seq (.reg [⟨(some 220), none, .op (.fad 4 (.t 3))⟩,
  ⟨(some 221), none, .op (.load none (.t 220))⟩,
  ⟨(some 222), none, .op (.bin .none .eql (.t 221) (.v (.int .i64 (-1))))⟩,
  ⟨(some 223), none, .op (.mv (.t 222))⟩,
  ⟨(some 224), some (223, true), .op (.mv (.t 0))⟩,
  ⟨(some 225), some (223, true), .op (.nchk (.t 224))⟩,
  ⟨(some 226), some (223, true), .op (.fad 1 (.t 225))⟩,
  ⟨(some 227), some (223, true), .op (.load none (.t 226))⟩,
  ⟨(some 228), some (223, true), .op (.nchk (.t 227))⟩,
  ⟨(some 229), some (223, true), .op (.fad 4 (.t 228))⟩,
  ⟨(some 230), some (223, true), .op (.load none (.t 229))⟩,
  ⟨(some 231), some (223, true), .op (.un .not (.t 230))⟩,
  ⟨(some 232), none, .op (.pick (.t 223) (.t 231) (.v (.bool false)))⟩,
  ⟨(some 233), none, .op (.mv (.t 232))⟩,
  ⟨(some 234), some (233, false), .op (.fad 4 (.t 3))⟩,
  ⟨(some 235), some (233, false), .op (.load none (.t 234))⟩,
  ⟨(some 236), some (233, false), .op (.bin .none .neq (.t 235) (.v (.int .i64 (-1))))⟩,
  ⟨(some 237), some (233, false), .op (.mv (.t 236))⟩,
  ⟨(some 238), some (237, true), .op (.mv (.t 0))⟩,
  ⟨(some 239), some (237, true), .op (.nchk (.t 238))⟩,
  ⟨(some 240), some (237, true), .op (.fad 1 (.t 239))⟩,
  ⟨(some 241), some (237, true), .op (.load none (.t 240))⟩,
  ⟨(some 242), some (237, true), .op (.nchk (.t 241))⟩,
  ⟨(some 243), some (237, true), .op (.fad 4 (.t 242))⟩,
  ⟨(some 244), some (237, true), .op (.load none (.t 243))⟩,
  ⟨(some 245), some (233, false), .op (.pick (.t 237) (.t 244) (.v (.bool false)))⟩,
  ⟨(some 246), some (233, false), .op (.mv (.t 245))⟩,
  ⟨(some 247), some (246, true), .op (.mv (.t 0))⟩,
  ⟨(some 248), some (246, true), .op (.fad 4 (.t 3))⟩,
  ⟨(some 249), some (246, true), .op (.load none (.t 248))⟩,
  ⟨(some 250), some (246, true), .op (.bsl none [(.int .i64 0)] 1 [(0, 1, (.t 249))])⟩,
  ⟨(some 251), some (246, true), .call 59 [(.t 247), (.v (.int .u8 0)), (.t 250)]⟩,
  ⟨(some 252), some (233, false), .op (.pick (.t 246) (.t 251) (.v (.bool false)))⟩,
  ⟨(some 253), none, .op (.pick (.t 233) (.v (.bool true)) (.t 252))⟩,
  ⟨(some 4), none, .op (.mv (.t 253))⟩] [])
  .ret)
  .skip))))))))))))))))))))))))))))))
  (.seq (.reg [⟨(some 4), none, .op (.mv (.v (.bool false)))⟩] [])
  .ret))))
theorem c32 : codeOf Try.prog 32 = some (254, [(4, none)], fc32) := by kernel_rfl
def fc33 : FC := (.seq (.reg [⟨(some 2), none, .op (.mv (.v .nils))⟩] [])
  (.seq (.seq (.reg [⟨(some 3), none, .op (.mv (.t 0))⟩,
  ⟨(some 4), none, .op (.bin .flat .eql (.t 3) (.v .nils))⟩] [])
  (.cond (.t 4)
  (.seq (.reg [⟨(some 2), none, .op (.mv (.v .nils))⟩] [])
  .ret)
  .skip))
  (.seq (.reg [⟨(some 5), none, .op (.bsl none [(.int .u64 0)] 0 [])⟩,
  ⟨(some 6), none, .op (.mv (.t 0))⟩,
  ⟨(some 7), none, .op (.app none 8 (.t 5) (.t 6))⟩,
  ⟨(some 2), none, .op (.mv (.t 7))⟩] [])
  .ret)))
theorem c33 : codeOf Try.prog 33 = some (8, [(2, none)], fc33) := by kernel_rfl
def fc34 : FC := (.seq (.reg [⟨(some 6), none, .op (.mv (.t 1))⟩,
  ⟨(some 7), none, .op (.bin .none .geq (.t 6) (.v (.int .i64 0)))⟩] [])
  (.cond (.t 7)
  (.reg [⟨(some 8), none, .op (.mv (.t 0))⟩,
  ⟨(some 9), none, .op (.mv (.t 1))⟩,
  ⟨(some 10), none, .call 62 [(.t 8), (.t 9)]⟩,
  ⟨(some 11), none, .op (.mv (.t 2))⟩,
  ⟨(some 12), none, .op (.nchk (.t 10))⟩,
  ⟨none, none, .op (.store 1 (.t 12) (.t 11))⟩] [])
  .skip))
theorem c34 : codeOf Try.prog 34 = some (13, [], fc34) := by kernel_rfl
def fc35 : FC := (.reg [⟨(some 6), none, .op (.mv (.t 0))⟩,
  ⟨(some 7), none, .op (.mv (.t 1))⟩,
  ⟨(some 8), none, .op (.mv (.t 2))⟩,
  ⟨(some 9), none, .call 63 [(.t 6), (.t 7), (.t 8), (.v (.int .i64 0))]⟩] [])
theorem c35 : codeOf Try.prog 35 = some (10, [], fc35) := by kernel_rfl
def fc36 : FC := (.seq (.reg [⟨(some 2), none, .op (.mv (.v .nils))⟩] [])
  (.seq (.seq (.reg [⟨(some 3), none, .op (.mv (.t 0))⟩,
  ⟨(some 4), none, .op (.bin .flat .eql (.t 3) (.v .nils))⟩] [])
  (.cond (.t 4)
  (.seq (.reg [⟨(some 2), none, .op (.mv (.v .nils))⟩] [])
  .ret)
  .skip))
  (.seq (.reg [⟨(some 5), none, .op (.bsl (some 2) [(.int .i64 0), (.int .u64 0)] 0 [])⟩,
  ⟨(some 6), none, .op (.mv (.t 0))⟩,
  ⟨(some 7), none, .op (.app (some 2) 16 (.t 5) (.t 6))⟩,
  ⟨(some 2), none, .op (.mv (.t 7))⟩] [])
  .ret)))
theorem c36 : codeOf Try.prog 36 = some (8, [(2, none)], fc36) := by kernel_rfl
def fc55 : FC := (.seq (.reg [⟨(some 4), none, .op (.mv (.v (.bool false)))⟩] [])
  (.seq (.reg [⟨(some 5), none, .op (.mv (.t 0))⟩,
  ⟨(some 6), none, .op (.mv (.t 1))⟩,
  ⟨(some 7), none, .call 81 [(.t 5), (.t 6)]⟩,
  ⟨(some 8), none, .op (.bin .none .geq (.t 7) (.v (.int .i64 0)))⟩,
  ⟨(some 4), none, .op (.mv (.t 8))⟩] [])
  .ret))
theorem c55 : codeOf Try.prog 55 = some (9, [(4, none)], fc55) := by kernel_rfl
def fc56 : FC := (.seq (.reg [⟨(some 2), none, .op (.mv (.v (.bool false)))⟩] [])
  (.seq (.reg [⟨(some 3), none, .op (.mv (.t 0))⟩,
  ⟨(some 4), none, .op (.bin .none .gtr (.t 3) (.v (.int .u8 1)))⟩,
  ⟨(some 2), none, .op (.mv (.t 4))⟩] [])
  .ret))
theorem c56 : codeOf Try.prog 56 = some (5, [(2, none)], fc56) := by kernel_rfl
def fc59 : FC := (.seq (.reg [⟨(some 6), none, .op (.mv (.v (.bool false)))⟩] [])
  (.seq (.seq (.reg [⟨(some 9), none, .op (.mv (.t 2))⟩,
  ⟨(some 10), none, .op (.len .sl (.t 9))⟩,
  ⟨(some 11), none, .op (.mv (.v (.int .i64 0)))⟩] [])
  (.block 0 (.loop (.seq (.reg [⟨(some 12), none, .op (.bin .none .lss (.t 11) (.t 10))⟩] [])
  (.seq (.cond (.t 12)
  .skip
  (.exit 0))
  (.seq (.block 1 (.seq (.reg [⟨(some 13), none, .op (.iad none none (.t 9) (.t 11))⟩,
  ⟨(some 14), none, .op (.load none (.t 13))⟩,
  ⟨(some 8), none, .op (.mv (.t 14))⟩] [])
  (.seq (.reg [⟨(some 15), none, .op (.mv (.t 8))⟩,
  ⟨(some 16), none, .op (.bin .none .lss (.t 15) (.v (.int .i64 0)))⟩,
  ⟨(some 17), none, .op (.mv (.t 16))⟩,
  ⟨(some 18), some (17, false), .op (.mv (.t 8))⟩,
  ⟨(some 19), some (17, false), .op (.mv (.t 0))⟩,
  ⟨(some 20), some (17, false), .op (.nchk (.t 19))⟩,
  ⟨(some 21), some (17, false), .op (.fad 1 (.t 20))⟩,
  ⟨(some 22), some (17, false), .op (.load none (.t 21))⟩,
  ⟨(some 23), some (17, false), .op (.nchk (.t 22))⟩,
  ⟨(some 24), some (17, false), .op (.fad 1 (.t 23))⟩,
  ⟨(some 25), some (17, false), .op (.load none (.t 24))⟩,
  ⟨(some 26), some (17, false), .op (.len .sl (.t 25))⟩,
  ⟨(some 27), some (17, false), .op (.bin .none .geq (.t 18) (.t 26))⟩,
  ⟨(some 28), none, .op (.pick (.t 17) (.v (.bool true)) (.t 27))⟩,
  ⟨(some 29), none, .op (.mv (.t 28))⟩,
  ⟨(some 30), some (29, false), .op (.mv (.t 0))⟩,
  ⟨(some 31), some (29, false), .op (.nchk (.t 30))⟩,
  ⟨(some 32), some (29, false), .op (.fad 2 (.t 31))⟩,
  ⟨(some 33), some (29, false), .op (.load none (.t 32))⟩,
  ⟨(some 34), some (29, false), .op (.un .not (.t 33))⟩,
  ⟨(some 35), some (29, false), .op (.mv (.t 34))⟩,
  ⟨(some 36), some (35, true), .op (.mv (.t 0))⟩,
  ⟨(some 37), some (35, true), .op (.nchk (.t 36))⟩,
  ⟨(some 38), some (35, true), .op (.fad 1 (.t 37))⟩,
  ⟨(some 39), some (35, true), .op (.load none (.t 38))⟩,
  ⟨(some 40), some (35, true), .op (.nchk (.t 39))⟩,
  ⟨(some 41), some (35, true), .op (.fad 1 (.t 40))⟩,
  ⟨(some 42), some (35, true), .op (.load none (.t 41))⟩,
  ⟨(some 43), some (35, true), .op (.mv (.t 8))⟩,
  ⟨(some 44), some (35, true), .op (.iad none none (.t 42) (.t 43))⟩,
  ⟨(some 45), some (35, true), .op (.load none (.t 44))⟩,
  ⟨(some 46), some (35, true), .op (.mv (.t 1))⟩,
  ⟨(some 47), some (35, true), .op (.bin .none .neq (.t 45) (.t 46))⟩,
  ⟨(some 48), some (29, false), .op (.pick (.t 35) (.t 47) (.v (.bool false)))⟩,
  ⟨(some 49), none, .op (.pick (.t 29) (.v (.bool true)) (.t 48))⟩] [])
  (.cond (.t 49)
  (.seq (.reg [⟨(some 6), none, .op (.mv (.v (.bool false)))⟩] [])
  .ret)
  .skip))))
  (.reg [⟨(some 50), none, .op (.bin .none .add (.t 11) (.v (.int .i64 1)))⟩,
  ⟨(some 11), none, .op (.mv (.t 50))⟩] [])))))))
  (.seq (.reg [⟨(some 6), none, .op (.mv (.v (.bool true)))⟩] [])
  .ret)))
theorem c59 : codeOf Try.prog 59 = some (51, [(6, none)], fc59) := by kernel_rfl
def fc60 : FC := (.seq (.reg [⟨(some 1), none, .op (.box (.t 0))⟩,
  ⟨(some 2), none, .op (.mv (.v .nils))⟩] [])
  (.seq (.seq (.reg [⟨(some 3), none, .op (.fad 0 (.t 1))⟩,
  ⟨(some 4), none, .op (.load none (.t 3))⟩] [])
  (.block 0 (.seq (.seq (.reg [⟨(some 6), none, .op (.bin .none .eql (.t 4) (.v (.int .u8 12)))⟩,
  ⟨(some 5), none, .op (.mv (.t 6))⟩] [])
  (.cond (.t 5)
  .skip
  (.seq (.reg [⟨(some 7), none, .op (.bin .none .eql (.t 4) (.v (.int .u8 14)))⟩,
  ⟨(some 5), none, .op (.mv (.t 7))⟩] [])
  (.cond (.t 5)
  .skip
  (.reg [⟨(some 8), none, .op (.bin .none .eql (.t 4) (.v (.int .u8 18)))⟩,
  ⟨(some 5), none, .op (.mv (.t 8))⟩] [])))))
  (.cond (.t 5)
  (.seq (.reg [⟨(some 2), none, .op (.mv (.v .nils))⟩] [])
  .ret)
  (.seq (.reg [⟨(some 10), none, .op (.bin .none .eql (.t 4) (.v (.int .u8 9)))⟩,
  ⟨(some 9), none, .op (.mv (.t 10))⟩] [])
  (.cond (.t 9)
  (.seq (.reg [⟨(some 11), none, .op (.fad 11 (.t 1))⟩,
  ⟨(some 12), none, .op (.load none (.t 11))⟩,
  ⟨(some 13), none, .op (.fad 10 (.t 1))⟩,
  ⟨(some 14), none, .op (.load none (.t 13))⟩,
  ⟨(some 15), none, .op (.bin .none .neq (.t 12) (.t 14))⟩] [])
  (.cond (.t 15)
  (.seq (.reg [⟨(some 16), none, .op (.fad 10 (.t 1))⟩,
  ⟨(some 17), none, .op (.load none (.t 16))⟩,
  ⟨(some 18), none, .op (.fad 11 (.t 1))⟩,
  ⟨(some 19), none, .op (.load none (.t 18))⟩,
  ⟨(some 20), none, .op (.bsl none [(.int .i64 0)] 2 [(0, 1, (.t 17)), (1, 1, (.t 19))])⟩,
  ⟨(some 2), none, .op (.mv (.t 20))⟩] [])
  .ret)
  .skip))
  .skip))))))
  (.seq (.seq (.reg [⟨(some 21), none, .op (.fad 0 (.t 1))⟩,
  ⟨(some 22), none, .op (.load none (.t 21))⟩,
  ⟨(some 23), none, .op (.bin .none .lss (.t 22) (.v (.int .u8 1)))⟩,
  ⟨(some 24), none, .op (.mv (.t 23))⟩,
  ⟨(some 25), some (24, false), .op (.fad 0 (.t 1))⟩,
  ⟨(some 26), some (24, false), .op (.load none (.t 25))⟩,
  ⟨(some 27), some (24, false), .op (.bin .none .gtr (.t 26) (.v (.int .u8 18)))⟩,
  ⟨(some 28), none, .op (.pick (.t 24) (.v (.bool true)) (.t 27))⟩] [])
  (.cond (.t 28)
  (.seq (.reg [⟨(some 2), none, .op (.mv (.v .nils))⟩] [])
  .ret)
  .skip))
  (.seq (.reg [⟨(some 29), none, .op (.fad 10 (.t 1))⟩,
  ⟨(some 30), none, .op (.load none (.t 29))⟩,
  ⟨(some 31), none, .op (.bsl none [(.int .i64 0)] 1 [(0, 1, (.t 30))])⟩,
  ⟨(some 2), none, .op (.mv (.t 31))⟩] [])
  .ret))))
theorem c60 : codeOf Try.prog 60 = some (32, [(2, none)], fc60) := by kernel_rfl
def fc61 : FC := (.seq (.reg [⟨(some 3), none, .op (.box (.t 1))⟩,
  ⟨(some 4), none, .op (.mv (.v (.bool false)))⟩] [])
  (.seq (.seq (.reg [⟨(some 8), none, .op (.fad 6 (.t 3))⟩,
  ⟨(some 9), none, .op (.load none (.t 8))⟩,
  ⟨(some 10), none, .op (.bin .none .lss (.t 9) (.v (.int .i64 0)))⟩,
  ⟨(some 11), none, .op (.mv (.t 10))⟩,
  ⟨(some 12), some (11, false), .op (.fad 6 (.t 3))⟩,
  ⟨(some 13), some (11, false), .op (.load none (.t 12))⟩,
  ⟨(some 14), some (11, false), .op (.mv (.t 0))⟩,
  ⟨(some 15), some (11, false), .op (.nchk (.t 14))⟩,
  ⟨(some 16), some (11, false), .op (.fad 0 (.t 15))⟩,
  ⟨(some 17), some (11, false), .op (.load none (.t 16))⟩,
  ⟨(some 18), some (11, false), .op (.len .sl (.t 17))⟩,
  ⟨(some 19), some (11, false), .op (.bin .none .geq (.t 13) (.t 18))⟩,
  ⟨(some 20), none, .op (.pick (.t 11) (.v (.bool true)) (.t 19))⟩] [])
  (.cond (.t 20)
  (.seq (.reg [⟨(some 4), none, .op (.mv (.v (.bool false)))⟩] [])
  .ret)
  .skip))
  (.seq (.reg [⟨(some 21), none, .op (.mv (.t 0))⟩,
  ⟨(some 22), none, .op (.nchk (.t 21))⟩,
  ⟨(some 23), none, .op (.fad 0 (.t 22))⟩,
  ⟨(some 24), none, .op (.load none (.t 23))⟩,
  ⟨(some 25), none, .op (.fad 6 (.t 3))⟩,
  ⟨(some 26), none, .op (.load none (.t 25))⟩,
  ⟨(some 27), none, .op (.iad none (some 8) (.t 24) (.t 26))⟩,
  ⟨(some 5), none, .op (.mv (.t 27))⟩] [])
  (.seq (.seq (.reg [⟨(some 28), none, .op (.fad 9 (.t 3))⟩,
  ⟨(some 29), none, .op (.load none (.t 28))⟩,
  ⟨(some 30), none, .op (.len .sl (.t 29))⟩,
  ⟨(some 31), none, .op (.mv (.t 5))⟩,
  ⟨(some 32), none, .op (.nchk (.t 31))⟩,
  ⟨(some 33), none, .op (.fad 0 (.t 32))⟩,
  ⟨(some 34), none, .op (.load none (.t 33))⟩,
  ⟨(some 35), none, .op (.len .sl (.t 34))⟩,
  ⟨(some 36), none, .op (.bin .none .neq (.t 30) (.t 35))⟩] [])
  (.cond (.t 36)
  (.seq (.reg [⟨(some 4), none, .op (.mv (.v (.bool false)))⟩] [])
  .ret)
  .skip))
  (.seq (.seq (.reg [⟨(some 37), none, .op (.fad 9 (.t 3))⟩,
  ⟨(some 38), none, .op (.load none (.t 37))⟩,
  ⟨(some 39), none, .op (.len .sl (.t 38))⟩,
  ⟨(some 40), none, .op (.mv (.v (.int .i64 0)))⟩] [])
  (.block 0 (.loop (.seq (.reg [⟨(some 41), none, .op (.bin .none .lss (.t 40) (.t 39))⟩] [])
  (.seq (.cond (.t 41)
  .skip
  (.exit 0))
  (.seq (.block 1 (.seq (.reg [⟨(some 42), none, .op (.mv (.t 40))⟩,
  ⟨(some 43), none, .op (.iad none none (.t 38) (.t 40))⟩,
  ⟨(some 44), none, .op (.load none (.t 43))⟩,
  ⟨(some 6), none, .op (.mv (.t 42))⟩,
  ⟨(some 7), none, .op (.mv (.t 44))⟩] [])
  (.seq (.reg [⟨(some 45), none, .op (.mv (.t 0))⟩,
  ⟨(some 46), none, .op (.nchk (.t 45))⟩,
  ⟨(some 47), none, .op (.fad 2 (.t 46))⟩,
  ⟨(some 48), none, .op (.load none (.t 47))⟩,
  ⟨(some 49), none, .op (.mv (.t 48))⟩,
  ⟨(some 50), some (49, true), .op (.mv (.t 7))⟩,
  ⟨(some 51), some (49, true), .op (.mv (.t 6))⟩,
  ⟨(some 52), some (49, true), .op (.bin .none .neq (.t 50) (.t 51))⟩,
  ⟨(some 53), none, .op (.pick (.t 49) (.t 52) (.v (.bool false)))⟩,
  ⟨(some 54), none, .op (.mv (.t 53))⟩,
  ⟨(some 55), some (54, false), .op (.mv (.t 0))⟩,
  ⟨(some 56), some (54, false), .op (.nchk (.t 55))⟩,
  ⟨(some 57), some (54, false), .op (.fad 2 (.t 56))⟩,
  ⟨(some 58), some (54, false), .op (.load none (.t 57))⟩,
  ⟨(some 59), some (54, false), .op (.un .not (.t 58))⟩,
  ⟨(some 60), some (54, false), .op (.mv (.t 59))⟩,
  ⟨(some 61), some (60, true), .op (.mv (.t 0))⟩,
  ⟨(some 62), some (60, true), .op (.mv (.t 5))⟩,
  ⟨(some 63), some (60, true), .op (.nchk (.t 62))⟩,
  ⟨(some 64), some (60, true), .op (.fad 1 (.t 63))⟩,
  ⟨(some 65), some (60, true), .op (.load none (.t 64))⟩,
  ⟨(some 66), some (60, true), .op (.mv (.t 5))⟩,
  ⟨(some 67), some (60, true), .op (.nchk (.t 66))⟩,
  ⟨(some 68), some (60, true), .op (.fad 0 (.t 67))⟩,
  ⟨(some 69), some (60, true), .op (.load none (.t 68))⟩,
  ⟨(some 70), some (60, true), .op (.mv (.t 6))⟩,
  ⟨(some 71), some (60, true), .op (.iad none none (.t 69) (.t 70))⟩,
  ⟨(some 72), some (60, true), .op (.load none (.t 71))⟩,
  ⟨(some 73), some (60, true), .op (.iad none none (.t 65) (.t 72))⟩,
  ⟨(some 74), some (60, true), .op (.load none (.t 73))⟩,
  ⟨(some 75), some (60, true), .op (.mv (.t 7))⟩,
  ⟨(some 76), some (60, true), .op (.bsl none [(.int .i64 0)] 1 [(0, 1, (.t 75))])⟩,
  ⟨(some 77), some (60, true), .call 59 [(.t 61), (.t 74), (.t 76)]⟩,
  ⟨(some 78), some (60, true), .op (.un .not (.t 77))⟩,
  ⟨(some 79), some (54, false), .op (.pick (.t 60) (.t 78) (.v (.bool false)))⟩,
  ⟨(some 80), none, .op (.pick (.t 54) (.v (.bool true)) (.t 79))⟩] [(20, 31), (24, 31), (27, 31), (29, 31)])
  (.cond (.t 80)
  (.seq (.reg [⟨(some 4), none, .op (.mv (.v (.bool false)))⟩] [])
  .ret)
  .skip))))
  (.reg [⟨(some 81), none, .op (.bin .none .add (.t 40) (.v (.int .i64 1)))⟩,
  ⟨(some 40), none, .op (.mv (.t 81))⟩] [])))))))
  (.seq (.reg [⟨(some 4), none, .op (.mv (.v (.bool true)))⟩] [])
  .ret))))))
theorem c61 : codeOf Try.prog 61 = some (82, [(4, none)], fc61) := by kernel_rfl
def fc62 : FC := (.seq (.reg [⟨(some 4), none, .op (.mv (.v .nilp))⟩] [])
  (.seq (.seq (.reg [⟨(some 5), none, .op (.mv (.t 0))⟩,
  ⟨(some 6), none, .op (.nchk (.t 5))⟩,
  ⟨(some 7), none, .op (.fad 0 (.t 6))⟩,
  ⟨(some 8), none, .op (.load none (.t 7))⟩,
  ⟨(some 9), none, .op (.nchk (.t 8))⟩,
  ⟨(some 10), none, .op (.fad 1 (.t 9))⟩,
  ⟨(some 11), none, .op (.load none (.t 10))⟩,
  ⟨(some 12), none, .op (.mv (.t 11))⟩,
  ⟨(some 13), some (12, true), .op (.mv (.t 1))⟩,
  ⟨(some 14), some (12, true), .op (.bin .none .lss (.t 13) (.v (.int .i64 16)))⟩,
  ⟨(some 15), none, .op (.pick (.t 12) (.t 14) (.v (.bool false)))⟩] [])
  (.cond (.t 15)
  (.seq (.reg [⟨(some 16), none, .op (.mv (.t 0))⟩,
  ⟨(some 17), none, .op (.nchk (.t 16))⟩,
  ⟨(some 18), none, .op (.fad 0 (.t 17))⟩,
  ⟨(some 19), none, .op (.load none (.t 18))⟩,
  ⟨(some 20), none, .op (.mv (.t 1))⟩,
  ⟨(some 21), none, .op (.nchk (.t 19))⟩,
  ⟨(some 22), none, .op (.fad 2 (.t 21))⟩,
  ⟨(some 23), none, .op (.iad (some 16) none (.t 22) (.t 20))⟩,
  ⟨(some 4), none, .op (.mv (.t 23))⟩] [])
  .ret)
  .skip))
  (.seq (.reg [⟨(some 24), none, .op (.mv (.t 0))⟩,
  ⟨(some 25), none, .op (.nchk (.t 24))⟩,
  ⟨(some 26), none, .op (.fad 2 (.t 25))⟩,
  ⟨(some 27), none, .op (.load none (.t 26))⟩,
  ⟨(some 28), none, .op (.mv (.t 1))⟩,
  ⟨(some 29), none, .op (.iad none none (.t 27) (.t 28))⟩,
  ⟨(some 4), none, .op (.mv (.t 29))⟩] [])
  .ret)))
theorem c62 : codeOf Try.prog 62 = some (30, [(4, none)], fc62) := by kernel_rfl
def fc63 : FC := (.seq (.reg [⟨(some 9), none, .op (.mv (.t 3))⟩,
  ⟨(some 10), none, .op (.build [.nili, (.int .i64 0), .nils, (.int .u64 0)] [(1, 1, (.t 9))])⟩,
  ⟨(some 11), none, .op (.box (.t 10))⟩,
  ⟨(some 8), none, .op (.mv (.t 11))⟩] [])
  (.seq (.reg [⟨(some 12), none, .op (.mv (.t 0))⟩,
  ⟨(some 13), none, .op (.mv (.t 0))⟩,
  ⟨(some 14), none, .op (.nchk (.t 13))⟩,
  ⟨(some 15), none, .op (.fad 8 (.t 14))⟩,
  ⟨(some 16), none, .op (.load none (.t 15))⟩,
  ⟨(some 17), none, .op (.mv (.t 8))⟩,
  ⟨(some 18), none, .op (.bsl none [.nilp] 1 [(0, 1, (.t 17))])⟩,
  ⟨(some 19), none, .op (.app none 8 (.t 16) (.t 18))⟩,
  ⟨(some 20), none, .op (.nchk (.t 12))⟩,
  ⟨(some 21), none, .op (.fad 8 (.t 20))⟩,
  ⟨none, none, .op (.store 1 (.t 21) (.t 19))⟩] [])
  (.seq (.reg [⟨(some 22), none, .op (.mv (.t 0))⟩,
  ⟨(some 23), none, .op (.mv (.t 0))⟩,
  ⟨(some 24), none, .op (.nchk (.t 23))⟩,
  ⟨(some 25), none, .op (.fad 5 (.t 24))⟩,
  ⟨(some 26), none, .op (.load none (.t 25))⟩,
  ⟨(some 27), none, .op (.mv (.t 0))⟩,
  ⟨(some 28), none, .op (.nchk (.t 27))⟩,
  ⟨(some 29), none, .op (.fad 8 (.t 28))⟩,
  ⟨(some 30), none, .op (.load none (.t 29))⟩,
  ⟨(some 31), none, .op (.len .sl (.t 30))⟩,
  ⟨(some 32), none, .op (.mn true (.t 26) (.t 31))⟩,
  ⟨(some 33), none, .op (.nchk (.t 22))⟩,
  ⟨(some 34), none, .op (.fad 5 (.t 33))⟩,
  ⟨none, none, .op (.store 1 (.t 34) (.t 32))⟩] [])
  (.reg [⟨(some 35), none, .op (.mv (.t 8))⟩,
  ⟨(some 36), none, .op (.mv (.t 0))⟩,
  ⟨(some 37), none, .op (.nchk (.t 36))⟩,
  ⟨(some 38), none, .op (.fad 1 (.t 37))⟩,
  ⟨(some 39), none, .op (.load none (.t 38))⟩,
  ⟨(some 40), none, .op (.mv (.t 0))⟩,
  ⟨(some 41), none, .op (.mv (.t 1))⟩,
  ⟨(some 42), none, .op (.mv (.t 2))⟩,
  ⟨(some 43), none, .callv (.t 39) [(.t 40), (.t 41), (.t 42)]⟩,
  ⟨(some 44), none, .op (.nchk (.t 35))⟩,
  ⟨(some 45), none, .op (.fad 0 (.t 44))⟩,
  ⟨none, none, .op (.store 1 (.t 45) (.t 43))⟩] []))))
theorem c63 : codeOf Try.prog 63 = some (46, [], fc63) := by kernel_rfl
def fc81 : FC := (.seq (.reg [⟨(some 4), none, .op (.mv (.v (.int .i64 0)))⟩] [])
  (.seq (.seq (.reg [⟨(some 6), none, .op (.mv (.t 0))⟩,
  ⟨(some 7), none, .op (.len .sl (.t 6))⟩,
  ⟨(some 8), none, .op (.mv (.v (.int .i64 0)))⟩] [])
  (.block 0 (.loop (.seq (.reg [⟨(some 9), none, .op (.bin .none .lss (.t 8) (.t 7))⟩] [])
  (.seq (.cond (.t 9)
  .skip
  (.exit 0))
  (.seq (.block 1 (.seq (.reg [⟨(some 10), none, .op (.mv (.t 8))⟩,
  ⟨(some 5), none, .op (.mv (.t 10))⟩] [])
  (.seq (.reg [⟨(some 11), none, .op (.mv (.t 1))⟩,
  ⟨(some 12), none, .op (.mv (.t 0))⟩,
  ⟨(some 13), none, .op (.mv (.t 5))⟩,
  ⟨(some 14), none, .op (.iad none none (.t 12) (.t 13))⟩,
  ⟨(some 15), none, .op (.load none (.t 14))⟩,
  ⟨(some 16), none, .callv (.t 11) [(.t 15)]⟩] [])
  (.cond (.t 16)
  (.seq (.reg [⟨(some 17), none, .op (.mv (.t 5))⟩,
  ⟨(some 4), none, .op (.mv (.t 17))⟩] [])
  .ret)
  .skip))))
  (.reg [⟨(some 18), none, .op (.bin .none .add (.t 8) (.v (.int .i64 1)))⟩,
  ⟨(some 8), none, .op (.mv (.t 18))⟩] [])))))))
  (.seq (.reg [⟨(some 4), none, .op (.mv (.v (.int .i64 (-1))))⟩] [])
  .ret)))
theorem c81 : codeOf Try.prog 81 = some (19, [(4, none)], fc81) := by kernel_rfl
def fc112 : FC := (.seq (.reg [⟨(some 4), none, .op (.mv (.t 0))⟩,
  ⟨(some 5), none, .op (.bin .ptr .neq (.t 4) (.v .nilp))⟩] [])
  (.cond (.t 5)
  (.reg [⟨(some 6), none, .op (.mv (.t 0))⟩,
  ⟨(some 7), none, .op (.mv (.t 0))⟩,
  ⟨(some 8), none, .op (.nchk (.t 7))⟩,
  ⟨(some 9), none, .op (.fad 1 (.t 8))⟩,
  ⟨(some 10), none, .op (.load none (.t 9))⟩,
  ⟨(some 11), none, .op (.mv (.t 1))⟩,
  ⟨(some 12), none, .op (.build [(.int .i64 0), (.int .u64 0)] [(0, 1, (.v (.int .i64 1))), (1, 1, (.t 11))])⟩,
  ⟨(some 13), none, .op (.bsl (some 2) [(.int .i64 0), (.int .u64 0)] 1 [(0, 2, (.t 12))])⟩,
  ⟨(some 14), none, .op (.app (some 2) 16 (.t 10) (.t 13))⟩,
  ⟨(some 15), none, .op (.nchk (.t 6))⟩,
  ⟨(some 16), none, .op (.fad 1 (.t 15))⟩,
  ⟨none, none, .op (.store 1 (.t 16) (.t 14))⟩] [])
  .skip))
theorem c112 : codeOf Try.prog 112 = some (17, [], fc112) := by kernel_rfl
def fc118 : FC := (.seq (.reg [⟨(some 7), none, .op (.mv (.t 0))⟩,
  ⟨(some 8), none, .op (.nchk (.t 7))⟩,
  ⟨(some 9), none, .op (.fad 8 (.t 8))⟩,
  ⟨(some 10), none, .op (.load none (.t 9))⟩,
  ⟨(some 11), none, .op (.mv (.t 0))⟩,
  ⟨(some 12), none, .op (.nchk (.t 11))⟩,
  ⟨(some 13), none, .op (.fad 8 (.t 12))⟩,
  ⟨(some 14), none, .op (.load none (.t 13))⟩,
  ⟨(some 15), none, .op (.len .sl (.t 14))⟩,
  ⟨(some 16), none, .op (.bin .none .sub (.t 15) (.v (.int .i64 1)))⟩,
  ⟨(some 17), none, .op (.iad none none (.t 10) (.t 16))⟩,
  ⟨(some 18), none, .op (.load none (.t 17))⟩,
  ⟨(some 4), none, .op (.mv (.t 18))⟩] [])
  (.seq (.reg [⟨(some 19), none, .op (.mv (.t 4))⟩,
  ⟨(some 20), none, .op (.mv (.t 1))⟩,
  ⟨(some 21), none, .op (.nchk (.t 19))⟩,
  ⟨(some 22), none, .op (.fad 3 (.t 21))⟩,
  ⟨none, none, .op (.store 1 (.t 22) (.t 20))⟩] [])
  (.block 0 (.loop (.seq (.seq (.reg [⟨(some 23), none, .op (.mv (.t 0))⟩,
  ⟨(some 24), none, .call 122 [(.t 23), (.v (.int .i64 1))]⟩,
  ⟨(some 25), none, .op (.un .not (.t 24))⟩] [])
  (.cond (.t 25)
  .skip
  (.exit 0)))
  (.block 1 (.seq (.reg [⟨(some 26), none, .op (.mv (.t 0))⟩,
  ⟨(some 27), none, .op (.mv (.t 0))⟩,
  ⟨(some 28), none, .op (.nchk (.t 27))⟩,
  ⟨(some 29), none, .op (.fad 8 (.t 28))⟩,
  ⟨(some 30), none, .op (.load none (.t 29))⟩,
  ⟨(some 31), none, .op (.mv (.t 0))⟩,
  ⟨(some 32), none, .op (.nchk (.t 31))⟩,
  ⟨(some 33), none, .op (.fad 8 (.t 32))⟩,
  ⟨(some 34), none, .op (.load none (.t 33))⟩,
  ⟨(some 35), none, .op (.len .sl (.t 34))⟩,
  ⟨(some 36), none, .op (.bin .none .sub (.t 35) (.v (.int .i64 1)))⟩,
  ⟨(some 37), none, .op (.slc none (.t 30) none (some (.t 36)) none)⟩,
  ⟨(some 38), none, .op (.nchk (.t 26))⟩,
  ⟨(some 39), none, .op (.fad 8 (.t 38))⟩,
  ⟨none, none, .op (.store 1 (.t 39) (.t 37))⟩] [])
  (.seq (.seq (.reg [⟨(some 40), none, .op (.mv (.t 0))⟩,
  ⟨(some 41), none, .op (.nchk (.t 40))⟩,
  ⟨(some 42), none, .op (.fad 8 (.t 41))⟩,
  ⟨(some 43), none, .op (.load none (.t 42))⟩,
  ⟨(some 44), none, .op (.len .sl (.t 43))⟩,
  ⟨(some 45), none, .op (.bin .none .eql (.t 44) (.v (.int .i64 0)))⟩] [])
  (.cond (.t 45)
  (.seq (.reg [⟨(some 46), none, .op (.mv (.t 0))⟩,
  ⟨(some 47), none, .op (.build [(.int .i64 0), (.int .u64 0)] [(0, 1, (.v (.int .i64 1)))])⟩,
  ⟨(some 48), none, .op (.nchk (.t 46))⟩,
  ⟨(some 49), none, .op (.fad 2 (.t 48))⟩,
  ⟨none, none, .op (.store 2 (.t 49) (.t 47))⟩] [])
  .ret)
  .skip))
  (.seq (.reg [⟨(some 50), none, .op (.mv (.t 0))⟩,
  ⟨(some 51), none, .op (.nchk (.t 50))⟩,
  ⟨(some 52), none, .op (.fad 8 (.t 51))⟩,
  ⟨(some 53), none, .op (.load none (.t 52))⟩,
  ⟨(some 54), none, .op (.mv (.t 0))⟩,
  ⟨(some 55), none, .op (.nchk (.t 54))⟩,
  ⟨(some 56), none, .op (.fad 8 (.t 55))⟩,
  ⟨(some 57), none, .op (.load none (.t 56))⟩,
  ⟨(some 58), none, .op (.len .sl (.t 57))⟩,
  ⟨(some 59), none, .op (.bin .none .sub (.t 58) (.v (.int .i64 1)))⟩,
  ⟨(some 60), none, .op (.iad none none (.t 53) (.t 59))⟩,
  ⟨(some 61), none, .op (.load none (.t 60))⟩,
  ⟨(some 5), none, .op (.mv (.t 61))⟩] [])
  (.seq (.seq (.reg [⟨(some 62), none, .op (.mv (.t 4))⟩,
  ⟨(some 63), none, .op (.nchk (.t 62))⟩,
  ⟨(some 64), none, .op (.fad 1 (.t 63))⟩,
  ⟨(some 65), none, .op (.load none (.t 64))⟩] [])
  (.block 2 (.seq (.reg [⟨(some 67), none, .op (.bin .none .eql (.t 65) (.v (.int .i64 0)))⟩,
  ⟨(some 66), none, .op (.mv (.t 67))⟩] [])
  (.cond (.t 66)
  (.seq (.reg [⟨(some 68), none, .op (.mv (.t 5))⟩,
  ⟨(some 69), none, .op (.nchk (.t 68))⟩,
  ⟨(some 70), none, .op (.fad 0 (.t 69))⟩,
  ⟨(some 71), none, .op (.load none (.t 70))⟩,
  ⟨(some 72), none, .op (.mv (.t 4))⟩,
  ⟨(some 73), none, .op (.nchk (.t 72))⟩,
  ⟨(some 74), none, .op (.fad 3 (.t 73))⟩,
  ⟨(some 75), none, .op (.load none (.t 74))⟩,
  ⟨(some 76), none, .op (.nchk (.t 71))⟩,
  ⟨(some 77), none, .op (.mv (.t 71))⟩,
  ⟨(some 78), none, .inv (.t 77) "Back" [(.t 75)]⟩] [])
  .ret)
  (.seq (.reg [⟨(some 80), none, .op (.bin .none .eql (.t 65) (.v (.int .i64 2)))⟩,
  ⟨(some 79), none, .op (.mv (.t 80))⟩] [])
  (.cond (.t 79)
  (.seq (.reg [⟨(some 81), none, .op (.mv (.t 0))⟩,
  ⟨(some 82), none, .op (.nchk (.t 81))⟩,
  ⟨(some 83), none, .op (.fad 9 (.t 82))⟩,
  ⟨(some 84), none, .op (.load none (.t 83))⟩,
  ⟨(some 85), none, .op (.len .sl (.t 84))⟩,
  ⟨(some 86), none, .op (.bin .none .sub (.t 85) (.v (.int .i64 1)))⟩,
  ⟨(some 6), none, .op (.mv (.t 86))⟩] [])
  (.seq (.seq (.reg [⟨(some 87), none, .op (.mv (.t 0))⟩,
  ⟨(some 88), none, .op (.nchk (.t 87))⟩,
  ⟨(some 89), none, .op (.fad 9 (.t 88))⟩,
  ⟨(some 90), none, .op (.load none (.t 89))⟩,
  ⟨(some 91), none, .op (.mv (.t 6))⟩,
  ⟨(some 92), none, .op (.iad none (some 2) (.t 90) (.t 91))⟩,
  ⟨(some 93), none, .op (.fad 1 (.t 92))⟩,
  ⟨(some 94), none, .op (.load none (.t 93))⟩,
  ⟨(some 95), none, .op (.un .not (.t 94))⟩] [])
  (.cond (.t 95)
  (.seq (.reg [⟨(some 96), none, .op (.mv (.t 0))⟩,
  ⟨(some 97), none, .call 103 [(.t 96)]⟩] [])
  .ret)
  .skip))
  (.seq (.reg [⟨(some 98), none, .op (.mv (.t 0))⟩,
  ⟨(some 99), none, .op (.mv (.t 0))⟩,
  ⟨(some 100), none, .op (.nchk (.t 99))⟩,
  ⟨(some 101), none, .op (.fad 9 (.t 100))⟩,
  ⟨(some 102), none, .op (.load none (.t 101))⟩,
  ⟨(some 103), none, .op (.mv (.t 6))⟩,
  ⟨(some 104), none, .op (.slc (some 2) (.t 102) none (some (.t 103)) none)⟩,
  ⟨(some 105), none, .op (.nchk (.t 98))⟩,
  ⟨(some 106), none, .op (.fad 9 (.t 105))⟩,
  ⟨none, none, .op (.store 1 (.t 106) (.t 104))⟩] [])
  (.reg [⟨(some 107), none, .op (.mv (.t 5))⟩,
  ⟨(some 108), none, .op (.mv (.t 5))⟩,
  ⟨(some 109), none, .op (.nchk (.t 108))⟩,
  ⟨(some 110), none, .op (.fad 0 (.t 109))⟩,
  ⟨(some 111), none, .op (.load none (.t 110))⟩,
  ⟨(some 112), none, .inv (.t 111) "Keep" []⟩,
  ⟨(some 113), none, .op (.nchk (.t 107))⟩,
  ⟨(some 114), none, .op (.fad 3 (.t 113))⟩,
  ⟨none, none, .op (.store 1 (.t 114) (.t 112))⟩] []))))
  .skip))))))
  (.reg [⟨(some 115), none, .op (.mv (.t 5))⟩,
  ⟨(some 4), none, .op (.mv (.t 115))⟩] [])))))))))))
theorem c118 : codeOf Try.prog 118 = some (116, [], fc118) := by kernel_rfl
def fc122 : FC := (.seq (.reg [⟨(some 4), none, .op (.mv (.v (.bool false)))⟩] [])
  (.seq (.reg [⟨(some 8), none, .op (.mv (.t 0))⟩,
  ⟨(some 9), none, .op (.nchk (.t 8))⟩,
  ⟨(some 10), none, .op (.fad 8 (.t 9))⟩,
  ⟨(some 11), none, .op (.load none (.t 10))⟩,
  ⟨(some 12), none, .op (.mv (.t 0))⟩,
  ⟨(some 13), none, .op (.nchk (.t 12))⟩,
  ⟨(some 14), none, .op (.fad 8 (.t 13))⟩,
  ⟨(some 15), none, .op (.load none (.t 14))⟩,
  ⟨(some 16), none, .op (.len .sl (.t 15))⟩,
  ⟨(some 17), none, .op (.bin .none .sub (.t 16) (.v (.int .i64 1)))⟩,
  ⟨(some 18), none, .op (.iad none none (.t 11) (.t 17))⟩,
  ⟨(some 19), none, .op (.load none (.t 18))⟩,
  ⟨(some 5), none, .op (.mv (.t 19))⟩] [])
  (.seq (.reg [⟨(some 20), none, .op (.mv (.t 5))⟩,
  ⟨(some 21), none, .op (.nchk (.t 20))⟩,
  ⟨(some 22), none, .op (.fad 2 (.t 21))⟩,
  ⟨(some 23), none, .op (.load none (.t 22))⟩,
  ⟨(some 24), none, .op (.len .sl (.t 23))⟩,
  ⟨(some 25), none, .op (.bin .none .sub (.t 24) (.v (.int .i64 1)))⟩,
  ⟨(some 6), none, .op (.mv (.t 25))⟩] [])
  (.seq (.seq (.reg [⟨(some 26), none, .op (.mv (.t 6))⟩,
  ⟨(some 27), none, .op (.bin .none .lss (.t 26) (.v (.int .i64 0)))⟩] [])
  (.cond (.t 27)
  (.seq (.reg [⟨(some 4), none, .op (.mv (.v (.bool false)))⟩] [])
  .ret)
  .skip))
  (.seq (.reg [⟨(some 28), none, .op (.mv (.t 5))⟩,
  ⟨(some 29), none, .op (.nchk (.t 28))⟩,
  ⟨(some 30), none, .op (.fad 2 (.t 29))⟩,
  ⟨(some 31), none, .op (.load none (.t 30))⟩,
  ⟨(some 32), none, .op (.mv (.t 6))⟩,
  ⟨(some 33), none, .op (.iad none (some 2) (.t 31) (.t 32))⟩,
  ⟨(some 34), none, .op (.load (some 2) (.t 33))⟩,
  ⟨(some 7), none, .op (.new [(.int .i64 0), .nils])⟩,
  ⟨none, none, .op (.store 2 (.t 7) (.t 34))⟩] [])
  (.seq (.reg [⟨(some 35), none, .op (.mv (.t 5))⟩,
  ⟨(some 36), none, .op (.mv (.t 5))⟩,
  ⟨(some 37), none, .op (.nchk (.t 36))⟩,
  ⟨(some 38), none, .op (.fad 2 (.t 37))⟩,
  ⟨(some 39), none, .op (.load none (.t 38))⟩,
  ⟨(some 40), none, .op (.mv (.t 6))⟩,
  ⟨(some 41), none, .op (.slc (some 2) (.t 39) none (some (.t 40)) none)⟩,
  ⟨(some 42), none, .op (.nchk (.t 35))⟩,
  ⟨(some 43), none, .op (.fad 2 (.t 42))⟩,
  ⟨none, none, .op (.store 1 (.t 43) (.t 41))⟩] [])
  (.seq (.reg [⟨(some 44), none, .op (.mv (.t 0))⟩,
  ⟨(some 45), none, .op (.nchk (.t 44))⟩,
  ⟨(some 46), none, .op (.fad 10 (.t 45))⟩,
  ⟨(some 47), none, .op (.load none (.t 46))⟩,
  ⟨(some 48), none, .op (.bin .none .sub (.t 47) (.v (.int .i64 1)))⟩,
  ⟨(some 49), none, .op (.nchk (.t 44))⟩,
  ⟨(some 50), none, .op (.fad 10 (.t 49))⟩,
  ⟨none, none, .op (.store 1 (.t 50) (.t 48))⟩] [])
  (.seq (.reg [⟨(some 51), none, .op (.mv (.t 0))⟩,
  ⟨(some 52), none, .op (.fad 0 (.t 7))⟩,
  ⟨(some 53), none, .op (.load none (.t 52))⟩,
  ⟨(some 54), none, .op (.fad 1 (.t 7))⟩,
  ⟨(some 55), none, .op (.load none (.t 54))⟩,
  ⟨(some 56), none, .op (.mv (.t 1))⟩,
  ⟨(some 57), none, .call 63 [(.t 51), (.t 53), (.t 55), (.t 56)]⟩] [])
  (.seq (.reg [⟨(some 4), none, .op (.mv (.v (.bool true)))⟩] [])
  .ret)))))))))
theorem c122 : codeOf Try.prog 122 = some (58, [(4, none)], fc122) := by kernel_rfl
def fc125 : FC := (.seq (.reg [⟨(some 7), none, .op (.mv (.t 0))⟩,
  ⟨(some 8), none, .op (.nchk (.t 7))⟩,
  ⟨(some 9), none, .op (.fad 1 (.t 8))⟩,
  ⟨(some 10), none, .op (.load none (.t 9))⟩,
  ⟨(some 11), none, .op (.nchk (.t 10))⟩,
  ⟨(some 12), none, .op (.fad 6 (.t 11))⟩,
  ⟨(some 13), none, .op (.load none (.t 12))⟩,
  ⟨(some 14), none, .op (.mv (.t 0))⟩,
  ⟨(some 15), none, .op (.nchk (.t 14))⟩,
  ⟨(some 16), none, .op (.fad 4 (.t 15))⟩,
  ⟨(some 17), none, .op (.load none (.t 16))⟩,
  ⟨(some 18), none, .op (.iad none (some 12) (.t 13) (.t 17))⟩,
  ⟨(some 19), none, .op (.load (some 12) (.t 18))⟩,
  ⟨(some 4), none, .op (.new [(.int .u8 0), (.int .u8 0), (.int .i64 0), (.int .i64 0), (.int .i64 0), (.int .i64 0), (.int .i64 0), (.int .i64 0), (.int .u64 0), .nils, (.int .i64 0), (.int .i64 0)])⟩,
  ⟨none, none, .op (.store 12 (.t 4) (.t 19))⟩] [(3, 13), (6, 13), (10, 13), (12, 13)])
  (.seq (.reg [⟨(some 20), none, .op (.mv (.t 0))⟩,
  ⟨(some 21), none, .op (.nchk (.t 20))⟩,
  ⟨(some 22), none, .op (.fad 0 (.t 21))⟩,
  ⟨(some 23), none, .op (.load none (.t 22))⟩,
  ⟨(some 24), none, .op (.nchk (.t 23))⟩,
  ⟨(some 25), none, .op (.fad 0 (.t 24))⟩,
  ⟨(some 26), none, .op (.load none (.t 25))⟩,
  ⟨(some 27), none, .op (.fad 6 (.t 4))⟩,
  ⟨(some 28), none, .op (.load none (.t 27))⟩,
  ⟨(some 29), none, .op (.iad none (some 8) (.t 26) (.t 28))⟩,
  ⟨(some 30), none, .op (.fad 4 (.t 29))⟩,
  ⟨(some 31), none, .op (.load none (.t 30))⟩,
  ⟨(some 5), none, .op (.mv (.t 31))⟩] [])
  (.seq (.seq (.reg [⟨(some 32), none, .op (.mv (.t 0))⟩,
  ⟨(some 33), none, .op (.nchk (.t 32))⟩,
  ⟨(some 34), none, .op (.fad 0 (.t 33))⟩,
  ⟨(some 35), none, .op (.load none (.t 34))⟩,
  ⟨(some 36), none, .op (.nchk (.t 35))⟩,
  ⟨(some 37), none, .op (.fad 1 (.t 36))⟩,
  ⟨(some 38), none, .op (.load none (.t 37))⟩] [])
  (.cond (.t 38)
  (.seq (.reg [⟨(some 39), none, .op (.mv (.v (.int .i64 0)))⟩] [])
  (.block 0 (.loop (.seq (.reg [⟨(some 40), none, .op (.bin .none .lss (.t 39) (.v (.int .i64 16)))⟩] [])
  (.seq (.cond (.t 40)
  .skip
  (.exit 0))
  (.seq (.block 1 (.seq (.reg [⟨(some 41), none, .op (.mv (.t 39))⟩,
  ⟨(some 6), none, .op (.mv (.t 41))⟩] [])
  (.block 2 (.seq (.reg [⟨(some 51), none, .op (.mv (.t 6))⟩,
  ⟨(some 52), none, .op (.bin .none .eql (.t 51) (.v (.int .i64 0)))⟩,
  ⟨(some 53), none, .op (.mv (.t 52))⟩,
  ⟨(some 54), some (53, true), .op (.mv (.t 5))⟩,
  ⟨(some 55), none, .op (.pick (.t 53) (.t 54) (.v (.bool false)))⟩,
  ⟨(some 50), none, .op (.mv (.t 55))⟩] [])
  (.cond (.t 50)
  (.reg [⟨(some 56), none, .op (.mv (.t 0))⟩,
  ⟨(some 57), none, .op (.nchk (.t 56))⟩,
  ⟨(some 58), none, .op (.fad 0 (.t 57))⟩,
  ⟨(some 59), none, .op (.load none (.t 58))⟩,
  ⟨(some 60), none, .op (.mv (.t 6))⟩,
  ⟨(some 61), none, .op (.mv (.t 1))⟩,
  ⟨(some 62), none, .op (.nchk (.t 59))⟩,
  ⟨(some 63), none, .op (.fad 2 (.t 62))⟩,
  ⟨(some 64), none, .op (.iad (some 16) none (.t 63) (.t 60))⟩,
  ⟨none, none, .op (.store 1 (.t 64) (.t 61))⟩] [])
  (.seq (.reg [⟨(some 66), none, .op (.mv (.t 6))⟩,
  ⟨(some 67), none, .op (.bin .none .geq (.t 66) (.v (.int .i64 6)))⟩,
  ⟨(some 68), none, .op (.mv (.t 67))⟩,
  ⟨(some 69), some (68, true), .op (.mv (.t 6))⟩,
  ⟨(some 70), some (68, true), .op (.bin .none .lss (.t 69) (.v (.int .i64 12)))⟩,
  ⟨(some 71), none, .op (.pick (.t 68) (.t 70) (.v (.bool false)))⟩,
  ⟨(some 65), none, .op (.mv (.t 71))⟩] [])
  (.cond (.t 65)
  (.reg [⟨(some 72), none, .op (.mv (.t 0))⟩,
  ⟨(some 73), none, .op (.nchk (.t 72))⟩,
  ⟨(some 74), none, .op (.fad 0 (.t 73))⟩,
  ⟨(some 75), none, .op (.load none (.t 74))⟩,
  ⟨(some 76), none, .op (.mv (.t 6))⟩,
  ⟨(some 77), none, .op (.mv (.t 0))⟩,
  ⟨(some 78), none, .op (.mv (.t 6))⟩,
  ⟨(some 79), none, .op (.nchk (.t 77))⟩,
  ⟨(some 80), none, .op (.fad 6 (.t 79))⟩,
  ⟨(some 81), none, .op (.iad (some 12) none (.t 80) (.t 78))⟩,
  ⟨(some 82), none, .op (.load none (.t 81))⟩,
  ⟨(some 83), none, .op (.nchk (.t 75))⟩,
  ⟨(some 84), none, .op (.fad 2 (.t 83))⟩,
  ⟨(some 85), none, .op (.iad (some 16) none (.t 84) (.t 76))⟩,
  ⟨none, none, .op (.store 1 (.t 85) (.t 82))⟩] [])
  (.reg [⟨(some 42), none, .op (.mv (.t 0))⟩,
  ⟨(some 43), none, .op (.nchk (.t 42))⟩,
  ⟨(some 44), none, .op (.fad 0 (.t 43))⟩,
  ⟨(some 45), none, .op (.load none (.t 44))⟩,
  ⟨(some 46), none, .op (.mv (.t 6))⟩,
  ⟨(some 47), none, .op (.nchk (.t 45))⟩,
  ⟨(some 48), none, .op (.fad 2 (.t 47))⟩,
  ⟨(some 49), none, .op (.iad (some 16) none (.t 48) (.t 46))⟩,
  ⟨none, none, .op (.store 1 (.t 49) (.v (.int .u64 6510615555426900570)))⟩] []))))))))
  (.reg [⟨(some 86), none, .op (.bin .none .add (.t 39) (.v (.int .i64 1)))⟩,
  ⟨(some 39), none, .op (.mv (.t 86))⟩] [])))))))
  (.reg [⟨(some 87), none, .op (.mv (.t 0))⟩,
  ⟨(some 88), none, .op (.fad 2 (.t 4))⟩,
  ⟨(some 89), none, .op (.load none (.t 88))⟩,
  ⟨(some 90), none, .op (.mv (.t 1))⟩,
  ⟨(some 91), none, .call 34 [(.t 87), (.t 89), (.t 90)]⟩] [])))
  (.reg [⟨(some 92), none, .op (.mv (.t 0))⟩,
  ⟨(some 93), none, .op (.fad 10 (.t 4))⟩,
  ⟨(some 94), none, .op (.load none (.t 93))⟩,
  ⟨(some 95), none, .op (.nchk (.t 92))⟩,
  ⟨(some 96), none, .op (.fad 4 (.t 95))⟩,
  ⟨none, none, .op (.store 1 (.t 96) (.t 94))⟩] []))))
theorem c125 : codeOf Try.prog 125 = some (97, [], fc125) := by kernel_rfl
def fc127 : FC := (.seq (.reg [⟨(some 8), none, .op (.mv (.t 0))⟩,
  ⟨(some 9), none, .op (.nchk (.t 8))⟩,
  ⟨(some 10), none, .op (.fad 1 (.t 9))⟩,
  ⟨(some 11), none, .op (.load none (.t 10))⟩,
  ⟨(some 12), none, .op (.nchk (.t 11))⟩,
  ⟨(some 13), none, .op (.fad 6 (.t 12))⟩,
  ⟨(some 14), none, .op (.load none (.t 13))⟩,
  ⟨(some 15), none, .op (.mv (.t 0))⟩,
  ⟨(some 16), none, .op (.nchk (.t 15))⟩,
  ⟨(some 17), none, .op (.fad 4 (.t 16))⟩,
  ⟨(some 18), none, .op (.load none (.t 17))⟩,
  ⟨(some 19), none, .op (.iad none (some 12) (.t 14) (.t 18))⟩,
  ⟨(some 20), none, .op (.load (some 12) (.t 19))⟩,
  ⟨(some 4), none, .op (.new [(.int .u8 0), (.int .u8 0), (.int .i64 0), (.int .i64 0), (.int .i64 0), (.int .i64 0), (.int .i64 0), (.int .i64 0), (.int .u64 0), .nils, (.int .i64 0), (.int .i64 0)])⟩,
  ⟨none, none, .op (.store 12 (.t 4) (.t 20))⟩] [(3, 13), (6, 13), (10, 13), (12, 13)])
  (.seq (.reg [⟨(some 21), none, .op (.fad 10 (.t 4))⟩,
  ⟨(some 22), none, .op (.load none (.t 21))⟩,
  ⟨(some 5), none, .op (.mv (.t 22))⟩] [])
  (.seq (.seq (.reg [⟨(some 23), none, .op (.fad 0 (.t 4))⟩,
  ⟨(some 24), none, .op (.load none (.t 23))⟩] [])
  (.block 0 (.seq (.reg [⟨(some 30), none, .op (.bin .none .eql (.t 24) (.v (.int .u8 1)))⟩,
  ⟨(some 29), none, .op (.mv (.t 30))⟩] [])
  (.cond (.t 29)
  (.reg [⟨(some 31), none, .op (.mv (.t 0))⟩,
  ⟨(some 32), none, .op (.fad 2 (.t 4))⟩,
  ⟨(some 33), none, .op (.load none (.t 32))⟩,
  ⟨(some 34), none, .op (.fad 8 (.t 4))⟩,
  ⟨(some 35), none, .op (.load none (.t 34))⟩,
  ⟨(some 36), none, .call 34 [(.t 31), (.t 33), (.t 35)]⟩] [])
  (.seq (.reg [⟨(some 38), none, .op (.bin .none .eql (.t 24) (.v (.int .u8 2)))⟩,
  ⟨(some 37), none, .op (.mv (.t 38))⟩] [])
  (.cond (.t 37)
  (.reg [⟨(some 39), none, .op (.mv (.t 0))⟩,
  ⟨(some 40), none, .op (.fad 2 (.t 4))⟩,
  ⟨(some 41), none, .op (.load none (.t 40))⟩,
  ⟨(some 42), none, .op (.mv (.t 0))⟩,
  ⟨(some 43), none, .op (.fad 4 (.t 4))⟩,
  ⟨(some 44), none, .op (.load none (.t 43))⟩,
  ⟨(some 45), none, .call 128 [(.t 42), (.t 44)]⟩,
  ⟨(some 46), none, .call 34 [(.t 39), (.t 41), (.t 45)]⟩] [(2, 6)])
  (.seq (.reg [⟨(some 48), none, .op (.bin .none .eql (.t 24) (.v (.int .u8 4)))⟩,
  ⟨(some 47), none, .op (.mv (.t 48))⟩] [])
  (.cond (.t 47)
  (.reg [⟨(some 49), none, .op (.mv (.t 0))⟩,
  ⟨(some 50), none, .op (.fad 2 (.t 4))⟩,
  ⟨(some 51), none, .op (.load none (.t 50))⟩,
  ⟨(some 52), none, .op (.mv (.t 0))⟩,
  ⟨(some 53), none, .op (.nchk (.t 52))⟩,
  ⟨(some 54), none, .op (.fad 3 (.t 53))⟩,
  ⟨(some 55), none, .op (.load none (.t 54))⟩,
  ⟨(some 56), none, .op (.fad 7 (.t 4))⟩,
  ⟨(some 57), none, .op (.load none (.t 56))⟩,
  ⟨(some 58), none, .op (.iad none none (.t 55) (.t 57))⟩,
  ⟨(some 59), none, .op (.load none (.t 58))⟩,
  ⟨(some 60), none, .call 34 [(.t 49), (.t 51), (.t 59)]⟩] [])
  (.seq (.reg [⟨(some 62), none, .op (.bin .none .eql (.t 24) (.v (.int .u8 5)))⟩,
  ⟨(some 61), none, .op (.mv (.t 62))⟩] [])
  (.cond (.t 61)
  (.reg [⟨(some 63), none, .op (.mv (.t 0))⟩,
  ⟨(some 64), none, .op (.nchk (.t 63))⟩,
  ⟨(some 65), none, .op (.fad 3 (.t 64))⟩,
  ⟨(some 66), none, .op (.load none (.t 65))⟩,
  ⟨(some 67), none, .op (.fad 7 (.t 4))⟩,
  ⟨(some 68), none, .op (.load none (.t 67))⟩,
  ⟨(some 69), none, .op (.mv (.t 0))⟩,
  ⟨(some 70), none, .op (.fad 4 (.t 4))⟩,
  ⟨(some 71), none, .op (.load none (.t 70))⟩,
  ⟨(some 72), none, .call 128 [(.t 69), (.t 71)]⟩,
  ⟨(some 73), none, .op (.iad none none (.t 66) (.t 68))⟩,
  ⟨none, none, .op (.store 1 (.t 73) (.t 72))⟩] [(3, 9), (5, 9)])
  (.seq (.reg [⟨(some 75), none, .op (.bin .none .eql (.t 24) (.v (.int .u8 6)))⟩,
  ⟨(some 74), none, .op (.mv (.t 75))⟩] [])
  (.cond (.t 74)
  (.reg [⟨(some 76), none, .op (.mv (.t 0))⟩,
  ⟨(some 77), none, .op (.fad 2 (.t 4))⟩,
  ⟨(some 78), none, .op (.load none (.t 77))⟩,
  ⟨(some 79), none, .op (.mv (.t 0))⟩,
  ⟨(some 80), none, .op (.nchk (.t 79))⟩,
  ⟨(some 81), none, .op (.fad 18 (.t 80))⟩,
  ⟨(some 82), none, .op (.load none (.t 81))⟩,
  ⟨(some 83), none, .op (.cint .u64 (.t 82))⟩,
  ⟨(some 84), none, .op (.bin .none .shl (.t 83) (.v (.int .u64 16)))⟩,
  ⟨(some 85), none, .op (.bin .none .or (.v (.int .u64 4611686018427387904)) (.t 84))⟩,
  ⟨(some 86), none, .op (.fad 7 (.t 4))⟩,
  ⟨(some 87), none, .op (.load none (.t 86))⟩,
  ⟨(some 88), none, .op (.cint .u64 (.t 87))⟩,
  ⟨(some 89), none, .op (.bin .none .or (.t 85) (.t 88))⟩,
  ⟨(some 90), none, .call 34 [(.t 76), (.t 78), (.t 89)]⟩] [])
  (.seq (.reg [⟨(some 92), none, .op (.bin .none .eql (.t 24) (.v (.int .u8 9)))⟩,
  ⟨(some 91), none, .op (.mv (.t 92))⟩] [])
  (.cond (.t 91)
  (.seq (.reg [⟨(some 93), none, .op (.mv (.t 0))⟩,
  ⟨(some 94), none, .op (.fad 4 (.t 4))⟩,
  ⟨(some 95), none, .op (.load none (.t 94))⟩,
  ⟨(some 96), none, .call 128 [(.t 93), (.t 95)]⟩,
  ⟨(some 97), none, .op (.bin .none .eql (.t 96) (.v (.int .u64 0)))⟩] [])
  (.cond (.t 97)
  (.reg [⟨(some 98), none, .op (.fad 11 (.t 4))⟩,
  ⟨(some 99), none, .op (.load none (.t 98))⟩,
  ⟨(some 5), none, .op (.mv (.t 99))⟩] [])
  .skip))
  (.seq (.reg [⟨(some 101), none, .op (.bin .none .eql (.t 24) (.v (.int .u8 10)))⟩,
  ⟨(some 100), none, .op (.mv (.t 101))⟩] [])
  (.cond (.t 100)
  .skip
  (.seq (.reg [⟨(some 103), none, .op (.bin .none .eql (.t 24) (.v (.int .u8 16)))⟩,
  ⟨(some 102), none, .op (.mv (.t 103))⟩] [])
  (.cond (.t 102)
  (.reg [⟨(some 104), none, .op (.mv (.t 0))⟩,
  ⟨(some 105), none, .op (.fad 2 (.t 4))⟩,
  ⟨(some 106), none, .op (.load none (.t 105))⟩,
  ⟨(some 107), none, .op (.mv (.t 1))⟩,
  ⟨(some 108), none, .op (.nchk (.t 107))⟩,
  ⟨(some 109), none, .op (.fad 0 (.t 108))⟩,
  ⟨(some 110), none, .op (.load none (.t 109))⟩,
  ⟨(some 111), none, .call 104 [(.t 110)]⟩,
  ⟨(some 112), none, .call 34 [(.t 104), (.t 106), (.t 111)]⟩] [(2, 7)])
  (.seq (.reg [⟨(some 114), none, .op (.bin .none .eql (.t 24) (.v (.int .u8 17)))⟩,
  ⟨(some 113), none, .op (.mv (.t 114))⟩] [])
  (.cond (.t 113)
  (.reg [⟨(some 115), none, .op (.mv (.t 1))⟩,
  ⟨(some 116), none, .op (.nchk (.t 115))⟩,
  ⟨(some 117), none, .op (.fad 0 (.t 116))⟩,
  ⟨(some 118), none, .op (.load none (.t 117))⟩,
  ⟨(some 119), none, .op (.mv (.t 0))⟩,
  ⟨(some 120), none, .op (.fad 4 (.t 4))⟩,
  ⟨(some 121), none, .op (.load none (.t 120))⟩,
  ⟨(some 122), none, .call 128 [(.t 119), (.t 121)]⟩,
  ⟨(some 123), none, .call 112 [(.t 118), (.t 122)]⟩] [(3, 7)])
  (.seq (.reg [⟨(some 125), none, .op (.bin .none .eql (.t 24) (.v (.int .u8 15)))⟩,
  ⟨(some 124), none, .op (.mv (.t 125))⟩] [])
  (.cond (.t 124)
  (.seq (.reg [⟨(some 127), none, .op (.mv (.t 1))⟩,
  ⟨(some 128), none, .call 119 [(.t 127)]⟩,
  ⟨(some 126), none, .op (.mv (.t 128))⟩,
  ⟨(some 129), none, .op (.ext 0 (.t 126))⟩,
  ⟨(some 130), none, .op (.ext 1 (.t 126))⟩,
  ⟨(some 6), none, .op (.mv (.t 129))⟩,
  ⟨(some 7), none, .op (.mv (.t 130))⟩] [])
  (.seq (.reg [⟨(some 131), none, .op (.mv (.t 0))⟩,
  ⟨(some 132), none, .op (.fad 2 (.t 4))⟩,
  ⟨(some 133), none, .op (.load none (.t 132))⟩,
  ⟨(some 134), none, .op (.mv (.t 6))⟩,
  ⟨(some 135), none, .call 34 [(.t 131), (.t 133), (.t 134)]⟩] [])
  (.reg [⟨(some 136), none, .op (.mv (.t 0))⟩,
  ⟨(some 137), none, .op (.fad 3 (.t 4))⟩,
  ⟨(some 138), none, .op (.load none (.t 137))⟩,
  ⟨(some 139), none, .op (.mv (.t 7))⟩,
  ⟨(some 140), none, .call 34 [(.t 136), (.t 138), (.t 139)]⟩] [])))
  (.seq (.reg [⟨(some 25), none, .op (.mv (.t 0))⟩,
  ⟨(some 26), none, .op (.mv (.t 1))⟩,
  ⟨(some 27), none, .op (.load (some 12) (.t 4))⟩,
  ⟨(some 28), none, .call 129 [(.t 25), (.t 26), (.t 27)]⟩] [])
  .ret)))))))))))))))))))))))
  (.reg [⟨(some 141), none, .op (.mv (.t 0))⟩,
  ⟨(some 142), none, .op (.mv (.t 5))⟩,
  ⟨(some 143), none, .op (.nchk (.t 141))⟩,
  ⟨(some 144), none, .op (.fad 4 (.t 143))⟩,
  ⟨none, none, .op (.store 1 (.t 144) (.t 142))⟩] []))))
theorem c127 : codeOf Try.prog 127 = some (145, [], fc127) := by kernel_rfl
def fc128 : FC := (.seq (.reg [⟨(some 4), none, .op (.mv (.v (.int .u64 0)))⟩] [])
  (.seq (.reg [⟨(some 5), none, .op (.mv (.t 0))⟩,
  ⟨(some 6), none, .op (.mv (.t 1))⟩,
  ⟨(some 7), none, .call 62 [(.t 5), (.t 6)]⟩,
  ⟨(some 8), none, .op (.nchk (.t 7))⟩,
  ⟨(some 9), none, .op (.load none (.t 8))⟩,
  ⟨(some 4), none, .op (.mv (.t 9))⟩] [])
  .ret))
theorem c128 : codeOf Try.prog 128 = some (10, [(4, none)], fc128) := by kernel_rfl
def fc129 : FC := (.seq (.reg [⟨(some 5), none, .op (.box (.t 2))⟩] [])
  (.seq (.reg [⟨(some 10), none, .op (.fad 0 (.t 5))⟩,
  ⟨(some 11), none, .op (.load none (.t 10))⟩] [])
  (.block 0 (.seq (.reg [⟨(some 21), none, .op (.bin .none .eql (.t 11) (.v (.int .u8 3)))⟩,
  ⟨(some 20), none, .op (.mv (.t 21))⟩] [])
  (.cond (.t 20)
  (.seq (.reg [⟨(some 23), none, .op (.fad 1 (.t 5))⟩,
  ⟨(some 24), none, .op (.load none (.t 23))⟩,
  ⟨(some 25), none, .op (.mv (.t 0))⟩,
  ⟨(some 26), none, .op (.fad 4 (.t 5))⟩,
  ⟨(some 27), none, .op (.load none (.t 26))⟩,
  ⟨(some 28), none, .call 128 [(.t 25), (.t 27)]⟩,
  ⟨(some 29), none, .op (.mv (.t 0))⟩,
  ⟨(some 30), none, .op (.fad 5 (.t 5))⟩,
  ⟨(some 31), none, .op (.load none (.t 30))⟩,
  ⟨(some 32), none, .call 128 [(.t 29), (.t 31)]⟩,
  ⟨(some 33), none, .call 120 [(.t 24), (.t 28), (.t 32)]⟩,
  ⟨(some 22), none, .op (.mv (.t 33))⟩,
  ⟨(some 34), none, .op (.ext 0 (.t 22))⟩,
  ⟨(some 35), none, .op (.ext 1 (.t 22))⟩,
  ⟨(some 6), none, .op (.mv (.t 34))⟩,
  ⟨(some 7), none, .op (.mv (.t 35))⟩] [(1, 5), (5, 8), (1, 9)])
  (.seq (.seq (.reg [⟨(some 36), none, .op (.mv (.t 7))⟩,
  ⟨(some 37), none, .op (.bin .none .neq (.t 36) (.v (.int .i64 0)))⟩] [])
  (.cond (.t 37)
  (.seq (.reg [⟨(some 38), none, .op (.mv (.t 1))⟩,
  ⟨(some 39), none, .call 115 [(.t 38), (.v (.int .u64 18446744073709551615))]⟩] [])
  .ret)
  .skip))
  (.seq (.reg [⟨(some 40), none, .op (.mv (.t 0))⟩,
  ⟨(some 41), none, .op (.fad 2 (.t 5))⟩,
  ⟨(some 42), none, .op (.load none (.t 41))⟩,
  ⟨(some 43), none, .op (.mv (.t 6))⟩,
  ⟨(some 44), none, .call 34 [(.t 40), (.t 42), (.t 43)]⟩] [])
  (.reg [⟨(some 45), none, .op (.mv (.t 0))⟩,
  ⟨(some 46), none, .op (.fad 10 (.t 5))⟩,
  ⟨(some 47), none, .op (.load none (.t 46))⟩,
  ⟨(some 48), none, .op (.nchk (.t 45))⟩,
  ⟨(some 49), none, .op (.fad 4 (.t 48))⟩,
  ⟨none, none, .op (.store 1 (.t 49) (.t 47))⟩] []))))
  (.seq (.seq (.reg [⟨(some 51), none, .op (.bin .none .eql (.t 11) (.v (.int .u8 7)))⟩,
  ⟨(some 50), none, .op (.mv (.t 51))⟩] [])
  (.cond (.t 50)
  .skip
  (.reg [⟨(some 52), none, .op (.bin .none .eql (.t 11) (.v (.int .u8 8)))⟩,
  ⟨(some 50), none, .op (.mv (.t 52))⟩] [])))
  (.cond (.t 50)
  (.seq (.reg [⟨(some 53), none, .op (.mv (.t 1))⟩,
  ⟨(some 54), none, .op (.mv (.t 0))⟩,
  ⟨(some 55), none, .op (.fad 4 (.t 5))⟩,
  ⟨(some 56), none, .op (.load none (.t 55))⟩,
  ⟨(some 57), none, .call 128 [(.t 54), (.t 56)]⟩,
  ⟨(some 58), none, .call 130 [(.t 53), (.t 57)]⟩,
  ⟨(some 8), none, .op (.mv (.t 58))⟩] [])
  (.seq (.seq (.reg [⟨(some 59), none, .op (.mv (.t 8))⟩,
  ⟨(some 60), none, .op (.bin .ptr .eql (.t 59) (.v .nilp))⟩] [])
  (.cond (.t 60)
  (.seq (.reg [⟨(some 61), none, .op (.mv (.t 1))⟩,
  ⟨(some 62), none, .call 115 [(.t 61), (.v (.int .u64 18446744073709551614))]⟩] [])
  .ret)
  .skip))
  (.seq (.seq (.reg [⟨(some 63), none, .op (.fad 0 (.t 5))⟩,
  ⟨(some 64), none, .op (.load none (.t 63))⟩,
  ⟨(some 65), none, .op (.bin .none .eql (.t 64) (.v (.int .u8 7)))⟩] [])
  (.cond (.t 65)
  (.reg [⟨(some 66), none, .op (.mv (.t 0))⟩,
  ⟨(some 67), none, .op (.fad 2 (.t 5))⟩,
  ⟨(some 68), none, .op (.load none (.t 67))⟩,
  ⟨(some 69), none, .op (.mv (.t 8))⟩,
  ⟨(some 70), none, .op (.nchk (.t 69))⟩,
  ⟨(some 71), none, .op (.load none (.t 70))⟩,
  ⟨(some 72), none, .call 34 [(.t 66), (.t 68), (.t 71)]⟩] [])
  (.reg [⟨(some 73), none, .op (.mv (.t 8))⟩,
  ⟨(some 74), none, .op (.mv (.t 0))⟩,
  ⟨(some 75), none, .op (.fad 5 (.t 5))⟩,
  ⟨(some 76), none, .op (.load none (.t 75))⟩,
  ⟨(some 77), none, .call 128 [(.t 74), (.t 76)]⟩,
  ⟨(some 78), none, .op (.nchk (.t 73))⟩,
  ⟨none, none, .op (.store 1 (.t 78) (.t 77))⟩] [])))
  (.reg [⟨(some 79), none, .op (.mv (.t 0))⟩,
  ⟨(some 80), none, .op (.fad 10 (.t 5))⟩,
  ⟨(some 81), none, .op (.load none (.t 80))⟩,
  ⟨(some 82), none, .op (.nchk (.t 79))⟩,
  ⟨(some 83), none, .op (.fad 4 (.t 82))⟩,
  ⟨none, none, .op (.store 1 (.t 83) (.t 81))⟩] []))))
  (.seq (.reg [⟨(some 85), none, .op (.bin .none .eql (.t 11) (.v (.int .u8 11)))⟩,
  ⟨(some 84), none, .op (.mv (.t 85))⟩] [])
  (.cond (.t 84)
  (.seq (.reg [⟨(some 86), none, .op (.mv (.t 0))⟩,
  ⟨(some 87), none, .op (.nchk (.t 86))⟩,
  ⟨(some 88), none, .op (.fad 6 (.t 87))⟩,
  ⟨(some 89), none, .op (.slp 12 none (.t 88) none none)⟩,
  ⟨(some 90), none, .op (.mv (.t 0))⟩,
  ⟨(some 91), none, .op (.nchk (.t 90))⟩,
  ⟨(some 92), none, .op (.fad 0 (.t 91))⟩,
  ⟨(some 93), none, .op (.load none (.t 92))⟩,
  ⟨(some 94), none, .op (.nchk (.t 93))⟩,
  ⟨(some 95), none, .op (.fad 2 (.t 94))⟩,
  ⟨(some 96), none, .op (.slp 16 none (.t 95) none none)⟩,
  ⟨(some 97), none, .op (.cpy none (.t 89) (.t 96))⟩] [])
  (.reg [⟨(some 98), none, .op (.mv (.t 1))⟩,
  ⟨(some 99), none, .op (.fad 6 (.t 5))⟩,
  ⟨(some 100), none, .op (.load none (.t 99))⟩,
  ⟨(some 101), none, .op (.mv (.t 0))⟩,
  ⟨(some 102), none, .op (.load (some 12) (.t 5))⟩,
  ⟨(some 103), none, .call 131 [(.t 101), (.t 102)]⟩,
  ⟨(some 104), none, .call 35 [(.t 98), (.t 100), (.t 103)]⟩] [(2, 5)]))
  (.seq (.reg [⟨(some 106), none, .op (.bin .none .eql (.t 11) (.v (.int .u8 13)))⟩,
  ⟨(some 105), none, .op (.mv (.t 106))⟩] [])
  (.cond (.t 105)
  (.seq (.reg [⟨(some 107), none, .op (.mv (.t 0))⟩,
  ⟨(some 108), none, .op (.fad 10 (.t 5))⟩,
  ⟨(some 109), none, .op (.load none (.t 108))⟩,
  ⟨(some 110), none, .op (.nchk (.t 107))⟩,
  ⟨(some 111), none, .op (.fad 4 (.t 110))⟩,
  ⟨none, none, .op (.store 1 (.t 111) (.t 109))⟩] [])
  (.reg [⟨(some 112), none, .op (.mv (.t 1))⟩,
  ⟨(some 113), none, .op (.fad 6 (.t 5))⟩,
  ⟨(some 114), none, .op (.load none (.t 113))⟩,
  ⟨(some 115), none, .op (.mv (.t 0))⟩,
  ⟨(some 116), none, .op (.load (some 12) (.t 5))⟩,
  ⟨(some 117), none, .call 131 [(.t 115), (.t 116)]⟩,
  ⟨(some 118), none, .call 117 [(.t 112), (.t 114), (.t 117)]⟩] [(2, 5)]))
  (.seq (.reg [⟨(some 120), none, .op (.bin .none .eql (.t 11) (.v (.int .u8 12)))⟩,
  ⟨(some 119), none, .op (.mv (.t 120))⟩] [])
  (.cond (.t 119)
  (.seq (.reg [⟨(some 9), none, .op (.mv (.v (.int .u64 0)))⟩] [])
  (.seq (.seq (.reg [⟨(some 121), none, .op (.fad 4 (.t 5))⟩,
  ⟨(some 122), none, .op (.load none (.t 121))⟩,
  ⟨(some 123), none, .op (.bin .none .geq (.t 122) (.v (.int .i64 0)))⟩] [])
  (.cond (.t 123)
  (.reg [⟨(some 124), none, .op (.mv (.t 0))⟩,
  ⟨(some 125), none, .op (.fad 4 (.t 5))⟩,
  ⟨(some 126), none, .op (.load none (.t 125))⟩,
  ⟨(some 127), none, .call 128 [(.t 124), (.t 126)]⟩,
  ⟨(some 9), none, .op (.mv (.t 127))⟩] [])
  .skip))
  (.reg [⟨(some 128), none, .op (.mv (.t 1))⟩,
  ⟨(some 129), none, .op (.mv (.t 9))⟩,
  ⟨(some 130), none, .call 118 [(.t 128), (.t 129)]⟩] [])))
  (.seq (.reg [⟨(some 132), none, .op (.bin .none .eql (.t 11) (.v (.int .u8 14)))⟩,
  ⟨(some 131), none, .op (.mv (.t 132))⟩] [])
  (.cond (.t 131)
  (.reg [⟨(some 133), none, .op (.mv (.t 1))⟩,
  ⟨(some 134), none, .op (.mv (.t 0))⟩,
  ⟨(some 135), none, .op (.fad 4 (.t 5))⟩,
  ⟨(some 136), none, .op (.load none (.t 135))⟩,
  ⟨(some 137), none, .call 128 [(.t 134), (.t 136)]⟩,
  ⟨(some 138), none, .call 115 [(.t 133), (.t 137)]⟩] [])
  (.reg [⟨(some 12), none, .op (.mv (.t 1))⟩,
  ⟨(some 13), none, .op (.mv (.t 0))⟩,
  ⟨(some 14), none, .op (.fad 4 (.t 5))⟩,
  ⟨(some 15), none, .op (.load none (.t 14))⟩,
  ⟨(some 16), none, .call 128 [(.t 13), (.t 15)]⟩,
  ⟨(some 17), none, .op (.build [(.int .i64 0), (.int .u64 0)] [(0, 1, (.v (.int .i64 1))), (1, 1, (.t 16))])⟩,
  ⟨(some 18), none, .op (.nchk (.t 12))⟩,
  ⟨(some 19), none, .op (.fad 2 (.t 18))⟩,
  ⟨none, none, .op (.store 2 (.t 19) (.t 17))⟩] []))))))))))))))))
theorem c129 : codeOf Try.prog 129 = some (139, [], fc129) := by kernel_rfl
def fc131 : FC := (.seq (.reg [⟨(some 3), none, .op (.box (.t 1))⟩,
  ⟨(some 4), none, .op (.mv (.v .nils))⟩] [])
  (.seq (.reg [⟨(some 5), none, .op (.mv (.v .nils))⟩] [])
  (.seq (.seq (.reg [⟨(some 8), none, .op (.fad 9 (.t 3))⟩,
  ⟨(some 9), none, .op (.load none (.t 8))⟩,
  ⟨(some 10), none, .op (.len .sl (.t 9))⟩,
  ⟨(some 11), none, .op (.mv (.v (.int .i64 0)))⟩] [])
  (.block 0 (.loop (.seq (.reg [⟨(some 12), none, .op (.bin .none .lss (.t 11) (.t 10))⟩] [])
  (.seq (.cond (.t 12)
  .skip
  (.exit 0))
  (.seq (.block 1 (.seq (.reg [⟨(some 13), none, .op (.iad none none (.t 9) (.t 11))⟩,
  ⟨(some 14), none, .op (.load none (.t 13))⟩,
  ⟨(some 7), none, .op (.mv (.t 14))⟩] [])
  (.reg [⟨(some 15), none, .op (.mv (.t 5))⟩,
  ⟨(some 16), none, .op (.mv (.t 0))⟩,
  ⟨(some 17), none, .op (.mv (.t 7))⟩,
  ⟨(some 18), none, .call 128 [(.t 16), (.t 17)]⟩,
  ⟨(some 19), none, .op (.bsl none [(.int .u64 0)] 1 [(0, 1, (.t 18))])⟩,
  ⟨(some 20), none, .op (.app none 8 (.t 15) (.t 19))⟩,
  ⟨(some 5), none, .op (.mv (.t 20))⟩] [])))
  (.reg [⟨(some 21), none, .op (.bin .none .add (.t 11) (.v (.int .i64 1)))⟩,
  ⟨(some 11), none, .op (.mv (.t 21))⟩] [])))))))
  (.seq (.reg [⟨(some 22), none, .op (.mv (.t 5))⟩,
  ⟨(some 4), none, .op (.mv (.t 22))⟩] [])
  .ret))))
theorem c131 : codeOf Try.prog 131 = some (23, [(4, none)], fc131) := by kernel_rfl
def tabL : List (Nat × (Nat × List RS × FC)) := [(3, 78, [(6, none)], fc3), (10, 42, [(0, none)], fc10), (11, 67, [(8, (some (some 7))), (9, none)], fc11), (18, 87, [(4, none)], fc18), (19, 7, [(2, none)], fc19), (20, 81, [(8, none)], fc20), (21, 46, [], fc21), (22, 10, [(2, none)], fc22), (31, 185, [(2, none)], fc31), (32, 254, [(4, none)], fc32), (33, 8, [(2, none)], fc33), (34, 13, [], fc34), (35, 10, [], fc35), (36, 8, [(2, none)], fc36), (55, 9, [(4, none)], fc55), (56, 5, [(2, none)], fc56), (59, 51, [(6, none)], fc59), (60, 32, [(2, none)], fc60), (61, 82, [(4, none)], fc61), (62, 30, [(4, none)], fc62), (63, 46, [], fc63), (81, 19, [(4, none)], fc81), (112, 17, [], fc112), (118, 116, [], fc118), (122, 58, [(4, none)], fc122), (125, 97, [], fc125), (127, 145, [], fc127), (128, 10, [(4, none)], fc128), (129, 139, [], fc129), (131, 23, [(4, none)], fc131)]
theorem tabL_ok : allC Try.prog tabL := ⟨c3, c10, c11, c18, c19, c20, c21, c22, c31, c32, c33, c34, c35, c36, c55, c56, c59, c60, c61, c62, c63, c81, c112, c118, c122, c125, c127, c128, c129, c131, trivial⟩
theorem mixed : Try.prog.follows .mixedOrders = true := by kernel_rfl
end Go.Proofs.Ytjgdppgagihejaa
