/- The code of the functions that are met, resolved; the kernel holds each against the program's own text. Printed by a program. -/
import Derived.Test.YtjgdppgagihejaaWlY2
import Derived.Test.YtjgdppgagihejaaRows
namespace Go.Proofs.Ytjgdppgagihejaa
open Go Go.Ab Go.RowKit
set_option maxRecDepth 100000
set_option linter.unusedVariables false
def fc5 : FC := (.seq (.reg [⟨(some 4), none, .op (.mv (.v (.bool false)))⟩] [])
  (.seq (.seq (.reg [⟨(some 14), none, .call 12 []⟩,
  ⟨(some 15), none, .op (.un .not (.t 14))⟩] [])
  (.cond (.t 15)
  (.seq (.reg [⟨(some 4), none, .op (.mv (.v (.bool false)))⟩] [])
  .ret)
  .skip))
  (.seq (.reg [⟨(some 16), none, .op (.mv (.t 0))⟩,
  ⟨(some 17), none, .op (.mv (.t 0))⟩,
  ⟨(some 18), none, .op (.len .sl (.t 17))⟩,
  ⟨(some 19), none, .op (.mn false (.t 18) (.v (.int .i64 40)))⟩,
  ⟨(some 20), none, .op (.slc none (.t 16) none (some (.t 19)) none)⟩,
  ⟨(some 5), none, .op (.mv (.t 20))⟩] [])
  (.seq (.reg [⟨(some 6), none, .op (.mv (.v .nils))⟩] [])
  (.seq (.seq (.reg [⟨(some 21), none, .op (.mv (.t 5))⟩,
  ⟨(some 22), none, .op (.len .sl (.t 21))⟩,
  ⟨(some 23), none, .op (.mv (.v (.int .i64 0)))⟩] [])
  (.block 0 (.loop (.seq (.reg [⟨(some 24), none, .op (.bin .none .lss (.t 23) (.t 22))⟩] [])
  (.seq (.cond (.t 24)
  .skip
  (.exit 0))
  (.seq (.block 1 (.seq (.reg [⟨(some 25), none, .op (.iad none none (.t 21) (.t 23))⟩,
  ⟨(some 26), none, .op (.load none (.t 25))⟩,
  ⟨(some 8), none, .op (.mv (.t 26))⟩] [])
  (.reg [⟨(some 27), none, .op (.mv (.t 6))⟩,
  ⟨(some 28), none, .op (.mv (.t 8))⟩,
  ⟨(some 29), none, .op (.build [(.int .u8 0), (.int .i64 0), (.int .u64 0)] [(0, 1, (.v (.int .u8 1))), (2, 1, (.t 28))])⟩,
  ⟨(some 30), none, .op (.build [(.int .u8 0), (.int .i64 0), (.int .u64 0)] [(0, 1, (.v (.int .u8 25))), (1, 1, (.v (.int .i64 1)))])⟩,
  ⟨(some 31), none, .op (.bsl (some 3) [(.int .u8 0), (.int .i64 0), (.int .u64 0)] 2 [(0, 3, (.t 29)), (3, 3, (.t 30))])⟩,
  ⟨(some 32), none, .op (.app (some 3) 24 (.t 27) (.t 31))⟩,
  ⟨(some 6), none, .op (.mv (.t 32))⟩] [])))
  (.reg [⟨(some 33), none, .op (.bin .none .add (.t 23) (.v (.int .i64 1)))⟩,
  ⟨(some 23), none, .op (.mv (.t 33))⟩] [])))))))
  (.seq (.reg [⟨(some 34), none, .op (.build [(.int .i64 0), (.int .u64 0)] [(0, 1, (.v (.int .i64 1)))])⟩,
  ⟨(some 9), none, .op (.new [(.int .i64 0), (.int .u64 0)])⟩,
  ⟨none, none, .op (.store 2 (.t 9) (.t 34))⟩] [])
  (.seq (.seq (.reg [⟨(some 35), none, .op (.mv (.t 1))⟩] [])
  (.cond (.t 35)
  (.seq (.reg [⟨(some 36), none, .op (.mv (.t 6))⟩,
  ⟨(some 37), none, .op (.build [(.int .u8 0), (.int .i64 0), (.int .u64 0)] [(0, 1, (.v (.int .u8 1))), (2, 1, (.v (.int .u64 9)))])⟩,
  ⟨(some 38), none, .op (.build [(.int .u8 0), (.int .i64 0), (.int .u64 0)] [(0, 1, (.v (.int .u8 26)))])⟩,
  ⟨(some 39), none, .op (.bsl (some 3) [(.int .u8 0), (.int .i64 0), (.int .u64 0)] 2 [(0, 3, (.t 37)), (3, 3, (.t 38))])⟩,
  ⟨(some 40), none, .op (.app (some 3) 24 (.t 36) (.t 39))⟩,
  ⟨(some 6), none, .op (.mv (.t 40))⟩] [])
  (.reg [⟨(some 41), none, .op (.build [(.int .i64 0), (.int .u64 0)] [(0, 1, (.v (.int .i64 2))), (1, 1, (.v (.int .u64 9)))])⟩,
  ⟨none, none, .op (.store 2 (.t 9) (.t 41))⟩] []))
  (.reg [⟨(some 42), none, .op (.mv (.t 6))⟩,
  ⟨(some 43), none, .op (.build [(.int .u8 0), (.int .i64 0), (.int .u64 0)] [(0, 1, (.v (.int .u8 24)))])⟩,
  ⟨(some 44), none, .op (.bsl (some 3) [(.int .u8 0), (.int .i64 0), (.int .u64 0)] 1 [(0, 3, (.t 43))])⟩,
  ⟨(some 45), none, .op (.app (some 3) 24 (.t 42) (.t 44))⟩,
  ⟨(some 6), none, .op (.mv (.t 45))⟩] [])))
  (.seq (.reg [⟨(some 47), none, .op (.mv (.t 6))⟩,
  ⟨(some 48), none, .op (.build [(.int .i64 0), .nils, (.bool false), (.int .i64 0), .nils] [(3, 1, (.v (.int .i64 (-1)))), (4, 1, (.t 47))])⟩,
  ⟨(some 49), none, .op (.bsl none [(.int .u8 0)] 1 [(0, 1, (.v (.int .u8 0)))])⟩,
  ⟨(some 50), none, .op (.build [(.int .u8 0), (.int .i64 0), (.int .u64 0)] [(0, 1, (.v (.int .u8 2)))])⟩,
  ⟨(some 51), none, .op (.build [(.int .u8 0), (.int .i64 0), (.int .u64 0)] [(0, 1, (.v (.int .u8 29)))])⟩,
  ⟨(some 52), none, .op (.build [(.int .u8 0), (.int .i64 0), (.int .u64 0)] [(0, 1, (.v (.int .u8 24)))])⟩,
  ⟨(some 53), none, .op (.bsl (some 3) [(.int .u8 0), (.int .i64 0), (.int .u64 0)] 3 [(0, 3, (.t 50)), (3, 3, (.t 51)), (6, 3, (.t 52))])⟩,
  ⟨(some 54), none, .op (.build [(.int .i64 0), .nils, (.bool false), (.int .i64 0), .nils] [(0, 1, (.v (.int .i64 1))), (1, 1, (.t 49)), (3, 1, (.v (.int .i64 (-1)))), (4, 1, (.t 53))])⟩,
  ⟨(some 55), none, .op (.bsl (some 5) [(.int .i64 0), .nils, (.bool false), (.int .i64 0), .nils] 2 [(0, 5, (.t 48)), (5, 5, (.t 54))])⟩,
  ⟨(some 56), none, .op (.build [.nils] [(0, 1, (.t 55))])⟩,
  ⟨(some 57), none, .call 13 [(.t 56), (.v .nils), (.v (.int .i64 1000))]⟩,
  ⟨(some 46), none, .op (.mv (.t 57))⟩,
  ⟨(some 58), none, .op (.ext 0 (.t 46))⟩,
  ⟨(some 59), none, .op (.ext 1 (.t 46))⟩,
  ⟨(some 10), none, .op (.new [.nils, (.int .i64 0), (.int .u64 0), (.int .i64 0), (.int .i64 0), (.int .i64 0), (.int .i64 0)])⟩,
  ⟨none, none, .op (.store 7 (.t 10) (.t 58))⟩,
  ⟨(some 11), none, .op (.mv (.t 59))⟩] [])
  (.seq (.seq (.reg [⟨(some 60), none, .op (.mv (.t 11))⟩,
  ⟨(some 61), none, .op (.bin .none .neq (.t 60) (.v (.int .i64 0)))⟩,
  ⟨(some 62), none, .op (.mv (.t 61))⟩,
  ⟨(some 63), some (62, false), .op (.fad 1 (.t 10))⟩,
  ⟨(some 64), some (62, false), .op (.load (some 2) (.t 63))⟩,
  ⟨(some 65), some (62, false), .op (.load (some 2) (.t 9))⟩,
  ⟨(some 66), some (62, false), .op (.eqs [.int, .int] .neq (.t 64) (.t 65))⟩,
  ⟨(some 67), none, .op (.pick (.t 62) (.v (.bool true)) (.t 66))⟩,
  ⟨(some 68), none, .op (.mv (.t 67))⟩,
  ⟨(some 69), some (68, false), .op (.fad 0 (.t 10))⟩,
  ⟨(some 70), some (68, false), .op (.load none (.t 69))⟩,
  ⟨(some 71), some (68, false), .op (.len .sl (.t 70))⟩,
  ⟨(some 72), some (68, false), .op (.mv (.t 5))⟩,
  ⟨(some 73), some (68, false), .op (.len .sl (.t 72))⟩,
  ⟨(some 74), some (68, false), .op (.bin .none .neq (.t 71) (.t 73))⟩,
  ⟨(some 75), none, .op (.pick (.t 68) (.v (.bool true)) (.t 74))⟩,
  ⟨(some 76), none, .op (.mv (.t 75))⟩,
  ⟨(some 77), some (76, false), .op (.fad 5 (.t 10))⟩,
  ⟨(some 78), some (76, false), .op (.load none (.t 77))⟩,
  ⟨(some 79), some (76, false), .op (.mv (.t 5))⟩,
  ⟨(some 80), some (76, false), .op (.len .sl (.t 79))⟩,
  ⟨(some 81), some (76, false), .op (.bin .none .neq (.t 78) (.t 80))⟩,
  ⟨(some 82), none, .op (.pick (.t 76) (.v (.bool true)) (.t 81))⟩] [])
  (.cond (.t 82)
  (.seq (.reg [⟨(some 4), none, .op (.mv (.v (.bool false)))⟩] [])
  .ret)
  .skip))
  (.seq (.seq (.reg [⟨(some 83), none, .op (.fad 0 (.t 10))⟩,
  ⟨(some 84), none, .op (.load none (.t 83))⟩,
  ⟨(some 85), none, .op (.len .sl (.t 84))⟩,
  ⟨(some 86), none, .op (.mv (.v (.int .i64 0)))⟩] [])
  (.block 2 (.loop (.seq (.reg [⟨(some 87), none, .op (.bin .none .lss (.t 86) (.t 85))⟩] [])
  (.seq (.cond (.t 87)
  .skip
  (.exit 2))
  (.seq (.block 3 (.seq (.reg [⟨(some 88), none, .op (.mv (.t 86))⟩,
  ⟨(some 89), none, .op (.iad none (some 2) (.t 84) (.t 86))⟩,
  ⟨(some 90), none, .op (.load (some 2) (.t 89))⟩,
  ⟨(some 13), none, .op (.new [(.int .i64 0), (.int .u64 0)])⟩,
  ⟨(some 12), none, .op (.mv (.t 88))⟩,
  ⟨none, none, .op (.store 2 (.t 13) (.t 90))⟩] [])
  (.seq (.reg [⟨(some 91), none, .op (.load (some 2) (.t 13))⟩,
  ⟨(some 92), none, .op (.mv (.t 5))⟩,
  ⟨(some 93), none, .op (.mv (.t 5))⟩,
  ⟨(some 94), none, .op (.len .sl (.t 93))⟩,
  ⟨(some 95), none, .op (.bin .none .sub (.t 94) (.v (.int .i64 1)))⟩,
  ⟨(some 96), none, .op (.mv (.t 12))⟩,
  ⟨(some 97), none, .op (.bin .none .sub (.t 95) (.t 96))⟩,
  ⟨(some 98), none, .op (.iad none none (.t 92) (.t 97))⟩,
  ⟨(some 99), none, .op (.load none (.t 98))⟩,
  ⟨(some 100), none, .op (.build [(.int .i64 0), (.int .u64 0)] [(0, 1, (.v (.int .i64 1))), (1, 1, (.t 99))])⟩,
  ⟨(some 101), none, .op (.eqs [.int, .int] .neq (.t 91) (.t 100))⟩] [])
  (.cond (.t 101)
  (.seq (.reg [⟨(some 4), none, .op (.mv (.v (.bool false)))⟩] [])
  .ret)
  .skip))))
  (.reg [⟨(some 102), none, .op (.bin .none .add (.t 86) (.v (.int .i64 1)))⟩,
  ⟨(some 86), none, .op (.mv (.t 102))⟩] [])))))))
  (.seq (.reg [⟨(some 4), none, .op (.mv (.v (.bool true)))⟩] [])
  .ret)))))))))))
theorem c5 : codeOf Try.prog 5 = some (103, [(4, none)], fc5) := by kernel_rfl
def fc12 : FC := (.seq (.reg [⟨(some 0), none, .op (.mv (.v (.bool false)))⟩] [])
  (.seq (.reg [⟨(some 4), none, .op (.build [(.int .u8 0), (.int .i64 0), (.int .u64 0)] [(0, 1, (.v (.int .u8 25))), (1, 1, (.v (.int .i64 1)))])⟩,
  ⟨(some 5), none, .op (.build [(.int .u8 0), (.int .i64 0), (.int .u64 0)] [(0, 1, (.v (.int .u8 1))), (2, 1, (.v (.int .u64 5)))])⟩,
  ⟨(some 6), none, .op (.build [(.int .u8 0), (.int .i64 0), (.int .u64 0)] [(0, 1, (.v (.int .u8 26)))])⟩,
  ⟨(some 7), none, .op (.bsl (some 3) [(.int .u8 0), (.int .i64 0), (.int .u64 0)] 3 [(0, 3, (.t 4)), (3, 3, (.t 5)), (6, 3, (.t 6))])⟩,
  ⟨(some 8), none, .op (.build [(.int .i64 0), .nils, (.bool false), (.int .i64 0), .nils] [(3, 1, (.v (.int .i64 (-1)))), (4, 1, (.t 7))])⟩,
  ⟨(some 9), none, .op (.build [(.int .u8 0), (.int .i64 0), (.int .u64 0)] [(0, 1, (.v (.int .u8 27)))])⟩,
  ⟨(some 10), none, .op (.build [(.int .u8 0), (.int .i64 0), (.int .u64 0)] [(0, 1, (.v (.int .u8 31)))])⟩,
  ⟨(some 11), none, .op (.build [(.int .u8 0), (.int .i64 0), (.int .u64 0)] [(0, 1, (.v (.int .u8 29)))])⟩,
  ⟨(some 12), none, .op (.build [(.int .u8 0), (.int .i64 0), (.int .u64 0)] [(0, 1, (.v (.int .u8 24)))])⟩,
  ⟨(some 13), none, .op (.bsl (some 3) [(.int .u8 0), (.int .i64 0), (.int .u64 0)] 4 [(0, 3, (.t 9)), (3, 3, (.t 10)), (6, 3, (.t 11)), (9, 3, (.t 12))])⟩,
  ⟨(some 14), none, .op (.build [(.int .i64 0), .nils, (.bool false), (.int .i64 0), .nils] [(3, 1, (.v (.int .i64 (-1)))), (4, 1, (.t 13))])⟩,
  ⟨(some 15), none, .op (.bsl (some 5) [(.int .i64 0), .nils, (.bool false), (.int .i64 0), .nils] 2 [(0, 5, (.t 8)), (5, 5, (.t 14))])⟩,
  ⟨(some 16), none, .op (.build [.nils] [(0, 1, (.t 15))])⟩,
  ⟨(some 17), none, .call 13 [(.t 16), (.v .nils), (.v (.int .i64 100))]⟩,
  ⟨(some 3), none, .op (.mv (.t 17))⟩,
  ⟨(some 18), none, .op (.ext 0 (.t 3))⟩,
  ⟨(some 19), none, .op (.ext 1 (.t 3))⟩,
  ⟨(some 1), none, .op (.new [.nils, (.int .i64 0), (.int .u64 0), (.int .i64 0), (.int .i64 0), (.int .i64 0), (.int .i64 0)])⟩,
  ⟨none, none, .op (.store 7 (.t 1) (.t 18))⟩,
  ⟨(some 2), none, .op (.mv (.t 19))⟩] [])
  (.seq (.reg [⟨(some 20), none, .op (.mv (.t 2))⟩,
  ⟨(some 21), none, .op (.bin .none .eql (.t 20) (.v (.int .i64 0)))⟩,
  ⟨(some 22), none, .op (.mv (.t 21))⟩,
  ⟨(some 23), some (22, true), .op (.fad 1 (.t 1))⟩,
  ⟨(some 24), some (22, true), .op (.load (some 2) (.t 23))⟩,
  ⟨(some 25), some (22, true), .op (.build [(.int .i64 0), (.int .u64 0)] [(0, 1, (.v (.int .i64 1)))])⟩,
  ⟨(some 26), some (22, true), .op (.eqs [.int, .int] .eql (.t 24) (.t 25))⟩,
  ⟨(some 27), none, .op (.pick (.t 22) (.t 26) (.v (.bool false)))⟩,
  ⟨(some 28), none, .op (.mv (.t 27))⟩,
  ⟨(some 29), some (28, true), .op (.fad 0 (.t 1))⟩,
  ⟨(some 30), some (28, true), .op (.load none (.t 29))⟩,
  ⟨(some 31), some (28, true), .op (.len .sl (.t 30))⟩,
  ⟨(some 32), some (28, true), .op (.bin .none .eql (.t 31) (.v (.int .i64 1)))⟩,
  ⟨(some 33), none, .op (.pick (.t 28) (.t 32) (.v (.bool false)))⟩,
  ⟨(some 34), none, .op (.mv (.t 33))⟩,
  ⟨(some 35), some (34, true), .op (.fad 0 (.t 1))⟩,
  ⟨(some 36), some (34, true), .op (.load none (.t 35))⟩,
  ⟨(some 37), some (34, true), .op (.iad none (some 2) (.t 36) (.v (.int .i64 0)))⟩,
  ⟨(some 38), some (34, true), .op (.fad 1 (.t 37))⟩,
  ⟨(some 39), some (34, true), .op (.load none (.t 38))⟩,
  ⟨(some 40), some (34, true), .op (.bin .none .eql (.t 39) (.v (.int .u64 5)))⟩,
  ⟨(some 41), none, .op (.pick (.t 34) (.t 40) (.v (.bool false)))⟩,
  ⟨(some 42), none, .op (.mv (.t 41))⟩,
  ⟨(some 43), some (42, true), .op (.fad 3 (.t 1))⟩,
  ⟨(some 44), some (42, true), .op (.load none (.t 43))⟩,
  ⟨(some 45), some (42, true), .op (.bin .none .eql (.t 44) (.v (.int .i64 7)))⟩,
  ⟨(some 46), none, .op (.pick (.t 42) (.t 45) (.v (.bool false)))⟩,
  ⟨(some 0), none, .op (.mv (.t 46))⟩] [])
  .ret)))
theorem c12 : codeOf Try.prog 12 = some (47, [(0, none)], fc12) := by kernel_rfl
def fc13 : FC := (.seq (.reg [⟨(some 3), none, .op (.box (.t 0))⟩,
  ⟨(some 6), none, .op (.new [.nils, (.int .i64 0), (.int .u64 0), (.int .i64 0), (.int .i64 0), (.int .i64 0), (.int .i64 0)])⟩,
  ⟨(some 7), none, .op (.mv (.v (.int .i64 0)))⟩] [])
  (.seq (.seq (.reg [⟨(some 12), none, .op (.load (some 1) (.t 3))⟩,
  ⟨(some 13), none, .call 23 [(.t 12)]⟩,
  ⟨(some 11), none, .op (.mv (.t 13))⟩,
  ⟨(some 14), none, .op (.ext 0 (.t 11))⟩,
  ⟨(some 15), none, .op (.ext 1 (.t 11))⟩,
  ⟨(some 8), none, .op (.mv (.t 14))⟩,
  ⟨(some 9), none, .op (.mv (.t 15))⟩] [])
  (.seq (.reg [⟨(some 16), none, .op (.mv (.t 9))⟩,
  ⟨(some 17), none, .op (.bin .none .neq (.t 16) (.v (.int .i64 0)))⟩] [])
  (.cond (.t 17)
  (.seq (.reg [⟨(some 18), none, .op (.build [.nils, (.int .i64 0), (.int .u64 0), (.int .i64 0), (.int .i64 0), (.int .i64 0), (.int .i64 0)] [])⟩,
  ⟨(some 19), none, .op (.mv (.t 9))⟩,
  ⟨none, none, .op (.store 7 (.t 6) (.t 18))⟩,
  ⟨(some 7), none, .op (.mv (.t 19))⟩] [])
  .ret)
  .skip)))
  (.seq (.seq (.reg [⟨(some 20), none, .op (.mv (.t 2))⟩,
  ⟨(some 21), none, .op (.bin .none .lss (.t 20) (.v (.int .i64 0)))⟩,
  ⟨(some 22), none, .op (.mv (.t 21))⟩,
  ⟨(some 23), some (22, false), .op (.mv (.t 2))⟩,
  ⟨(some 24), some (22, false), .op (.bin .none .gtr (.t 23) (.v (.int .i64 1048576)))⟩,
  ⟨(some 25), none, .op (.pick (.t 22) (.v (.bool true)) (.t 24))⟩] [])
  (.cond (.t 25)
  (.seq (.reg [⟨(some 26), none, .op (.build [.nils, (.int .i64 0), (.int .u64 0), (.int .i64 0), (.int .i64 0), (.int .i64 0), (.int .i64 0)] [])⟩,
  ⟨none, none, .op (.store 7 (.t 6) (.t 26))⟩,
  ⟨(some 7), none, .op (.mv (.v (.int .i64 2)))⟩] [])
  .ret)
  .skip))
  (.seq (.reg [⟨(some 27), none, .op (.mv (.t 1))⟩,
  ⟨(some 28), none, .call 19 [(.t 27)]⟩,
  ⟨(some 29), none, .op (.build [.nilp, .nilf, (.int .i64 0), (.int .u64 0), (.int .i64 0), (.int .i64 0), (.int .i64 0), (.int .i64 0), .nils, .nils, (.int .i64 0)] [(0, 1, (.t 28))])⟩,
  ⟨(some 30), none, .op (.box (.t 29))⟩,
  ⟨(some 10), none, .op (.mv (.t 30))⟩] [])
  (.seq (.reg [⟨(some 31), none, .op (.mv (.t 10))⟩,
  ⟨(some 32), none, .op (.mkf (.func 24) [] [(.t 3)])⟩,
  ⟨(some 33), none, .op (.nchk (.t 31))⟩,
  ⟨(some 34), none, .op (.fad 1 (.t 33))⟩,
  ⟨none, none, .op (.store 1 (.t 34) (.t 32))⟩] [])
  (.seq (.reg [⟨(some 35), none, .op (.mv (.t 10))⟩,
  ⟨(some 36), none, .op (.mv (.t 2))⟩,
  ⟨(some 37), none, .call 21 [(.t 35), (.t 36)]⟩] [])
  (.seq (.reg [⟨(some 38), none, .op (.mv (.t 10))⟩,
  ⟨(some 39), none, .op (.nchk (.t 38))⟩,
  ⟨(some 40), none, .op (.fad 0 (.t 39))⟩,
  ⟨(some 41), none, .op (.load none (.t 40))⟩,
  ⟨(some 42), none, .call 22 [(.t 41)]⟩,
  ⟨(some 43), none, .op (.mv (.t 10))⟩,
  ⟨(some 44), none, .op (.nchk (.t 43))⟩,
  ⟨(some 45), none, .op (.fad 2 (.t 44))⟩,
  ⟨(some 46), none, .op (.load (some 2) (.t 45))⟩,
  ⟨(some 47), none, .op (.mv (.t 10))⟩,
  ⟨(some 48), none, .op (.nchk (.t 47))⟩,
  ⟨(some 49), none, .op (.fad 4 (.t 48))⟩,
  ⟨(some 50), none, .op (.load none (.t 49))⟩,
  ⟨(some 51), none, .op (.mv (.t 10))⟩,
  ⟨(some 52), none, .op (.nchk (.t 51))⟩,
  ⟨(some 53), none, .op (.fad 5 (.t 52))⟩,
  ⟨(some 54), none, .op (.load none (.t 53))⟩,
  ⟨(some 55), none, .op (.mv (.t 10))⟩,
  ⟨(some 56), none, .op (.nchk (.t 55))⟩,
  ⟨(some 57), none, .op (.fad 6 (.t 56))⟩,
  ⟨(some 58), none, .op (.load none (.t 57))⟩,
  ⟨(some 59), none, .op (.mv (.t 10))⟩,
  ⟨(some 60), none, .op (.nchk (.t 59))⟩,
  ⟨(some 61), none, .op (.fad 7 (.t 60))⟩,
  ⟨(some 62), none, .op (.load none (.t 61))⟩,
  ⟨(some 63), none, .op (.build [.nils, (.int .i64 0), (.int .u64 0), (.int .i64 0), (.int .i64 0), (.int .i64 0), (.int .i64 0)] [(0, 1, (.t 42)), (1, 2, (.t 46)), (3, 1, (.t 50)), (4, 1, (.t 54)), (5, 1, (.t 58)), (6, 1, (.t 62))])⟩,
  ⟨none, none, .op (.store 7 (.t 6) (.t 63))⟩,
  ⟨(some 7), none, .op (.mv (.v (.int .i64 0)))⟩] [(4, 8), (4, 12), (4, 16), (4, 20), (4, 24)])
  .ret)))))))
theorem c13 : codeOf Try.prog 13 = some (64, [(6, (some (some 7))), (7, none)], fc13) := by kernel_rfl
def fc19 : FC := (.seq (.reg [⟨(some 2), none, .op (.mv (.v .nilp))⟩] [])
  (.seq (.reg [⟨(some 3), none, .op (.mv (.t 0))⟩,
  ⟨(some 4), none, .call 33 [(.t 3)]⟩,
  ⟨(some 5), none, .op (.build [.nils, .nils] [(0, 1, (.t 4))])⟩,
  ⟨(some 6), none, .op (.box (.t 5))⟩,
  ⟨(some 2), none, .op (.mv (.t 6))⟩] [])
  .ret))
theorem c19 : codeOf Try.prog 19 = some (7, [(2, none)], fc19) := by kernel_rfl
def fc21 : FC := (.seq (.reg [⟨(some 4), none, .op (.mv (.t 0))⟩,
  ⟨(some 5), none, .call 35 [(.t 4), (.v (.int .i64 0)), (.v .nils)]⟩] [])
  (.block 0 (.loop (.seq (.seq (.reg [⟨(some 6), none, .op (.mv (.t 0))⟩,
  ⟨(some 7), none, .op (.nchk (.t 6))⟩,
  ⟨(some 8), none, .op (.fad 2 (.t 7))⟩,
  ⟨(some 9), none, .op (.fad 0 (.t 8))⟩,
  ⟨(some 10), none, .op (.load none (.t 9))⟩,
  ⟨(some 11), none, .op (.bin .none .eql (.t 10) (.v (.int .i64 0)))⟩] [])
  (.cond (.t 11)
  .skip
  (.exit 0)))
  (.block 1 (.seq (.seq (.reg [⟨(some 12), none, .op (.mv (.t 0))⟩,
  ⟨(some 13), none, .op (.nchk (.t 12))⟩,
  ⟨(some 14), none, .op (.fad 4 (.t 13))⟩,
  ⟨(some 15), none, .op (.load none (.t 14))⟩,
  ⟨(some 16), none, .op (.mv (.t 1))⟩,
  ⟨(some 17), none, .op (.bin .none .eql (.t 15) (.t 16))⟩] [])
  (.cond (.t 17)
  (.seq (.reg [⟨(some 18), none, .op (.mv (.t 0))⟩,
  ⟨(some 19), none, .op (.nchk (.t 18))⟩,
  ⟨(some 20), none, .op (.fad 2 (.t 19))⟩,
  ⟨(some 21), none, .op (.fad 0 (.t 20))⟩,
  ⟨none, none, .op (.store 1 (.t 21) (.v (.int .i64 3)))⟩] [])
  .ret)
  .skip))
  (.seq (.reg [⟨(some 22), none, .op (.mv (.t 0))⟩,
  ⟨(some 23), none, .op (.nchk (.t 22))⟩,
  ⟨(some 24), none, .op (.fad 4 (.t 23))⟩,
  ⟨(some 25), none, .op (.load none (.t 24))⟩,
  ⟨(some 26), none, .op (.bin .none .add (.t 25) (.v (.int .i64 1)))⟩,
  ⟨(some 27), none, .op (.nchk (.t 22))⟩,
  ⟨(some 28), none, .op (.fad 4 (.t 27))⟩,
  ⟨none, none, .op (.store 1 (.t 28) (.t 26))⟩] [])
  (.reg [⟨(some 29), none, .op (.mv (.t 0))⟩,
  ⟨(some 30), none, .op (.nchk (.t 29))⟩,
  ⟨(some 31), none, .op (.fad 8 (.t 30))⟩,
  ⟨(some 32), none, .op (.load none (.t 31))⟩,
  ⟨(some 33), none, .op (.mv (.t 0))⟩,
  ⟨(some 34), none, .op (.nchk (.t 33))⟩,
  ⟨(some 35), none, .op (.fad 8 (.t 34))⟩,
  ⟨(some 36), none, .op (.load none (.t 35))⟩,
  ⟨(some 37), none, .op (.len .sl (.t 36))⟩,
  ⟨(some 38), none, .op (.bin .none .sub (.t 37) (.v (.int .i64 1)))⟩,
  ⟨(some 39), none, .op (.iad none none (.t 32) (.t 38))⟩,
  ⟨(some 40), none, .op (.load none (.t 39))⟩,
  ⟨(some 41), none, .op (.nchk (.t 40))⟩,
  ⟨(some 42), none, .op (.fad 0 (.t 41))⟩,
  ⟨(some 43), none, .op (.load none (.t 42))⟩,
  ⟨(some 44), none, .op (.mv (.t 0))⟩,
  ⟨(some 45), none, .inv (.t 43) "Step" [(.t 44)]⟩] []))))))))
theorem c21 : codeOf Try.prog 21 = some (46, [], fc21) := by kernel_rfl
def fc22 : FC := (.seq (.reg [⟨(some 2), none, .op (.mv (.v .nils))⟩] [])
  (.seq (.seq (.reg [⟨(some 3), none, .op (.mv (.t 0))⟩,
  ⟨(some 4), none, .op (.bin .ptr .eql (.t 3) (.v .nilp))⟩] [])
  (.cond (.t 4)
  (.seq (.reg [⟨(some 2), none, .op (.mv (.v .nils))⟩] [])
  .ret)
  .skip))
  (.seq (.reg [⟨(some 5), none, .op (.mv (.t 0))⟩,
  ⟨(some 6), none, .op (.nchk (.t 5))⟩,
  ⟨(some 7), none, .op (.fad 1 (.t 6))⟩,
  ⟨(some 8), none, .op (.load none (.t 7))⟩,
  ⟨(some 9), none, .call 36 [(.t 8)]⟩,
  ⟨(some 2), none, .op (.mv (.t 9))⟩] [])
  .ret)))
theorem c22 : codeOf Try.prog 22 = some (10, [(2, none)], fc22) := by kernel_rfl
def fc23 : FC := (.seq (.reg [⟨(some 1), none, .op (.box (.t 0))⟩,
  ⟨(some 2), none, .op (.mv (.v .nilp))⟩,
  ⟨(some 3), none, .op (.mv (.v (.int .i64 0)))⟩] [])
  (.seq (.seq (.reg [⟨(some 17), none, .op (.load (some 1) (.t 1))⟩,
  ⟨(some 18), none, .call 37 [(.t 17)]⟩,
  ⟨(some 16), none, .op (.mv (.t 18))⟩,
  ⟨(some 19), none, .op (.ext 0 (.t 16))⟩,
  ⟨(some 20), none, .op (.ext 1 (.t 16))⟩,
  ⟨(some 4), none, .op (.mv (.t 19))⟩,
  ⟨(some 5), none, .op (.mv (.t 20))⟩] [])
  (.seq (.reg [⟨(some 21), none, .op (.mv (.t 5))⟩,
  ⟨(some 22), none, .op (.bin .none .neq (.t 21) (.v (.int .i64 0)))⟩] [])
  (.cond (.t 22)
  (.seq (.reg [⟨(some 23), none, .op (.mv (.t 5))⟩,
  ⟨(some 2), none, .op (.mv (.v .nilp))⟩,
  ⟨(some 3), none, .op (.mv (.t 23))⟩] [])
  .ret)
  .skip)))
  (.seq (.seq (.reg [⟨(some 24), none, .op (.load (some 1) (.t 1))⟩,
  ⟨(some 25), none, .call 38 [(.t 24)]⟩,
  ⟨(some 26), none, .op (.un .not (.t 25))⟩] [])
  (.cond (.t 26)
  (.seq (.reg [⟨(some 2), none, .op (.mv (.v .nilp))⟩,
  ⟨(some 3), none, .op (.mv (.v (.int .i64 31)))⟩] [])
  .ret)
  .skip))
  (.seq (.seq (.reg [⟨(some 27), none, .op (.fad 0 (.t 1))⟩,
  ⟨(some 28), none, .op (.load none (.t 27))⟩,
  ⟨(some 29), none, .op (.iad none (some 5) (.t 28) (.v (.int .i64 0)))⟩,
  ⟨(some 30), none, .op (.fad 0 (.t 29))⟩,
  ⟨(some 31), none, .op (.load none (.t 30))⟩,
  ⟨(some 32), none, .op (.bin .none .gtr (.t 31) (.v (.int .i64 0)))⟩,
  ⟨(some 33), none, .op (.mv (.t 32))⟩,
  ⟨(some 34), some (33, false), .op (.fad 0 (.t 1))⟩,
  ⟨(some 35), some (33, false), .op (.load none (.t 34))⟩,
  ⟨(some 36), some (33, false), .op (.iad none (some 5) (.t 35) (.v (.int .i64 0)))⟩,
  ⟨(some 37), some (33, false), .op (.fad 2 (.t 36))⟩,
  ⟨(some 38), some (33, false), .op (.load none (.t 37))⟩,
  ⟨(some 39), none, .op (.pick (.t 33) (.v (.bool true)) (.t 38))⟩] [])
  (.cond (.t 39)
  (.seq (.reg [⟨(some 2), none, .op (.mv (.v .nilp))⟩,
  ⟨(some 3), none, .op (.mv (.v (.int .i64 50)))⟩] [])
  .ret)
  .skip))
  (.seq (.seq (.reg [⟨(some 40), none, .op (.fad 0 (.t 1))⟩,
  ⟨(some 41), none, .op (.load none (.t 40))⟩,
  ⟨(some 42), none, .op (.len .sl (.t 41))⟩,
  ⟨(some 43), none, .op (.mv (.v (.int .i64 0)))⟩] [])
  (.block 0 (.loop (.seq (.reg [⟨(some 44), none, .op (.bin .none .lss (.t 43) (.t 42))⟩] [])
  (.seq (.cond (.t 44)
  .skip
  (.exit 0))
  (.seq (.block 1 (.seq (.reg [⟨(some 45), none, .op (.iad none (some 5) (.t 41) (.t 43))⟩,
  ⟨(some 46), none, .op (.load (some 5) (.t 45))⟩,
  ⟨(some 7), none, .op (.new [(.int .i64 0), .nils, (.bool false), (.int .i64 0), .nils])⟩,
  ⟨none, none, .op (.store 5 (.t 7) (.t 46))⟩] [])
  (.seq (.reg [⟨(some 47), none, .op (.load (some 1) (.t 1))⟩,
  ⟨(some 48), none, .op (.load (some 5) (.t 7))⟩,
  ⟨(some 49), none, .call 39 [(.t 47), (.t 48)]⟩,
  ⟨(some 50), none, .op (.un .not (.t 49))⟩] [])
  (.cond (.t 50)
  (.seq (.reg [⟨(some 2), none, .op (.mv (.v .nilp))⟩,
  ⟨(some 3), none, .op (.mv (.v (.int .i64 50)))⟩] [])
  .ret)
  .skip))))
  (.reg [⟨(some 51), none, .op (.bin .none .add (.t 43) (.v (.int .i64 1)))⟩,
  ⟨(some 43), none, .op (.mv (.t 51))⟩] [])))))))
  (.seq (.reg [⟨(some 52), none, .op (.build [.nils, .nils] [])⟩,
  ⟨(some 53), none, .op (.box (.t 52))⟩,
  ⟨(some 8), none, .op (.mv (.t 53))⟩] [])
  (.seq (.reg [⟨(some 9), none, .op (.mv (.v (.bool false)))⟩] [])
  (.seq (.seq (.reg [⟨(some 54), none, .op (.fad 0 (.t 1))⟩,
  ⟨(some 55), none, .op (.load none (.t 54))⟩,
  ⟨(some 56), none, .op (.len .sl (.t 55))⟩,
  ⟨(some 57), none, .op (.mv (.v (.int .i64 0)))⟩] [])
  (.block 2 (.loop (.seq (.reg [⟨(some 58), none, .op (.bin .none .lss (.t 57) (.t 56))⟩] [])
  (.seq (.cond (.t 58)
  .skip
  (.exit 2))
  (.seq (.block 3 (.seq (.reg [⟨(some 59), none, .op (.iad none (some 5) (.t 55) (.t 57))⟩,
  ⟨(some 60), none, .op (.load (some 5) (.t 59))⟩,
  ⟨(some 11), none, .op (.new [(.int .i64 0), .nils, (.bool false), (.int .i64 0), .nils])⟩,
  ⟨none, none, .op (.store 5 (.t 11) (.t 60))⟩] [])
  (.seq (.reg [⟨(some 62), none, .op (.load (some 1) (.t 1))⟩,
  ⟨(some 63), none, .op (.load (some 5) (.t 11))⟩,
  ⟨(some 64), none, .call 40 [(.t 62), (.t 63)]⟩,
  ⟨(some 61), none, .op (.mv (.t 64))⟩,
  ⟨(some 65), none, .op (.ext 0 (.t 61))⟩,
  ⟨(some 66), none, .op (.ext 1 (.t 61))⟩,
  ⟨(some 67), none, .op (.ext 2 (.t 61))⟩,
  ⟨(some 68), none, .op (.ext 3 (.t 61))⟩,
  ⟨(some 12), none, .op (.mv (.t 65))⟩,
  ⟨(some 13), none, .op (.mv (.t 66))⟩,
  ⟨(some 14), none, .op (.mv (.t 67))⟩,
  ⟨(some 15), none, .op (.mv (.t 68))⟩] [])
  (.seq (.seq (.reg [⟨(some 69), none, .op (.mv (.t 15))⟩,
  ⟨(some 70), none, .op (.bin .none .neq (.t 69) (.v (.int .i64 0)))⟩] [])
  (.cond (.t 70)
  (.seq (.reg [⟨(some 71), none, .op (.mv (.t 15))⟩,
  ⟨(some 2), none, .op (.mv (.v .nilp))⟩,
  ⟨(some 3), none, .op (.mv (.t 71))⟩] [])
  .ret)
  .skip))
  (.seq (.reg [⟨(some 72), none, .op (.mv (.t 9))⟩,
  ⟨(some 73), none, .op (.mv (.t 72))⟩,
  ⟨(some 74), some (73, false), .op (.mv (.t 14))⟩,
  ⟨(some 75), none, .op (.pick (.t 73) (.v (.bool true)) (.t 74))⟩,
  ⟨(some 9), none, .op (.mv (.t 75))⟩] [])
  (.reg [⟨(some 76), none, .op (.mv (.t 8))⟩,
  ⟨(some 77), none, .op (.mv (.t 8))⟩,
  ⟨(some 78), none, .op (.mv (.t 8))⟩,
  ⟨(some 79), none, .op (.nchk (.t 78))⟩,
  ⟨(some 80), none, .op (.fad 0 (.t 79))⟩,
  ⟨(some 81), none, .op (.load none (.t 80))⟩,
  ⟨(some 82), none, .op (.mv (.t 12))⟩,
  ⟨(some 83), none, .op (.bsl none [.nils] 1 [(0, 1, (.t 82))])⟩,
  ⟨(some 84), none, .op (.app none 24 (.t 81) (.t 83))⟩,
  ⟨(some 85), none, .op (.mv (.t 8))⟩,
  ⟨(some 86), none, .op (.nchk (.t 85))⟩,
  ⟨(some 87), none, .op (.fad 1 (.t 86))⟩,
  ⟨(some 88), none, .op (.load none (.t 87))⟩,
  ⟨(some 89), none, .op (.mv (.t 13))⟩,
  ⟨(some 90), none, .op (.bsl none [.nils] 1 [(0, 1, (.t 89))])⟩,
  ⟨(some 91), none, .op (.app none 24 (.t 88) (.t 90))⟩,
  ⟨(some 92), none, .op (.nchk (.t 76))⟩,
  ⟨(some 93), none, .op (.fad 0 (.t 92))⟩,
  ⟨none, none, .op (.store 1 (.t 93) (.t 84))⟩,
  ⟨(some 94), none, .op (.nchk (.t 77))⟩,
  ⟨(some 95), none, .op (.fad 1 (.t 94))⟩,
  ⟨none, none, .op (.store 1 (.t 95) (.t 91))⟩] [(5, 7), (7, 12), (8, 12), (5, 14), (7, 14), (8, 14), (12, 14)]))))))
  (.reg [⟨(some 96), none, .op (.bin .none .add (.t 57) (.v (.int .i64 1)))⟩,
  ⟨(some 57), none, .op (.mv (.t 96))⟩] [])))))))
  (.seq (.seq (.reg [⟨(some 97), none, .op (.mv (.t 9))⟩] [])
  (.cond (.t 97)
  (.seq (.reg [⟨(some 2), none, .op (.mv (.v .nilp))⟩,
  ⟨(some 3), none, .op (.mv (.v (.int .i64 31)))⟩] [])
  .ret)
  .skip))
  (.seq (.reg [⟨(some 98), none, .op (.mv (.t 8))⟩,
  ⟨(some 2), none, .op (.mv (.t 98))⟩,
  ⟨(some 3), none, .op (.mv (.v (.int .i64 0)))⟩] [])
  .ret))))))))))
theorem c23 : codeOf Try.prog 23 = some (99, [(2, none), (3, none)], fc23) := by kernel_rfl
def fc24 : FC := (.seq (.reg [⟨(some 7), none, .op (.mv (.v .nili))⟩] [])
  (.seq (.reg [⟨(some 10), none, .op (.fad 0 (.t 3))⟩,
  ⟨(some 11), none, .op (.load none (.t 10))⟩,
  ⟨(some 12), none, .op (.mv (.t 1))⟩,
  ⟨(some 13), none, .op (.iad none (some 5) (.t 11) (.t 12))⟩,
  ⟨(some 8), none, .op (.mv (.t 13))⟩] [])
  (.seq (.reg [⟨(some 14), none, .op (.mv (.t 8))⟩,
  ⟨(some 15), none, .op (.mv (.t 8))⟩,
  ⟨(some 16), none, .op (.nchk (.t 15))⟩,
  ⟨(some 17), none, .op (.fad 1 (.t 16))⟩,
  ⟨(some 18), none, .op (.load none (.t 17))⟩,
  ⟨(some 19), none, .op (.len .sl (.t 18))⟩,
  ⟨(some 20), none, .op (.mksl none 8 [(.int .u64 0)] (.t 19) (.t 19))⟩,
  ⟨(some 21), none, .op (.mv (.t 0))⟩,
  ⟨(some 22), none, .call 25 [(.t 21)]⟩,
  ⟨(some 23), none, .op (.bin .none .sub (.t 22) (.v (.int .i64 1)))⟩,
  ⟨(some 24), none, .op (.build [.nilp, .nilp, .nils, .nils, (.int .i64 0), (.int .i64 0)] [(0, 1, (.t 3)), (1, 1, (.t 14)), (2, 1, (.t 20)), (5, 1, (.t 23))])⟩,
  ⟨(some 25), none, .op (.box (.t 24))⟩,
  ⟨(some 9), none, .op (.mv (.t 25))⟩] [(4, 8), (6, 8)])
  (.seq (.reg [⟨(some 26), none, .op (.mv (.t 9))⟩,
  ⟨(some 27), none, .op (.nchk (.t 26))⟩,
  ⟨(some 28), none, .op (.fad 2 (.t 27))⟩,
  ⟨(some 29), none, .op (.load none (.t 28))⟩,
  ⟨(some 30), none, .op (.mv (.t 2))⟩,
  ⟨(some 31), none, .op (.cpy none (.t 29) (.t 30))⟩] [])
  (.seq (.reg [⟨(some 32), none, .op (.mv (.t 9))⟩,
  ⟨(some 33), none, .op (.mki 99 (.t 32))⟩,
  ⟨(some 7), none, .op (.mv (.t 33))⟩] [])
  .ret)))))
theorem c24 : codeOf Try.prog 24 = some (34, [(7, none)], fc24) := by kernel_rfl
def fc33 : FC := (.seq (.reg [⟨(some 2), none, .op (.mv (.v .nils))⟩] [])
  (.seq (.seq (.reg [⟨(some 3), none, .op (.mv (.t 0))⟩,
  ⟨(some 4), none, .op (.bin .flat .eql (.t 3) (.v .nils))⟩] [])
  (.cond (.t 4)
  (.seq (.reg [⟨(some 2), none, .op (.mv (.v .nils))⟩] [])
  .ret)
  .skip))
  (.seq (.reg [⟨(some 5), none, .op (.bsl none [(.int .u64 0)] 0 [])⟩,
  ⟨(some 6), none, .op (.mv (.t 0))⟩,
  ⟨(some 7), none, .op (.app none 8 (.t 5) (.t 6))⟩,
  ⟨(some 2), none, .op (.mv (.t 7))⟩] [])
  .ret)))
theorem c33 : codeOf Try.prog 33 = some (8, [(2, none)], fc33) := by kernel_rfl
def fc35 : FC := (.reg [⟨(some 6), none, .op (.mv (.t 0))⟩,
  ⟨(some 7), none, .op (.mv (.t 1))⟩,
  ⟨(some 8), none, .op (.mv (.t 2))⟩,
  ⟨(some 9), none, .call 63 [(.t 6), (.t 7), (.t 8), (.v (.int .i64 0))]⟩] [])
theorem c35 : codeOf Try.prog 35 = some (10, [], fc35) := by kernel_rfl
def fc36 : FC := (.seq (.reg [⟨(some 2), none, .op (.mv (.v .nils))⟩] [])
  (.seq (.seq (.reg [⟨(some 3), none, .op (.mv (.t 0))⟩,
  ⟨(some 4), none, .op (.bin .flat .eql (.t 3) (.v .nils))⟩] [])
  (.cond (.t 4)
  (.seq (.reg [⟨(some 2), none, .op (.mv (.v .nils))⟩] [])
  .ret)
  .skip))
  (.seq (.reg [⟨(some 5), none, .op (.bsl (some 2) [(.int .i64 0), (.int .u64 0)] 0 [])⟩,
  ⟨(some 6), none, .op (.mv (.t 0))⟩,
  ⟨(some 7), none, .op (.app (some 2) 16 (.t 5) (.t 6))⟩,
  ⟨(some 2), none, .op (.mv (.t 7))⟩] [])
  .ret)))
theorem c36 : codeOf Try.prog 36 = some (8, [(2, none)], fc36) := by kernel_rfl
def fc37 : FC := (.seq (.reg [⟨(some 1), none, .op (.box (.t 0))⟩,
  ⟨(some 2), none, .op (.mv (.v .nils))⟩,
  ⟨(some 3), none, .op (.mv (.v (.int .i64 0)))⟩] [])
  (.seq (.seq (.reg [⟨(some 8), none, .op (.fad 0 (.t 1))⟩,
  ⟨(some 9), none, .op (.load none (.t 8))⟩,
  ⟨(some 10), none, .op (.len .sl (.t 9))⟩,
  ⟨(some 11), none, .op (.bin .none .eql (.t 10) (.v (.int .i64 0)))⟩,
  ⟨(some 12), none, .op (.mv (.t 11))⟩,
  ⟨(some 13), some (12, false), .op (.fad 0 (.t 1))⟩,
  ⟨(some 14), some (12, false), .op (.load none (.t 13))⟩,
  ⟨(some 15), some (12, false), .op (.len .sl (.t 14))⟩,
  ⟨(some 16), some (12, false), .op (.bin .none .gtr (.t 15) (.v (.int .i64 255)))⟩,
  ⟨(some 17), none, .op (.pick (.t 12) (.v (.bool true)) (.t 16))⟩] [])
  (.cond (.t 17)
  (.seq (.reg [⟨(some 2), none, .op (.mv (.v .nils))⟩,
  ⟨(some 3), none, .op (.mv (.v (.int .i64 30)))⟩] [])
  .ret)
  .skip))
  (.seq (.reg [⟨(some 18), none, .op (.fad 0 (.t 1))⟩,
  ⟨(some 19), none, .op (.load none (.t 18))⟩,
  ⟨(some 20), none, .op (.len .sl (.t 19))⟩,
  ⟨(some 21), none, .op (.cint .u8 (.t 20))⟩,
  ⟨(some 22), none, .op (.bsl none [(.int .u8 0)] 3 [(0, 1, (.v (.int .u8 87))), (1, 1, (.v (.int .u8 76))), (2, 1, (.t 21))])⟩,
  ⟨(some 4), none, .op (.mv (.t 22))⟩] [])
  (.seq (.seq (.reg [⟨(some 23), none, .op (.fad 0 (.t 1))⟩,
  ⟨(some 24), none, .op (.load none (.t 23))⟩,
  ⟨(some 25), none, .op (.len .sl (.t 24))⟩,
  ⟨(some 26), none, .op (.mv (.v (.int .i64 0)))⟩] [])
  (.block 0 (.loop (.seq (.reg [⟨(some 27), none, .op (.bin .none .lss (.t 26) (.t 25))⟩] [])
  (.seq (.cond (.t 27)
  .skip
  (.exit 0))
  (.seq (.block 1 (.seq (.reg [⟨(some 28), none, .op (.iad none (some 5) (.t 24) (.t 26))⟩,
  ⟨(some 29), none, .op (.load (some 5) (.t 28))⟩,
  ⟨(some 6), none, .op (.new [(.int .i64 0), .nils, (.bool false), (.int .i64 0), .nils])⟩,
  ⟨none, none, .op (.store 5 (.t 6) (.t 29))⟩] [])
  (.seq (.reg [⟨(some 7), none, .op (.mv (.v (.bool false)))⟩] [])
  (.seq (.reg [⟨(some 31), none, .op (.mv (.t 4))⟩,
  ⟨(some 32), none, .op (.load (some 5) (.t 6))⟩,
  ⟨(some 33), none, .call 64 [(.t 31), (.t 32)]⟩,
  ⟨(some 30), none, .op (.mv (.t 33))⟩,
  ⟨(some 34), none, .op (.ext 0 (.t 30))⟩,
  ⟨(some 35), none, .op (.ext 1 (.t 30))⟩,
  ⟨(some 4), none, .op (.mv (.t 34))⟩,
  ⟨(some 7), none, .op (.mv (.t 35))⟩] [])
  (.seq (.reg [⟨(some 36), none, .op (.mv (.t 7))⟩,
  ⟨(some 37), none, .op (.un .not (.t 36))⟩] [])
  (.cond (.t 37)
  (.seq (.reg [⟨(some 2), none, .op (.mv (.v .nils))⟩,
  ⟨(some 3), none, .op (.mv (.v (.int .i64 30)))⟩] [])
  .ret)
  .skip))))))
  (.reg [⟨(some 38), none, .op (.bin .none .add (.t 26) (.v (.int .i64 1)))⟩,
  ⟨(some 26), none, .op (.mv (.t 38))⟩] [])))))))
  (.seq (.reg [⟨(some 39), none, .op (.mv (.t 4))⟩,
  ⟨(some 2), none, .op (.mv (.t 39))⟩,
  ⟨(some 3), none, .op (.mv (.v (.int .i64 0)))⟩] [])
  .ret)))))
theorem c37 : codeOf Try.prog 37 = some (40, [(2, none), (3, none)], fc37) := by kernel_rfl
def fc38 : FC := (.seq (.reg [⟨(some 1), none, .op (.box (.t 0))⟩,
  ⟨(some 2), none, .op (.mv (.v (.bool false)))⟩] [])
  (.seq (.seq (.reg [⟨(some 5), none, .op (.fad 0 (.t 1))⟩,
  ⟨(some 6), none, .op (.load none (.t 5))⟩,
  ⟨(some 7), none, .op (.len .sl (.t 6))⟩,
  ⟨(some 8), none, .op (.mv (.v (.int .i64 0)))⟩] [])
  (.block 0 (.loop (.seq (.reg [⟨(some 9), none, .op (.bin .none .lss (.t 8) (.t 7))⟩] [])
  (.seq (.cond (.t 9)
  .skip
  (.exit 0))
  (.seq (.block 1 (.seq (.reg [⟨(some 10), none, .op (.iad none (some 5) (.t 6) (.t 8))⟩,
  ⟨(some 11), none, .op (.load (some 5) (.t 10))⟩,
  ⟨(some 4), none, .op (.new [(.int .i64 0), .nils, (.bool false), (.int .i64 0), .nils])⟩,
  ⟨none, none, .op (.store 5 (.t 4) (.t 11))⟩] [])
  (.seq (.reg [⟨(some 12), none, .op (.fad 0 (.t 4))⟩,
  ⟨(some 13), none, .op (.load none (.t 12))⟩,
  ⟨(some 14), none, .op (.bin .none .gtr (.t 13) (.v (.int .i64 4)))⟩,
  ⟨(some 15), none, .op (.mv (.t 14))⟩,
  ⟨(some 16), some (15, false), .op (.fad 1 (.t 4))⟩,
  ⟨(some 17), some (15, false), .op (.load none (.t 16))⟩,
  ⟨(some 18), some (15, false), .op (.len .sl (.t 17))⟩,
  ⟨(some 19), some (15, false), .op (.bin .none .gtr (.t 18) (.v (.int .i64 16)))⟩,
  ⟨(some 20), none, .op (.pick (.t 15) (.v (.bool true)) (.t 19))⟩,
  ⟨(some 21), none, .op (.mv (.t 20))⟩,
  ⟨(some 22), some (21, false), .op (.fad 4 (.t 4))⟩,
  ⟨(some 23), some (21, false), .op (.load none (.t 22))⟩,
  ⟨(some 24), some (21, false), .op (.len .sl (.t 23))⟩,
  ⟨(some 25), some (21, false), .op (.bin .none .gtr (.t 24) (.v (.int .i64 256)))⟩,
  ⟨(some 26), none, .op (.pick (.t 21) (.v (.bool true)) (.t 25))⟩] [])
  (.cond (.t 26)
  (.seq (.reg [⟨(some 2), none, .op (.mv (.v (.bool false)))⟩] [])
  .ret)
  .skip))))
  (.reg [⟨(some 27), none, .op (.bin .none .add (.t 8) (.v (.int .i64 1)))⟩,
  ⟨(some 8), none, .op (.mv (.t 27))⟩] [])))))))
  (.seq (.reg [⟨(some 28), none, .op (.fad 0 (.t 1))⟩,
  ⟨(some 29), none, .op (.load none (.t 28))⟩,
  ⟨(some 30), none, .op (.len .sl (.t 29))⟩,
  ⟨(some 31), none, .op (.bin .none .leq (.t 30) (.v (.int .i64 16)))⟩,
  ⟨(some 2), none, .op (.mv (.t 31))⟩] [])
  .ret)))
theorem c38 : codeOf Try.prog 38 = some (32, [(2, none)], fc38) := by kernel_rfl
def fc39 : FC := (.seq (.reg [⟨(some 2), none, .op (.box (.t 0))⟩,
  ⟨(some 3), none, .op (.box (.t 1))⟩,
  ⟨(some 4), none, .op (.mv (.v (.bool false)))⟩] [])
  (.seq (.seq (.reg [⟨(some 7), none, .op (.fad 4 (.t 3))⟩,
  ⟨(some 8), none, .op (.load none (.t 7))⟩,
  ⟨(some 9), none, .op (.len .sl (.t 8))⟩,
  ⟨(some 10), none, .op (.bin .none .eql (.t 9) (.v (.int .i64 0)))⟩,
  ⟨(some 11), none, .op (.mv (.t 10))⟩,
  ⟨(some 12), some (11, false), .op (.fad 3 (.t 3))⟩,
  ⟨(some 13), some (11, false), .op (.load none (.t 12))⟩,
  ⟨(some 14), some (11, false), .op (.fad 1 (.t 3))⟩,
  ⟨(some 15), some (11, false), .op (.load none (.t 14))⟩,
  ⟨(some 16), some (11, false), .op (.len .sl (.t 15))⟩,
  ⟨(some 17), some (11, false), .op (.bin .none .geq (.t 13) (.t 16))⟩,
  ⟨(some 18), none, .op (.pick (.t 11) (.v (.bool true)) (.t 17))⟩,
  ⟨(some 19), none, .op (.mv (.t 18))⟩,
  ⟨(some 20), some (19, false), .op (.fad 3 (.t 3))⟩,
  ⟨(some 21), some (19, false), .op (.load none (.t 20))⟩,
  ⟨(some 22), some (19, false), .op (.bin .none .geq (.t 21) (.v (.int .i64 0)))⟩,
  ⟨(some 23), some (19, false), .op (.mv (.t 22))⟩,
  ⟨(some 24), some (23, true), .op (.fad 1 (.t 3))⟩,
  ⟨(some 25), some (23, true), .op (.load none (.t 24))⟩,
  ⟨(some 26), some (23, true), .op (.fad 3 (.t 3))⟩,
  ⟨(some 27), some (23, true), .op (.load none (.t 26))⟩,
  ⟨(some 28), some (23, true), .op (.iad none none (.t 25) (.t 27))⟩,
  ⟨(some 29), some (23, true), .op (.load none (.t 28))⟩,
  ⟨(some 30), some (23, true), .op (.bin .none .neq (.t 29) (.v (.int .u8 0)))⟩,
  ⟨(some 31), some (19, false), .op (.pick (.t 23) (.t 30) (.v (.bool false)))⟩,
  ⟨(some 32), none, .op (.pick (.t 19) (.v (.bool true)) (.t 31))⟩] [])
  (.cond (.t 32)
  (.seq (.reg [⟨(some 4), none, .op (.mv (.v (.bool false)))⟩] [])
  .ret)
  .skip))
  (.seq (.seq (.reg [⟨(some 33), none, .op (.fad 4 (.t 3))⟩,
  ⟨(some 34), none, .op (.load none (.t 33))⟩,
  ⟨(some 35), none, .op (.len .sl (.t 34))⟩,
  ⟨(some 36), none, .op (.mv (.v (.int .i64 0)))⟩] [])
  (.block 0 (.loop (.seq (.reg [⟨(some 37), none, .op (.bin .none .lss (.t 36) (.t 35))⟩] [])
  (.seq (.cond (.t 37)
  .skip
  (.exit 0))
  (.seq (.block 1 (.seq (.reg [⟨(some 38), none, .op (.iad none (some 3) (.t 34) (.t 36))⟩,
  ⟨(some 39), none, .op (.load (some 3) (.t 38))⟩,
  ⟨(some 6), none, .op (.new [(.int .u8 0), (.int .i64 0), (.int .u64 0)])⟩,
  ⟨none, none, .op (.store 3 (.t 6) (.t 39))⟩] [])
  (.seq (.reg [⟨(some 40), none, .op (.load (some 1) (.t 2))⟩,
  ⟨(some 41), none, .op (.load (some 5) (.t 3))⟩,
  ⟨(some 42), none, .op (.load (some 3) (.t 6))⟩,
  ⟨(some 43), none, .call 65 [(.t 40), (.t 41), (.t 42)]⟩,
  ⟨(some 44), none, .op (.un .not (.t 43))⟩,
  ⟨(some 45), none, .op (.mv (.t 44))⟩,
  ⟨(some 46), some (45, false), .op (.fad 0 (.t 6))⟩,
  ⟨(some 47), some (45, false), .op (.load none (.t 46))⟩,
  ⟨(some 48), some (45, false), .op (.bin .none .eql (.t 47) (.v (.int .u8 25)))⟩,
  ⟨(some 49), some (45, false), .op (.mv (.t 48))⟩,
  ⟨(some 50), some (49, true), .op (.fad 2 (.t 3))⟩,
  ⟨(some 51), some (49, true), .op (.load none (.t 50))⟩,
  ⟨(some 52), some (45, false), .op (.pick (.t 49) (.t 51) (.v (.bool false)))⟩,
  ⟨(some 53), some (45, false), .op (.mv (.t 52))⟩,
  ⟨(some 54), some (53, true), .op (.fad 3 (.t 3))⟩,
  ⟨(some 55), some (53, true), .op (.load none (.t 54))⟩,
  ⟨(some 56), some (53, true), .op (.bin .none .lss (.t 55) (.v (.int .i64 0)))⟩,
  ⟨(some 57), some (45, false), .op (.pick (.t 53) (.t 56) (.v (.bool false)))⟩,
  ⟨(some 58), none, .op (.pick (.t 45) (.v (.bool true)) (.t 57))⟩] [])
  (.cond (.t 58)
  (.seq (.reg [⟨(some 4), none, .op (.mv (.v (.bool false)))⟩] [])
  .ret)
  .skip))))
  (.reg [⟨(some 59), none, .op (.bin .none .add (.t 36) (.v (.int .i64 1)))⟩,
  ⟨(some 36), none, .op (.mv (.t 59))⟩] [])))))))
  (.seq (.reg [⟨(some 4), none, .op (.mv (.v (.bool true)))⟩] [])
  .ret))))
theorem c39 : codeOf Try.prog 39 = some (60, [(4, none)], fc39) := by kernel_rfl
def fc40 : FC := (.seq (.reg [⟨(some 2), none, .op (.box (.t 0))⟩,
  ⟨(some 3), none, .op (.box (.t 1))⟩,
  ⟨(some 4), none, .op (.mv (.v .nils))⟩,
  ⟨(some 5), none, .op (.mv (.v .nils))⟩,
  ⟨(some 6), none, .op (.mv (.v (.bool false)))⟩,
  ⟨(some 7), none, .op (.mv (.v (.int .i64 0)))⟩] [])
  (.seq (.reg [⟨(some 23), none, .op (.fad 4 (.t 3))⟩,
  ⟨(some 24), none, .op (.load none (.t 23))⟩,
  ⟨(some 25), none, .op (.len .sl (.t 24))⟩,
  ⟨(some 26), none, .op (.mksl none 1 [(.bool false)] (.t 25) (.t 25))⟩,
  ⟨(some 27), none, .op (.fad 4 (.t 3))⟩,
  ⟨(some 28), none, .op (.load none (.t 27))⟩,
  ⟨(some 29), none, .op (.len .sl (.t 28))⟩,
  ⟨(some 30), none, .op (.mksl none 24 [.nils] (.t 29) (.t 29))⟩,
  ⟨(some 8), none, .op (.mv (.t 26))⟩,
  ⟨(some 9), none, .op (.mv (.t 30))⟩] [(3, 5), (1, 7), (3, 7)])
  (.seq (.reg [⟨(some 31), none, .op (.mv (.t 8))⟩,
  ⟨(some 32), none, .op (.iad none none (.t 31) (.v (.int .i64 0)))⟩,
  ⟨none, none, .op (.store 1 (.t 32) (.v (.bool true)))⟩] [])
  (.seq (.reg [⟨(some 10), none, .op (.mv (.v (.bool false)))⟩] [])
  (.seq (.seq (.reg [⟨(some 33), none, .op (.bsl none [(.int .i64 0)] 1 [(0, 1, (.v (.int .i64 0)))])⟩,
  ⟨(some 11), none, .op (.mv (.t 33))⟩] [])
  (.block 0 (.loop (.seq (.seq (.reg [⟨(some 34), none, .op (.mv (.t 11))⟩,
  ⟨(some 35), none, .op (.len .sl (.t 34))⟩,
  ⟨(some 36), none, .op (.bin .none .gtr (.t 35) (.v (.int .i64 0)))⟩] [])
  (.cond (.t 36)
  .skip
  (.exit 0)))
  (.block 1 (.seq (.reg [⟨(some 37), none, .op (.mv (.t 11))⟩,
  ⟨(some 38), none, .op (.mv (.t 11))⟩,
  ⟨(some 39), none, .op (.len .sl (.t 38))⟩,
  ⟨(some 40), none, .op (.bin .none .sub (.t 39) (.v (.int .i64 1)))⟩,
  ⟨(some 41), none, .op (.iad none none (.t 37) (.t 40))⟩,
  ⟨(some 42), none, .op (.load none (.t 41))⟩,
  ⟨(some 12), none, .op (.mv (.t 42))⟩] [])
  (.seq (.reg [⟨(some 43), none, .op (.mv (.t 11))⟩,
  ⟨(some 44), none, .op (.mv (.t 11))⟩,
  ⟨(some 45), none, .op (.len .sl (.t 44))⟩,
  ⟨(some 46), none, .op (.bin .none .sub (.t 45) (.v (.int .i64 1)))⟩,
  ⟨(some 47), none, .op (.slc none (.t 43) none (some (.t 46)) none)⟩,
  ⟨(some 11), none, .op (.mv (.t 47))⟩] [])
  (.seq (.reg [⟨(some 48), none, .op (.mv (.t 9))⟩,
  ⟨(some 49), none, .op (.mv (.t 12))⟩,
  ⟨(some 50), none, .op (.iad none none (.t 48) (.t 49))⟩,
  ⟨(some 51), none, .op (.load none (.t 50))⟩,
  ⟨(some 52), none, .op (.fad 4 (.t 3))⟩,
  ⟨(some 53), none, .op (.load none (.t 52))⟩,
  ⟨(some 54), none, .op (.mv (.t 12))⟩,
  ⟨(some 55), none, .op (.iad none (some 3) (.t 53) (.t 54))⟩,
  ⟨(some 56), none, .op (.load (some 3) (.t 55))⟩,
  ⟨(some 14), none, .op (.new [(.int .u8 0), (.int .i64 0), (.int .u64 0)])⟩,
  ⟨(some 13), none, .op (.mv (.t 51))⟩,
  ⟨none, none, .op (.store 3 (.t 14) (.t 56))⟩] [(3, 9), (5, 9), (8, 9)])
  (.seq (.reg [⟨(some 15), none, .op (.mv (.v (.int .u8 0)))⟩] [])
  (.seq (.seq (.reg [⟨(some 57), none, .op (.mv (.t 13))⟩,
  ⟨(some 58), none, .op (.len .sl (.t 57))⟩,
  ⟨(some 59), none, .op (.bin .none .gtr (.t 58) (.v (.int .i64 0)))⟩] [])
  (.cond (.t 59)
  (.reg [⟨(some 60), none, .op (.mv (.t 13))⟩,
  ⟨(some 61), none, .op (.mv (.t 13))⟩,
  ⟨(some 62), none, .op (.len .sl (.t 61))⟩,
  ⟨(some 63), none, .op (.bin .none .sub (.t 62) (.v (.int .i64 1)))⟩,
  ⟨(some 64), none, .op (.iad none none (.t 60) (.t 63))⟩,
  ⟨(some 65), none, .op (.load none (.t 64))⟩,
  ⟨(some 15), none, .op (.mv (.t 65))⟩] [])
  .skip))
  (.seq (.reg [⟨(some 67), none, .op (.load (some 1) (.t 2))⟩,
  ⟨(some 68), none, .op (.load (some 5) (.t 3))⟩,
  ⟨(some 69), none, .op (.load (some 3) (.t 14))⟩,
  ⟨(some 70), none, .op (.mv (.t 15))⟩,
  ⟨(some 71), none, .call 66 [(.t 67), (.t 68), (.t 69), (.t 70)]⟩,
  ⟨(some 66), none, .op (.mv (.t 71))⟩,
  ⟨(some 72), none, .op (.ext 0 (.t 66))⟩,
  ⟨(some 73), none, .op (.ext 1 (.t 66))⟩,
  ⟨(some 16), none, .op (.mv (.t 72))⟩,
  ⟨(some 17), none, .op (.mv (.t 73))⟩] [])
  (.seq (.reg [⟨(some 74), none, .op (.mv (.t 13))⟩,
  ⟨(some 75), none, .op (.len .sl (.t 74))⟩,
  ⟨(some 76), none, .op (.mv (.t 16))⟩,
  ⟨(some 77), none, .op (.len .sl (.t 76))⟩,
  ⟨(some 78), none, .op (.bin .none .sub (.t 75) (.t 77))⟩,
  ⟨(some 18), none, .op (.mv (.t 78))⟩] [])
  (.seq (.seq (.reg [⟨(some 79), none, .op (.mv (.t 18))⟩,
  ⟨(some 80), none, .op (.bin .none .lss (.t 79) (.v (.int .i64 0)))⟩,
  ⟨(some 81), none, .op (.mv (.t 80))⟩,
  ⟨(some 82), some (81, false), .op (.mv (.t 13))⟩,
  ⟨(some 83), some (81, false), .op (.mv (.t 18))⟩,
  ⟨(some 84), some (81, false), .op (.slc none (.t 82) (some (.t 83)) none none)⟩,
  ⟨(some 85), some (81, false), .op (.mv (.t 16))⟩,
  ⟨(some 86), some (81, false), .call 67 [(.t 84), (.t 85)]⟩,
  ⟨(some 87), some (81, false), .op (.un .not (.t 86))⟩,
  ⟨(some 88), none, .op (.pick (.t 81) (.v (.bool true)) (.t 87))⟩,
  ⟨(some 89), none, .op (.mv (.t 88))⟩,
  ⟨(some 90), some (89, false), .op (.fad 0 (.t 14))⟩,
  ⟨(some 91), some (89, false), .op (.load none (.t 90))⟩,
  ⟨(some 92), some (89, false), .op (.bin .none .eql (.t 91) (.v (.int .u8 24)))⟩,
  ⟨(some 93), some (89, false), .op (.mv (.t 92))⟩,
  ⟨(some 94), some (93, true), .op (.mv (.t 18))⟩,
  ⟨(some 95), some (93, true), .op (.bin .none .gtr (.t 94) (.v (.int .i64 0)))⟩,
  ⟨(some 96), some (89, false), .op (.pick (.t 93) (.t 95) (.v (.bool false)))⟩,
  ⟨(some 97), none, .op (.pick (.t 89) (.v (.bool true)) (.t 96))⟩] [])
  (.cond (.t 97)
  (.seq (.reg [⟨(some 4), none, .op (.mv (.v .nils))⟩,
  ⟨(some 5), none, .op (.mv (.v .nils))⟩,
  ⟨(some 6), none, .op (.mv (.v (.bool false)))⟩,
  ⟨(some 7), none, .op (.mv (.v (.int .i64 50)))⟩] [])
  .ret)
  .skip))
  (.seq (.reg [⟨(some 98), none, .op (.mv (.t 13))⟩,
  ⟨(some 99), none, .op (.mv (.t 18))⟩,
  ⟨(some 100), none, .op (.slc none (.t 98) none (some (.t 99)) none)⟩,
  ⟨(some 101), none, .call 68 [(.t 100)]⟩,
  ⟨(some 102), none, .op (.mv (.t 17))⟩,
  ⟨(some 103), none, .op (.app none 1 (.t 101) (.t 102))⟩,
  ⟨(some 19), none, .op (.mv (.t 103))⟩] [])
  (.seq (.reg [⟨(some 104), none, .op (.mv (.t 10))⟩,
  ⟨(some 105), none, .op (.mv (.t 104))⟩,
  ⟨(some 106), some (105, false), .op (.mv (.t 19))⟩,
  ⟨(some 107), some (105, false), .op (.len .sl (.t 106))⟩,
  ⟨(some 108), some (105, false), .op (.bin .none .gtr (.t 107) (.v (.int .i64 16)))⟩,
  ⟨(some 109), none, .op (.pick (.t 105) (.v (.bool true)) (.t 108))⟩,
  ⟨(some 10), none, .op (.mv (.t 109))⟩] [])
  (.seq (.reg [⟨(some 110), none, .op (.load (some 3) (.t 14))⟩,
  ⟨(some 111), none, .op (.mv (.t 12))⟩,
  ⟨(some 112), none, .call 69 [(.t 110), (.t 111)]⟩,
  ⟨(some 113), none, .op (.len .sl (.t 112))⟩,
  ⟨(some 114), none, .op (.mv (.v (.int .i64 0)))⟩] [])
  (.block 2 (.loop (.seq (.reg [⟨(some 115), none, .op (.bin .none .lss (.t 114) (.t 113))⟩] [])
  (.seq (.cond (.t 115)
  .skip
  (.exit 2))
  (.seq (.block 3 (.seq (.reg [⟨(some 116), none, .op (.iad none none (.t 112) (.t 114))⟩,
  ⟨(some 117), none, .op (.load none (.t 116))⟩,
  ⟨(some 21), none, .op (.mv (.t 117))⟩] [])
  (.block 4 (.seq (.reg [⟨(some 119), none, .op (.mv (.t 21))⟩,
  ⟨(some 120), none, .op (.fad 4 (.t 3))⟩,
  ⟨(some 121), none, .op (.load none (.t 120))⟩,
  ⟨(some 122), none, .op (.len .sl (.t 121))⟩,
  ⟨(some 123), none, .op (.bin .none .geq (.t 119) (.t 122))⟩,
  ⟨(some 118), none, .op (.mv (.t 123))⟩] [])
  (.cond (.t 118)
  (.seq (.reg [⟨(some 4), none, .op (.mv (.v .nils))⟩,
  ⟨(some 5), none, .op (.mv (.v .nils))⟩,
  ⟨(some 6), none, .op (.mv (.v (.bool false)))⟩,
  ⟨(some 7), none, .op (.mv (.v (.int .i64 50)))⟩] [])
  .ret)
  (.seq (.reg [⟨(some 125), none, .op (.mv (.t 8))⟩,
  ⟨(some 126), none, .op (.mv (.t 21))⟩,
  ⟨(some 127), none, .op (.iad none none (.t 125) (.t 126))⟩,
  ⟨(some 128), none, .op (.load none (.t 127))⟩,
  ⟨(some 129), none, .op (.un .not (.t 128))⟩,
  ⟨(some 124), none, .op (.mv (.t 129))⟩] [])
  (.cond (.t 124)
  (.seq (.reg [⟨(some 130), none, .op (.mv (.t 8))⟩,
  ⟨(some 131), none, .op (.mv (.t 21))⟩,
  ⟨(some 132), none, .op (.mv (.t 9))⟩,
  ⟨(some 133), none, .op (.mv (.t 21))⟩,
  ⟨(some 134), none, .op (.mv (.t 19))⟩,
  ⟨(some 135), none, .op (.iad none none (.t 130) (.t 131))⟩,
  ⟨none, none, .op (.store 1 (.t 135) (.v (.bool true)))⟩,
  ⟨(some 136), none, .op (.iad none none (.t 132) (.t 133))⟩,
  ⟨none, none, .op (.store 1 (.t 136) (.t 134))⟩] [])
  (.reg [⟨(some 137), none, .op (.mv (.t 11))⟩,
  ⟨(some 138), none, .op (.mv (.t 21))⟩,
  ⟨(some 139), none, .op (.bsl none [(.int .i64 0)] 1 [(0, 1, (.t 138))])⟩,
  ⟨(some 140), none, .op (.app none 8 (.t 137) (.t 139))⟩,
  ⟨(some 11), none, .op (.mv (.t 140))⟩] []))
  (.seq (.reg [⟨(some 142), none, .op (.mv (.t 9))⟩,
  ⟨(some 143), none, .op (.mv (.t 21))⟩,
  ⟨(some 144), none, .op (.iad none none (.t 142) (.t 143))⟩,
  ⟨(some 145), none, .op (.load none (.t 144))⟩,
  ⟨(some 146), none, .op (.mv (.t 19))⟩,
  ⟨(some 147), none, .call 67 [(.t 145), (.t 146)]⟩,
  ⟨(some 148), none, .op (.un .not (.t 147))⟩,
  ⟨(some 141), none, .op (.mv (.t 148))⟩] [])
  (.cond (.t 141)
  (.seq (.reg [⟨(some 4), none, .op (.mv (.v .nils))⟩,
  ⟨(some 5), none, .op (.mv (.v .nils))⟩,
  ⟨(some 6), none, .op (.mv (.v (.bool false)))⟩,
  ⟨(some 7), none, .op (.mv (.v (.int .i64 50)))⟩] [])
  .ret)
  .skip)))))))))
  (.reg [⟨(some 149), none, .op (.bin .none .add (.t 114) (.v (.int .i64 1)))⟩,
  ⟨(some 114), none, .op (.mv (.t 149))⟩] []))))))))))))))))))))))
  (.seq (.seq (.reg [⟨(some 150), none, .op (.mv (.t 9))⟩,
  ⟨(some 151), none, .op (.len .sl (.t 150))⟩,
  ⟨(some 152), none, .op (.mv (.v (.int .i64 0)))⟩] [])
  (.block 5 (.loop (.seq (.reg [⟨(some 153), none, .op (.bin .none .lss (.t 152) (.t 151))⟩] [])
  (.seq (.cond (.t 153)
  .skip
  (.exit 5))
  (.seq (.block 6 (.seq (.reg [⟨(some 154), none, .op (.mv (.t 152))⟩,
  ⟨(some 22), none, .op (.mv (.t 154))⟩] [])
  (.reg [⟨(some 155), none, .op (.mv (.t 9))⟩,
  ⟨(some 156), none, .op (.mv (.t 22))⟩,
  ⟨(some 157), none, .op (.mv (.t 9))⟩,
  ⟨(some 158), none, .op (.mv (.t 22))⟩,
  ⟨(some 159), none, .op (.iad none none (.t 157) (.t 158))⟩,
  ⟨(some 160), none, .op (.load none (.t 159))⟩,
  ⟨(some 161), none, .call 68 [(.t 160)]⟩,
  ⟨(some 162), none, .op (.iad none none (.t 155) (.t 156))⟩,
  ⟨none, none, .op (.store 1 (.t 162) (.t 161))⟩] [])))
  (.reg [⟨(some 163), none, .op (.bin .none .add (.t 152) (.v (.int .i64 1)))⟩,
  ⟨(some 152), none, .op (.mv (.t 163))⟩] [])))))))
  (.seq (.reg [⟨(some 164), none, .op (.mv (.t 8))⟩,
  ⟨(some 165), none, .op (.mv (.t 9))⟩,
  ⟨(some 166), none, .op (.mv (.t 10))⟩,
  ⟨(some 4), none, .op (.mv (.t 164))⟩,
  ⟨(some 5), none, .op (.mv (.t 165))⟩,
  ⟨(some 6), none, .op (.mv (.t 166))⟩,
  ⟨(some 7), none, .op (.mv (.v (.int .i64 0)))⟩] [])
  .ret)))))))
theorem c40 : codeOf Try.prog 40 = some (167, [(4, none), (5, none), (6, none), (7, none)], fc40) := by kernel_rfl
def fc63 : FC := (.seq (.reg [⟨(some 9), none, .op (.mv (.t 3))⟩,
  ⟨(some 10), none, .op (.build [.nili, (.int .i64 0), .nils, (.int .u64 0)] [(1, 1, (.t 9))])⟩,
  ⟨(some 11), none, .op (.box (.t 10))⟩,
  ⟨(some 8), none, .op (.mv (.t 11))⟩] [])
  (.seq (.reg [⟨(some 12), none, .op (.mv (.t 0))⟩,
  ⟨(some 13), none, .op (.mv (.t 0))⟩,
  ⟨(some 14), none, .op (.nchk (.t 13))⟩,
  ⟨(some 15), none, .op (.fad 8 (.t 14))⟩,
  ⟨(some 16), none, .op (.load none (.t 15))⟩,
  ⟨(some 17), none, .op (.mv (.t 8))⟩,
  ⟨(some 18), none, .op (.bsl none [.nilp] 1 [(0, 1, (.t 17))])⟩,
  ⟨(some 19), none, .op (.app none 8 (.t 16) (.t 18))⟩,
  ⟨(some 20), none, .op (.nchk (.t 12))⟩,
  ⟨(some 21), none, .op (.fad 8 (.t 20))⟩,
  ⟨none, none, .op (.store 1 (.t 21) (.t 19))⟩] [])
  (.seq (.reg [⟨(some 22), none, .op (.mv (.t 0))⟩,
  ⟨(some 23), none, .op (.mv (.t 0))⟩,
  ⟨(some 24), none, .op (.nchk (.t 23))⟩,
  ⟨(some 25), none, .op (.fad 5 (.t 24))⟩,
  ⟨(some 26), none, .op (.load none (.t 25))⟩,
  ⟨(some 27), none, .op (.mv (.t 0))⟩,
  ⟨(some 28), none, .op (.nchk (.t 27))⟩,
  ⟨(some 29), none, .op (.fad 8 (.t 28))⟩,
  ⟨(some 30), none, .op (.load none (.t 29))⟩,
  ⟨(some 31), none, .op (.len .sl (.t 30))⟩,
  ⟨(some 32), none, .op (.mn true (.t 26) (.t 31))⟩,
  ⟨(some 33), none, .op (.nchk (.t 22))⟩,
  ⟨(some 34), none, .op (.fad 5 (.t 33))⟩,
  ⟨none, none, .op (.store 1 (.t 34) (.t 32))⟩] [])
  (.reg [⟨(some 35), none, .op (.mv (.t 8))⟩,
  ⟨(some 36), none, .op (.mv (.t 0))⟩,
  ⟨(some 37), none, .op (.nchk (.t 36))⟩,
  ⟨(some 38), none, .op (.fad 1 (.t 37))⟩,
  ⟨(some 39), none, .op (.load none (.t 38))⟩,
  ⟨(some 40), none, .op (.mv (.t 0))⟩,
  ⟨(some 41), none, .op (.mv (.t 1))⟩,
  ⟨(some 42), none, .op (.mv (.t 2))⟩,
  ⟨(some 43), none, .callv (.t 39) [(.t 40), (.t 41), (.t 42)]⟩,
  ⟨(some 44), none, .op (.nchk (.t 35))⟩,
  ⟨(some 45), none, .op (.fad 0 (.t 44))⟩,
  ⟨none, none, .op (.store 1 (.t 45) (.t 43))⟩] []))))
theorem c63 : codeOf Try.prog 63 = some (46, [], fc63) := by kernel_rfl
def fc64 : FC := (.seq (.reg [⟨(some 3), none, .op (.box (.t 1))⟩,
  ⟨(some 4), none, .op (.mv (.v .nils))⟩,
  ⟨(some 5), none, .op (.mv (.v (.bool false)))⟩] [])
  (.seq (.seq (.reg [⟨(some 12), none, .op (.fad 0 (.t 3))⟩,
  ⟨(some 13), none, .op (.load none (.t 12))⟩,
  ⟨(some 14), none, .op (.bin .none .lss (.t 13) (.v (.int .i64 0)))⟩,
  ⟨(some 15), none, .op (.mv (.t 14))⟩,
  ⟨(some 16), some (15, false), .op (.fad 0 (.t 3))⟩,
  ⟨(some 17), some (15, false), .op (.load none (.t 16))⟩,
  ⟨(some 18), some (15, false), .op (.fad 1 (.t 3))⟩,
  ⟨(some 19), some (15, false), .op (.load none (.t 18))⟩,
  ⟨(some 20), some (15, false), .op (.len .sl (.t 19))⟩,
  ⟨(some 21), some (15, false), .op (.bin .none .gtr (.t 17) (.t 20))⟩,
  ⟨(some 22), none, .op (.pick (.t 15) (.v (.bool true)) (.t 21))⟩,
  ⟨(some 23), none, .op (.mv (.t 22))⟩,
  ⟨(some 24), some (23, false), .op (.fad 1 (.t 3))⟩,
  ⟨(some 25), some (23, false), .op (.load none (.t 24))⟩,
  ⟨(some 26), some (23, false), .op (.len .sl (.t 25))⟩,
  ⟨(some 27), some (23, false), .op (.bin .none .gtr (.t 26) (.v (.int .i64 255)))⟩,
  ⟨(some 28), none, .op (.pick (.t 23) (.v (.bool true)) (.t 27))⟩,
  ⟨(some 29), none, .op (.mv (.t 28))⟩,
  ⟨(some 30), some (29, false), .op (.fad 3 (.t 3))⟩,
  ⟨(some 31), some (29, false), .op (.load none (.t 30))⟩,
  ⟨(some 32), some (29, false), .op (.bin .none .lss (.t 31) (.v (.int .i64 (-1))))⟩,
  ⟨(some 33), none, .op (.pick (.t 29) (.v (.bool true)) (.t 32))⟩,
  ⟨(some 34), none, .op (.mv (.t 33))⟩,
  ⟨(some 35), some (34, false), .op (.fad 3 (.t 3))⟩,
  ⟨(some 36), some (34, false), .op (.load none (.t 35))⟩,
  ⟨(some 37), some (34, false), .op (.bin .none .gtr (.t 36) (.v (.int .i64 254)))⟩,
  ⟨(some 38), none, .op (.pick (.t 34) (.v (.bool true)) (.t 37))⟩,
  ⟨(some 39), none, .op (.mv (.t 38))⟩,
  ⟨(some 40), some (39, false), .op (.fad 4 (.t 3))⟩,
  ⟨(some 41), some (39, false), .op (.load none (.t 40))⟩,
  ⟨(some 42), some (39, false), .op (.len .sl (.t 41))⟩,
  ⟨(some 43), some (39, false), .op (.bin .none .gtr (.t 42) (.v (.int .i64 65535)))⟩,
  ⟨(some 44), none, .op (.pick (.t 39) (.v (.bool true)) (.t 43))⟩] [])
  (.cond (.t 44)
  (.seq (.reg [⟨(some 4), none, .op (.mv (.v .nils))⟩,
  ⟨(some 5), none, .op (.mv (.v (.bool false)))⟩] [])
  .ret)
  .skip))
  (.seq (.reg [⟨(some 45), none, .op (.mv (.t 0))⟩,
  ⟨(some 46), none, .op (.fad 0 (.t 3))⟩,
  ⟨(some 47), none, .op (.load none (.t 46))⟩,
  ⟨(some 48), none, .op (.cint .u8 (.t 47))⟩,
  ⟨(some 49), none, .op (.fad 1 (.t 3))⟩,
  ⟨(some 50), none, .op (.load none (.t 49))⟩,
  ⟨(some 51), none, .op (.len .sl (.t 50))⟩,
  ⟨(some 52), none, .op (.cint .u8 (.t 51))⟩,
  ⟨(some 53), none, .op (.bsl none [(.int .u8 0)] 2 [(0, 1, (.t 48)), (1, 1, (.t 52))])⟩,
  ⟨(some 54), none, .op (.app none 1 (.t 45) (.t 53))⟩,
  ⟨(some 0), none, .op (.mv (.t 54))⟩] [])
  (.seq (.seq (.reg [⟨(some 55), none, .op (.fad 1 (.t 3))⟩,
  ⟨(some 56), none, .op (.load none (.t 55))⟩,
  ⟨(some 57), none, .op (.len .sl (.t 56))⟩,
  ⟨(some 58), none, .op (.mv (.v (.int .i64 0)))⟩] [])
  (.block 0 (.loop (.seq (.reg [⟨(some 59), none, .op (.bin .none .lss (.t 58) (.t 57))⟩] [])
  (.seq (.cond (.t 59)
  .skip
  (.exit 0))
  (.seq (.block 1 (.seq (.reg [⟨(some 60), none, .op (.iad none none (.t 56) (.t 58))⟩,
  ⟨(some 61), none, .op (.load none (.t 60))⟩,
  ⟨(some 7), none, .op (.mv (.t 61))⟩] [])
  (.seq (.seq (.reg [⟨(some 62), none, .op (.mv (.t 7))⟩,
  ⟨(some 63), none, .op (.bin .none .gtr (.t 62) (.v (.int .u8 1)))⟩] [])
  (.cond (.t 63)
  (.seq (.reg [⟨(some 4), none, .op (.mv (.v .nils))⟩,
  ⟨(some 5), none, .op (.mv (.v (.bool false)))⟩] [])
  .ret)
  .skip))
  (.reg [⟨(some 64), none, .op (.mv (.t 0))⟩,
  ⟨(some 65), none, .op (.mv (.t 7))⟩,
  ⟨(some 66), none, .op (.bsl none [(.int .u8 0)] 1 [(0, 1, (.t 65))])⟩,
  ⟨(some 67), none, .op (.app none 1 (.t 64) (.t 66))⟩,
  ⟨(some 0), none, .op (.mv (.t 67))⟩] []))))
  (.reg [⟨(some 68), none, .op (.bin .none .add (.t 58) (.v (.int .i64 1)))⟩,
  ⟨(some 58), none, .op (.mv (.t 68))⟩] [])))))))
  (.seq (.reg [⟨(some 8), none, .op (.mv (.v (.int .u8 0)))⟩] [])
  (.seq (.seq (.reg [⟨(some 69), none, .op (.fad 2 (.t 3))⟩,
  ⟨(some 70), none, .op (.load none (.t 69))⟩] [])
  (.cond (.t 70)
  (.reg [⟨(some 8), none, .op (.mv (.v (.int .u8 1)))⟩] [])
  .skip))
  (.seq (.reg [⟨(some 71), none, .op (.mv (.t 0))⟩,
  ⟨(some 72), none, .op (.mv (.t 8))⟩,
  ⟨(some 73), none, .op (.fad 3 (.t 3))⟩,
  ⟨(some 74), none, .op (.load none (.t 73))⟩,
  ⟨(some 75), none, .op (.cint .u8 (.t 74))⟩,
  ⟨(some 76), none, .op (.bsl none [(.int .u8 0)] 2 [(0, 1, (.t 72)), (1, 1, (.t 75))])⟩,
  ⟨(some 77), none, .op (.app none 1 (.t 71) (.t 76))⟩,
  ⟨(some 78), none, .op (.fad 4 (.t 3))⟩,
  ⟨(some 79), none, .op (.load none (.t 78))⟩,
  ⟨(some 80), none, .op (.len .sl (.t 79))⟩,
  ⟨(some 81), none, .op (.cint .u64 (.t 80))⟩,
  ⟨(some 82), none, .call 83 [(.t 77), (.t 81), (.v (.int .i64 2))]⟩,
  ⟨(some 0), none, .op (.mv (.t 82))⟩] [(5, 8), (6, 8)])
  (.seq (.seq (.reg [⟨(some 83), none, .op (.fad 4 (.t 3))⟩,
  ⟨(some 84), none, .op (.load none (.t 83))⟩,
  ⟨(some 85), none, .op (.len .sl (.t 84))⟩,
  ⟨(some 86), none, .op (.mv (.v (.int .i64 0)))⟩] [])
  (.block 2 (.loop (.seq (.reg [⟨(some 87), none, .op (.bin .none .lss (.t 86) (.t 85))⟩] [])
  (.seq (.cond (.t 87)
  .skip
  (.exit 2))
  (.seq (.block 3 (.seq (.reg [⟨(some 88), none, .op (.iad none (some 3) (.t 84) (.t 86))⟩,
  ⟨(some 89), none, .op (.load (some 3) (.t 88))⟩,
  ⟨(some 10), none, .op (.new [(.int .u8 0), (.int .i64 0), (.int .u64 0)])⟩,
  ⟨none, none, .op (.store 3 (.t 10) (.t 89))⟩] [])
  (.seq (.reg [⟨(some 11), none, .op (.mv (.v (.bool false)))⟩] [])
  (.seq (.reg [⟨(some 91), none, .op (.mv (.t 0))⟩,
  ⟨(some 92), none, .op (.load (some 3) (.t 10))⟩,
  ⟨(some 93), none, .call 84 [(.t 91), (.t 92)]⟩,
  ⟨(some 90), none, .op (.mv (.t 93))⟩,
  ⟨(some 94), none, .op (.ext 0 (.t 90))⟩,
  ⟨(some 95), none, .op (.ext 1 (.t 90))⟩,
  ⟨(some 0), none, .op (.mv (.t 94))⟩,
  ⟨(some 11), none, .op (.mv (.t 95))⟩] [])
  (.seq (.reg [⟨(some 96), none, .op (.mv (.t 11))⟩,
  ⟨(some 97), none, .op (.un .not (.t 96))⟩] [])
  (.cond (.t 97)
  (.seq (.reg [⟨(some 4), none, .op (.mv (.v .nils))⟩,
  ⟨(some 5), none, .op (.mv (.v (.bool false)))⟩] [])
  .ret)
  .skip))))))
  (.reg [⟨(some 98), none, .op (.bin .none .add (.t 86) (.v (.int .i64 1)))⟩,
  ⟨(some 86), none, .op (.mv (.t 98))⟩] [])))))))
  (.seq (.reg [⟨(some 99), none, .op (.mv (.t 0))⟩,
  ⟨(some 4), none, .op (.mv (.t 99))⟩,
  ⟨(some 5), none, .op (.mv (.v (.bool true)))⟩] [])
  .ret)))))))))
theorem c64 : codeOf Try.prog 64 = some (100, [(4, none), (5, none)], fc64) := by kernel_rfl
def fc65 : FC := (.seq (.reg [⟨(some 3), none, .op (.box (.t 0))⟩,
  ⟨(some 4), none, .op (.box (.t 1))⟩,
  ⟨(some 5), none, .op (.box (.t 2))⟩,
  ⟨(some 6), none, .op (.mv (.v (.bool false)))⟩] [])
  (.seq (.seq (.reg [⟨(some 7), none, .op (.fad 0 (.t 5))⟩,
  ⟨(some 8), none, .op (.load none (.t 7))⟩] [])
  (.block 0 (.seq (.seq (.reg [⟨(some 10), none, .op (.bin .none .eql (.t 8) (.v (.int .u8 2)))⟩,
  ⟨(some 9), none, .op (.mv (.t 10))⟩] [])
  (.cond (.t 9)
  .skip
  (.reg [⟨(some 11), none, .op (.bin .none .eql (.t 8) (.v (.int .u8 3)))⟩,
  ⟨(some 9), none, .op (.mv (.t 11))⟩] [])))
  (.cond (.t 9)
  (.seq (.reg [⟨(some 12), none, .op (.fad 1 (.t 5))⟩,
  ⟨(some 13), none, .op (.load none (.t 12))⟩,
  ⟨(some 14), none, .op (.fad 1 (.t 4))⟩,
  ⟨(some 15), none, .op (.load none (.t 14))⟩,
  ⟨(some 16), none, .op (.len .sl (.t 15))⟩,
  ⟨(some 17), none, .op (.bin .none .lss (.t 13) (.t 16))⟩,
  ⟨(some 6), none, .op (.mv (.t 17))⟩] [])
  .ret)
  (.seq (.reg [⟨(some 19), none, .op (.bin .none .eql (.t 8) (.v (.int .u8 4)))⟩,
  ⟨(some 18), none, .op (.mv (.t 19))⟩] [])
  (.cond (.t 18)
  (.seq (.reg [⟨(some 20), none, .op (.fad 1 (.t 5))⟩,
  ⟨(some 21), none, .op (.load none (.t 20))⟩,
  ⟨(some 22), none, .op (.fad 1 (.t 4))⟩,
  ⟨(some 23), none, .op (.load none (.t 22))⟩,
  ⟨(some 24), none, .op (.len .sl (.t 23))⟩,
  ⟨(some 25), none, .op (.bin .none .lss (.t 21) (.t 24))⟩,
  ⟨(some 26), none, .op (.mv (.t 25))⟩,
  ⟨(some 27), some (26, true), .op (.fad 1 (.t 4))⟩,
  ⟨(some 28), some (26, true), .op (.load none (.t 27))⟩,
  ⟨(some 29), some (26, true), .op (.fad 1 (.t 5))⟩,
  ⟨(some 30), some (26, true), .op (.load none (.t 29))⟩,
  ⟨(some 31), some (26, true), .op (.iad none none (.t 28) (.t 30))⟩,
  ⟨(some 32), some (26, true), .op (.load none (.t 31))⟩,
  ⟨(some 33), some (26, true), .op (.bin .none .eql (.t 32) (.v (.int .u8 0)))⟩,
  ⟨(some 34), none, .op (.pick (.t 26) (.t 33) (.v (.bool false)))⟩,
  ⟨(some 6), none, .op (.mv (.t 34))⟩] [])
  .ret)
  (.seq (.seq (.reg [⟨(some 36), none, .op (.bin .none .eql (.t 8) (.v (.int .u8 23)))⟩,
  ⟨(some 35), none, .op (.mv (.t 36))⟩] [])
  (.cond (.t 35)
  .skip
  (.reg [⟨(some 37), none, .op (.bin .none .eql (.t 8) (.v (.int .u8 25)))⟩,
  ⟨(some 35), none, .op (.mv (.t 37))⟩] [])))
  (.cond (.t 35)
  (.seq (.reg [⟨(some 38), none, .op (.fad 1 (.t 5))⟩,
  ⟨(some 39), none, .op (.load none (.t 38))⟩,
  ⟨(some 40), none, .op (.fad 0 (.t 3))⟩,
  ⟨(some 41), none, .op (.load none (.t 40))⟩,
  ⟨(some 42), none, .op (.len .sl (.t 41))⟩,
  ⟨(some 43), none, .op (.bin .none .lss (.t 39) (.t 42))⟩,
  ⟨(some 6), none, .op (.mv (.t 43))⟩] [])
  .ret)
  (.seq (.seq (.reg [⟨(some 45), none, .op (.bin .none .eql (.t 8) (.v (.int .u8 21)))⟩,
  ⟨(some 44), none, .op (.mv (.t 45))⟩] [])
  (.cond (.t 44)
  .skip
  (.reg [⟨(some 46), none, .op (.bin .none .eql (.t 8) (.v (.int .u8 22)))⟩,
  ⟨(some 44), none, .op (.mv (.t 46))⟩] [])))
  (.cond (.t 44)
  (.seq (.reg [⟨(some 47), none, .op (.fad 1 (.t 5))⟩,
  ⟨(some 48), none, .op (.load none (.t 47))⟩,
  ⟨(some 49), none, .op (.fad 4 (.t 4))⟩,
  ⟨(some 50), none, .op (.load none (.t 49))⟩,
  ⟨(some 51), none, .op (.len .sl (.t 50))⟩,
  ⟨(some 52), none, .op (.bin .none .lss (.t 48) (.t 51))⟩,
  ⟨(some 6), none, .op (.mv (.t 52))⟩] [])
  .ret)
  .skip))))))))))
  (.seq (.reg [⟨(some 6), none, .op (.mv (.v (.bool true)))⟩] [])
  .ret)))
theorem c65 : codeOf Try.prog 65 = some (53, [(6, none)], fc65) := by kernel_rfl
def fc66 : FC := (.seq (.reg [⟨(some 4), none, .op (.box (.t 0))⟩,
  ⟨(some 5), none, .op (.box (.t 1))⟩,
  ⟨(some 6), none, .op (.box (.t 2))⟩,
  ⟨(some 8), none, .op (.mv (.v .nils))⟩,
  ⟨(some 9), none, .op (.mv (.v .nils))⟩] [])
  (.seq (.reg [⟨(some 12), none, .op (.bsl none [(.int .u8 0)] 1 [(0, 1, (.v (.int .u8 0)))])⟩,
  ⟨(some 10), none, .op (.mv (.t 12))⟩] [])
  (.seq (.seq (.reg [⟨(some 13), none, .op (.fad 0 (.t 6))⟩,
  ⟨(some 14), none, .op (.load none (.t 13))⟩] [])
  (.block 0 (.seq (.seq (.reg [⟨(some 16), none, .op (.bin .none .eql (.t 14) (.v (.int .u8 1)))⟩,
  ⟨(some 15), none, .op (.mv (.t 16))⟩] [])
  (.cond (.t 15)
  .skip
  (.reg [⟨(some 17), none, .op (.bin .none .eql (.t 14) (.v (.int .u8 28)))⟩,
  ⟨(some 15), none, .op (.mv (.t 17))⟩] [])))
  (.cond (.t 15)
  (.seq (.reg [⟨(some 18), none, .op (.mv (.t 10))⟩,
  ⟨(some 8), none, .op (.mv (.v .nils))⟩,
  ⟨(some 9), none, .op (.mv (.t 18))⟩] [])
  .ret)
  (.seq (.reg [⟨(some 20), none, .op (.bin .none .eql (.t 14) (.v (.int .u8 2)))⟩,
  ⟨(some 19), none, .op (.mv (.t 20))⟩] [])
  (.cond (.t 19)
  (.seq (.reg [⟨(some 21), none, .op (.fad 1 (.t 5))⟩,
  ⟨(some 22), none, .op (.load none (.t 21))⟩,
  ⟨(some 23), none, .op (.fad 1 (.t 6))⟩,
  ⟨(some 24), none, .op (.load none (.t 23))⟩,
  ⟨(some 25), none, .op (.fad 1 (.t 6))⟩,
  ⟨(some 26), none, .op (.load none (.t 25))⟩,
  ⟨(some 27), none, .op (.bin .none .add (.t 26) (.v (.int .i64 1)))⟩,
  ⟨(some 28), none, .op (.slc none (.t 22) (some (.t 24)) (some (.t 27)) none)⟩,
  ⟨(some 8), none, .op (.mv (.v .nils))⟩,
  ⟨(some 9), none, .op (.mv (.t 28))⟩] [])
  .ret)
  (.seq (.reg [⟨(some 30), none, .op (.bin .none .eql (.t 14) (.v (.int .u8 3)))⟩,
  ⟨(some 29), none, .op (.mv (.t 30))⟩] [])
  (.cond (.t 29)
  (.seq (.reg [⟨(some 31), none, .op (.fad 1 (.t 5))⟩,
  ⟨(some 32), none, .op (.load none (.t 31))⟩,
  ⟨(some 33), none, .op (.fad 1 (.t 6))⟩,
  ⟨(some 34), none, .op (.load none (.t 33))⟩,
  ⟨(some 35), none, .op (.fad 1 (.t 6))⟩,
  ⟨(some 36), none, .op (.load none (.t 35))⟩,
  ⟨(some 37), none, .op (.bin .none .add (.t 36) (.v (.int .i64 1)))⟩,
  ⟨(some 38), none, .op (.slc none (.t 32) (some (.t 34)) (some (.t 37)) none)⟩,
  ⟨(some 8), none, .op (.mv (.t 38))⟩,
  ⟨(some 9), none, .op (.mv (.v .nils))⟩] [])
  .ret)
  (.seq (.reg [⟨(some 40), none, .op (.bin .none .eql (.t 14) (.v (.int .u8 4)))⟩,
  ⟨(some 39), none, .op (.mv (.t 40))⟩] [])
  (.cond (.t 39)
  (.seq (.reg [⟨(some 41), none, .op (.bsl none [(.int .u8 0)] 1 [(0, 1, (.v (.int .u8 1)))])⟩,
  ⟨(some 8), none, .op (.mv (.v .nils))⟩,
  ⟨(some 9), none, .op (.mv (.t 41))⟩] [])
  .ret)
  (.seq (.reg [⟨(some 43), none, .op (.bin .none .eql (.t 14) (.v (.int .u8 5)))⟩,
  ⟨(some 42), none, .op (.mv (.t 43))⟩] [])
  (.cond (.t 42)
  (.seq (.reg [⟨(some 44), none, .op (.bsl none [(.int .u8 0)] 1 [(0, 1, (.v (.int .u8 1)))])⟩,
  ⟨(some 45), none, .op (.mv (.t 10))⟩,
  ⟨(some 8), none, .op (.mv (.t 44))⟩,
  ⟨(some 9), none, .op (.mv (.t 45))⟩] [])
  .ret)
  (.seq (.reg [⟨(some 47), none, .op (.bin .none .eql (.t 14) (.v (.int .u8 6)))⟩,
  ⟨(some 46), none, .op (.mv (.t 47))⟩] [])
  (.cond (.t 46)
  (.seq (.reg [⟨(some 48), none, .op (.bsl none [(.int .u8 0)] 2 [(0, 1, (.v (.int .u8 1))), (1, 1, (.v (.int .u8 0)))])⟩,
  ⟨(some 8), none, .op (.mv (.t 48))⟩,
  ⟨(some 9), none, .op (.mv (.v .nils))⟩] [])
  .ret)
  (.seq (.reg [⟨(some 50), none, .op (.bin .none .eql (.t 14) (.v (.int .u8 21)))⟩,
  ⟨(some 49), none, .op (.mv (.t 50))⟩] [])
  (.cond (.t 49)
  (.seq (.reg [⟨(some 8), none, .op (.mv (.v .nils))⟩,
  ⟨(some 9), none, .op (.mv (.v .nils))⟩] [])
  .ret)
  (.seq (.seq (.reg [⟨(some 52), none, .op (.bin .none .eql (.t 14) (.v (.int .u8 22)))⟩,
  ⟨(some 51), none, .op (.mv (.t 52))⟩] [])
  (.cond (.t 51)
  .skip
  (.seq (.reg [⟨(some 53), none, .op (.bin .none .eql (.t 14) (.v (.int .u8 26)))⟩,
  ⟨(some 51), none, .op (.mv (.t 53))⟩] [])
  (.cond (.t 51)
  .skip
  (.seq (.reg [⟨(some 54), none, .op (.bin .none .eql (.t 14) (.v (.int .u8 29)))⟩,
  ⟨(some 51), none, .op (.mv (.t 54))⟩] [])
  (.cond (.t 51)
  .skip
  (.reg [⟨(some 55), none, .op (.bin .none .eql (.t 14) (.v (.int .u8 30)))⟩,
  ⟨(some 51), none, .op (.mv (.t 55))⟩] [])))))))
  (.cond (.t 51)
  (.seq (.reg [⟨(some 56), none, .op (.mv (.t 10))⟩,
  ⟨(some 8), none, .op (.mv (.t 56))⟩,
  ⟨(some 9), none, .op (.mv (.v .nils))⟩] [])
  .ret)
  (.seq (.seq (.reg [⟨(some 58), none, .op (.bin .none .eql (.t 14) (.v (.int .u8 23)))⟩,
  ⟨(some 57), none, .op (.mv (.t 58))⟩] [])
  (.cond (.t 57)
  .skip
  (.reg [⟨(some 59), none, .op (.bin .none .eql (.t 14) (.v (.int .u8 25)))⟩,
  ⟨(some 57), none, .op (.mv (.t 59))⟩] [])))
  (.cond (.t 57)
  (.seq (.reg [⟨(some 60), none, .op (.fad 0 (.t 4))⟩,
  ⟨(some 61), none, .op (.load none (.t 60))⟩,
  ⟨(some 62), none, .op (.fad 1 (.t 6))⟩,
  ⟨(some 63), none, .op (.load none (.t 62))⟩,
  ⟨(some 64), none, .op (.iad none (some 5) (.t 61) (.t 63))⟩,
  ⟨(some 65), none, .op (.load (some 5) (.t 64))⟩,
  ⟨(some 11), none, .op (.new [(.int .i64 0), .nils, (.bool false), (.int .i64 0), .nils])⟩,
  ⟨none, none, .op (.store 5 (.t 11) (.t 65))⟩] [])
  (.seq (.seq (.reg [⟨(some 66), none, .op (.fad 0 (.t 6))⟩,
  ⟨(some 67), none, .op (.load none (.t 66))⟩,
  ⟨(some 68), none, .op (.bin .none .eql (.t 67) (.v (.int .u8 23)))⟩,
  ⟨(some 69), none, .op (.mv (.t 68))⟩,
  ⟨(some 70), some (69, true), .op (.fad 2 (.t 11))⟩,
  ⟨(some 71), some (69, true), .op (.load none (.t 70))⟩,
  ⟨(some 72), none, .op (.pick (.t 69) (.t 71) (.v (.bool false)))⟩] [])
  (.cond (.t 72)
  (.seq (.reg [⟨(some 73), none, .op (.fad 1 (.t 11))⟩,
  ⟨(some 74), none, .op (.load none (.t 73))⟩,
  ⟨(some 75), none, .op (.fad 0 (.t 11))⟩,
  ⟨(some 76), none, .op (.load none (.t 75))⟩,
  ⟨(some 77), none, .op (.slc none (.t 74) none (some (.t 76)) none)⟩,
  ⟨(some 78), none, .op (.mv (.t 10))⟩,
  ⟨(some 8), none, .op (.mv (.t 77))⟩,
  ⟨(some 9), none, .op (.mv (.t 78))⟩] [])
  .ret)
  .skip))
  (.seq (.reg [⟨(some 79), none, .op (.fad 1 (.t 11))⟩,
  ⟨(some 80), none, .op (.load none (.t 79))⟩,
  ⟨(some 81), none, .op (.fad 0 (.t 11))⟩,
  ⟨(some 82), none, .op (.load none (.t 81))⟩,
  ⟨(some 83), none, .op (.slc none (.t 80) none (some (.t 82)) none)⟩,
  ⟨(some 8), none, .op (.mv (.t 83))⟩,
  ⟨(some 9), none, .op (.mv (.v .nils))⟩] [])
  .ret)))
  (.seq (.reg [⟨(some 85), none, .op (.bin .none .eql (.t 14) (.v (.int .u8 24)))⟩,
  ⟨(some 84), none, .op (.mv (.t 85))⟩] [])
  (.cond (.t 84)
  (.seq (.seq (.reg [⟨(some 86), none, .op (.fad 2 (.t 5))⟩,
  ⟨(some 87), none, .op (.load none (.t 86))⟩] [])
  (.cond (.t 87)
  (.seq (.reg [⟨(some 88), none, .op (.mv (.t 10))⟩,
  ⟨(some 8), none, .op (.mv (.t 88))⟩,
  ⟨(some 9), none, .op (.mv (.v .nils))⟩] [])
  .ret)
  .skip))
  (.seq (.reg [⟨(some 8), none, .op (.mv (.v .nils))⟩,
  ⟨(some 9), none, .op (.mv (.v .nils))⟩] [])
  .ret))
  (.seq (.reg [⟨(some 90), none, .op (.bin .none .eql (.t 14) (.v (.int .u8 27)))⟩,
  ⟨(some 89), none, .op (.mv (.t 90))⟩] [])
  (.cond (.t 89)
  (.seq (.reg [⟨(some 91), none, .op (.bsl none [(.int .u8 0)] 2 [(0, 1, (.v (.int .u8 0))), (1, 1, (.v (.int .u8 0)))])⟩,
  ⟨(some 8), none, .op (.mv (.v .nils))⟩,
  ⟨(some 9), none, .op (.mv (.t 91))⟩] [])
  .ret)
  (.seq (.reg [⟨(some 93), none, .op (.bin .none .eql (.t 14) (.v (.int .u8 31)))⟩,
  ⟨(some 92), none, .op (.mv (.t 93))⟩] [])
  (.cond (.t 92)
  (.seq (.reg [⟨(some 94), none, .op (.mv (.t 3))⟩,
  ⟨(some 95), none, .op (.bsl none [(.int .u8 0)] 1 [(0, 1, (.t 94))])⟩,
  ⟨(some 8), none, .op (.mv (.t 95))⟩,
  ⟨(some 9), none, .op (.mv (.v .nils))⟩] [])
  .ret)
  (.seq (.reg [⟨(some 97), none, .op (.bin .none .eql (.t 14) (.v (.int .u8 32)))⟩,
  ⟨(some 96), none, .op (.mv (.t 97))⟩] [])
  (.cond (.t 96)
  (.seq (.reg [⟨(some 98), none, .op (.mv (.t 3))⟩,
  ⟨(some 99), none, .op (.bsl none [(.int .u8 0)] 1 [(0, 1, (.t 98))])⟩,
  ⟨(some 100), none, .op (.mv (.t 3))⟩,
  ⟨(some 101), none, .op (.mv (.t 3))⟩,
  ⟨(some 102), none, .op (.bsl none [(.int .u8 0)] 2 [(0, 1, (.t 100)), (1, 1, (.t 101))])⟩,
  ⟨(some 8), none, .op (.mv (.t 99))⟩,
  ⟨(some 9), none, .op (.mv (.t 102))⟩] [])
  .ret)
  .skip))))))))))))))))))))))))))))
  (.seq (.reg [⟨(some 103), none, .op (.bsl none [(.int .u8 0)] 2 [(0, 1, (.v (.int .u8 0))), (1, 1, (.v (.int .u8 0)))])⟩,
  ⟨(some 104), none, .op (.mv (.t 10))⟩,
  ⟨(some 8), none, .op (.mv (.t 103))⟩,
  ⟨(some 9), none, .op (.mv (.t 104))⟩] [])
  .ret))))
theorem c66 : codeOf Try.prog 66 = some (105, [(8, none), (9, none)], fc66) := by kernel_rfl
def fc67 : FC := (.seq (.reg [⟨(some 4), none, .op (.mv (.v (.bool false)))⟩] [])
  (.seq (.seq (.reg [⟨(some 6), none, .op (.mv (.t 0))⟩,
  ⟨(some 7), none, .op (.len .sl (.t 6))⟩,
  ⟨(some 8), none, .op (.mv (.t 1))⟩,
  ⟨(some 9), none, .op (.len .sl (.t 8))⟩,
  ⟨(some 10), none, .op (.bin .none .neq (.t 7) (.t 9))⟩] [])
  (.cond (.t 10)
  (.seq (.reg [⟨(some 4), none, .op (.mv (.v (.bool false)))⟩] [])
  .ret)
  .skip))
  (.seq (.seq (.reg [⟨(some 11), none, .op (.mv (.t 0))⟩,
  ⟨(some 12), none, .op (.len .sl (.t 11))⟩,
  ⟨(some 13), none, .op (.mv (.v (.int .i64 0)))⟩] [])
  (.block 0 (.loop (.seq (.reg [⟨(some 14), none, .op (.bin .none .lss (.t 13) (.t 12))⟩] [])
  (.seq (.cond (.t 14)
  .skip
  (.exit 0))
  (.seq (.block 1 (.seq (.reg [⟨(some 15), none, .op (.mv (.t 13))⟩,
  ⟨(some 5), none, .op (.mv (.t 15))⟩] [])
  (.seq (.reg [⟨(some 16), none, .op (.mv (.t 0))⟩,
  ⟨(some 17), none, .op (.mv (.t 5))⟩,
  ⟨(some 18), none, .op (.iad none none (.t 16) (.t 17))⟩,
  ⟨(some 19), none, .op (.load none (.t 18))⟩,
  ⟨(some 20), none, .op (.mv (.t 1))⟩,
  ⟨(some 21), none, .op (.mv (.t 5))⟩,
  ⟨(some 22), none, .op (.iad none none (.t 20) (.t 21))⟩,
  ⟨(some 23), none, .op (.load none (.t 22))⟩,
  ⟨(some 24), none, .op (.bin .none .neq (.t 19) (.t 23))⟩] [])
  (.cond (.t 24)
  (.seq (.reg [⟨(some 4), none, .op (.mv (.v (.bool false)))⟩] [])
  .ret)
  .skip))))
  (.reg [⟨(some 25), none, .op (.bin .none .add (.t 13) (.v (.int .i64 1)))⟩,
  ⟨(some 13), none, .op (.mv (.t 25))⟩] [])))))))
  (.seq (.reg [⟨(some 4), none, .op (.mv (.v (.bool true)))⟩] [])
  .ret))))
theorem c67 : codeOf Try.prog 67 = some (26, [(4, none)], fc67) := by kernel_rfl
def fc68 : FC := (.seq (.reg [⟨(some 2), none, .op (.mv (.v .nils))⟩] [])
  (.seq (.seq (.reg [⟨(some 3), none, .op (.mv (.t 0))⟩,
  ⟨(some 4), none, .op (.bin .flat .eql (.t 3) (.v .nils))⟩] [])
  (.cond (.t 4)
  (.seq (.reg [⟨(some 2), none, .op (.mv (.v .nils))⟩] [])
  .ret)
  .skip))
  (.seq (.reg [⟨(some 5), none, .op (.bsl none [(.int .u8 0)] 0 [])⟩,
  ⟨(some 6), none, .op (.mv (.t 0))⟩,
  ⟨(some 7), none, .op (.app none 1 (.t 5) (.t 6))⟩,
  ⟨(some 2), none, .op (.mv (.t 7))⟩] [])
  .ret)))
theorem c68 : codeOf Try.prog 68 = some (8, [(2, none)], fc68) := by kernel_rfl
def fc69 : FC := (.seq (.reg [⟨(some 2), none, .op (.box (.t 0))⟩,
  ⟨(some 4), none, .op (.mv (.v .nils))⟩] [])
  (.seq (.seq (.reg [⟨(some 5), none, .op (.fad 0 (.t 2))⟩,
  ⟨(some 6), none, .op (.load none (.t 5))⟩] [])
  (.block 0 (.seq (.reg [⟨(some 8), none, .op (.bin .none .eql (.t 6) (.v (.int .u8 21)))⟩,
  ⟨(some 7), none, .op (.mv (.t 8))⟩] [])
  (.cond (.t 7)
  (.seq (.reg [⟨(some 9), none, .op (.fad 1 (.t 2))⟩,
  ⟨(some 10), none, .op (.load none (.t 9))⟩,
  ⟨(some 11), none, .op (.bsl none [(.int .i64 0)] 1 [(0, 1, (.t 10))])⟩,
  ⟨(some 4), none, .op (.mv (.t 11))⟩] [])
  .ret)
  (.seq (.reg [⟨(some 13), none, .op (.bin .none .eql (.t 6) (.v (.int .u8 22)))⟩,
  ⟨(some 12), none, .op (.mv (.t 13))⟩] [])
  (.cond (.t 12)
  (.seq (.reg [⟨(some 14), none, .op (.mv (.t 1))⟩,
  ⟨(some 15), none, .op (.bin .none .add (.t 14) (.v (.int .i64 1)))⟩,
  ⟨(some 16), none, .op (.fad 1 (.t 2))⟩,
  ⟨(some 17), none, .op (.load none (.t 16))⟩,
  ⟨(some 18), none, .op (.bsl none [(.int .i64 0)] 2 [(0, 1, (.t 15)), (1, 1, (.t 17))])⟩,
  ⟨(some 4), none, .op (.mv (.t 18))⟩] [])
  .ret)
  (.seq (.seq (.reg [⟨(some 20), none, .op (.bin .none .eql (.t 6) (.v (.int .u8 24)))⟩,
  ⟨(some 19), none, .op (.mv (.t 20))⟩] [])
  (.cond (.t 19)
  .skip
  (.seq (.reg [⟨(some 21), none, .op (.bin .none .eql (.t 6) (.v (.int .u8 26)))⟩,
  ⟨(some 19), none, .op (.mv (.t 21))⟩] [])
  (.cond (.t 19)
  .skip
  (.reg [⟨(some 22), none, .op (.bin .none .eql (.t 6) (.v (.int .u8 30)))⟩,
  ⟨(some 19), none, .op (.mv (.t 22))⟩] [])))))
  (.cond (.t 19)
  (.seq (.reg [⟨(some 4), none, .op (.mv (.v .nils))⟩] [])
  .ret)
  .skip))))))))
  (.seq (.reg [⟨(some 23), none, .op (.mv (.t 1))⟩,
  ⟨(some 24), none, .op (.bin .none .add (.t 23) (.v (.int .i64 1)))⟩,
  ⟨(some 25), none, .op (.bsl none [(.int .i64 0)] 1 [(0, 1, (.t 24))])⟩,
  ⟨(some 4), none, .op (.mv (.t 25))⟩] [])
  .ret)))
theorem c69 : codeOf Try.prog 69 = some (26, [(4, none)], fc69) := by kernel_rfl
def fc83 : FC := (.seq (.reg [⟨(some 6), none, .op (.mv (.v .nils))⟩] [])
  (.seq (.seq (.reg [⟨(some 8), none, .op (.mv (.t 2))⟩,
  ⟨(some 9), none, .op (.mv (.v (.int .i64 0)))⟩] [])
  (.block 0 (.loop (.seq (.reg [⟨(some 10), none, .op (.bin .none .lss (.t 9) (.t 8))⟩] [])
  (.seq (.cond (.t 10)
  .skip
  (.exit 0))
  (.seq (.block 1 (.seq (.reg [⟨(some 11), none, .op (.mv (.t 9))⟩,
  ⟨(some 7), none, .op (.mv (.t 11))⟩] [])
  (.reg [⟨(some 12), none, .op (.mv (.t 0))⟩,
  ⟨(some 13), none, .op (.mv (.t 1))⟩,
  ⟨(some 14), none, .op (.mv (.t 7))⟩,
  ⟨(some 15), none, .op (.bin .none .mul (.v (.int .i64 8)) (.t 14))⟩,
  ⟨(some 16), none, .op (.cint .u64 (.t 15))⟩,
  ⟨(some 17), none, .op (.bin .none .shr (.t 13) (.t 16))⟩,
  ⟨(some 18), none, .op (.cint .u8 (.t 17))⟩,
  ⟨(some 19), none, .op (.bsl none [(.int .u8 0)] 1 [(0, 1, (.t 18))])⟩,
  ⟨(some 20), none, .op (.app none 1 (.t 12) (.t 19))⟩,
  ⟨(some 0), none, .op (.mv (.t 20))⟩] [])))
  (.reg [⟨(some 21), none, .op (.bin .none .add (.t 9) (.v (.int .i64 1)))⟩,
  ⟨(some 9), none, .op (.mv (.t 21))⟩] [])))))))
  (.seq (.reg [⟨(some 22), none, .op (.mv (.t 0))⟩,
  ⟨(some 6), none, .op (.mv (.t 22))⟩] [])
  .ret)))
theorem c83 : codeOf Try.prog 83 = some (23, [(6, none)], fc83) := by kernel_rfl
def fc84 : FC := (.seq (.reg [⟨(some 3), none, .op (.box (.t 1))⟩,
  ⟨(some 4), none, .op (.mv (.v .nils))⟩,
  ⟨(some 5), none, .op (.mv (.v (.bool false)))⟩] [])
  (.seq (.reg [⟨(some 7), none, .op (.fad 0 (.t 3))⟩,
  ⟨(some 8), none, .op (.load none (.t 7))⟩,
  ⟨(some 9), none, .call 85 [(.t 8)]⟩,
  ⟨(some 6), none, .op (.mv (.t 9))⟩] [])
  (.seq (.seq (.reg [⟨(some 10), none, .op (.mv (.t 6))⟩,
  ⟨(some 11), none, .op (.bin .none .lss (.t 10) (.v (.int .i64 0)))⟩,
  ⟨(some 12), none, .op (.mv (.t 11))⟩,
  ⟨(some 13), some (12, false), .op (.mv (.t 6))⟩,
  ⟨(some 14), some (12, false), .op (.bin .none .neq (.t 13) (.v (.int .i64 8)))⟩,
  ⟨(some 15), some (12, false), .op (.mv (.t 14))⟩,
  ⟨(some 16), some (15, true), .op (.fad 2 (.t 3))⟩,
  ⟨(some 17), some (15, true), .op (.load none (.t 16))⟩,
  ⟨(some 18), some (15, true), .op (.bin .none .neq (.t 17) (.v (.int .u64 0)))⟩,
  ⟨(some 19), some (12, false), .op (.pick (.t 15) (.t 18) (.v (.bool false)))⟩,
  ⟨(some 20), none, .op (.pick (.t 12) (.v (.bool true)) (.t 19))⟩] [])
  (.cond (.t 20)
  (.seq (.reg [⟨(some 4), none, .op (.mv (.v .nils))⟩,
  ⟨(some 5), none, .op (.mv (.v (.bool false)))⟩] [])
  .ret)
  .skip))
  (.seq (.reg [⟨(some 21), none, .op (.mv (.t 0))⟩,
  ⟨(some 22), none, .op (.fad 0 (.t 3))⟩,
  ⟨(some 23), none, .op (.load none (.t 22))⟩,
  ⟨(some 24), none, .op (.bsl none [(.int .u8 0)] 1 [(0, 1, (.t 23))])⟩,
  ⟨(some 25), none, .op (.app none 1 (.t 21) (.t 24))⟩,
  ⟨(some 0), none, .op (.mv (.t 25))⟩] [])
  (.seq (.seq (.reg [⟨(some 26), none, .op (.mv (.t 6))⟩,
  ⟨(some 27), none, .op (.bin .none .eql (.t 26) (.v (.int .i64 8)))⟩] [])
  (.cond (.t 27)
  (.seq (.reg [⟨(some 28), none, .op (.mv (.t 0))⟩,
  ⟨(some 29), none, .op (.fad 2 (.t 3))⟩,
  ⟨(some 30), none, .op (.load none (.t 29))⟩,
  ⟨(some 31), none, .call 83 [(.t 28), (.t 30), (.v (.int .i64 8))]⟩,
  ⟨(some 32), none, .op (.fad 1 (.t 3))⟩,
  ⟨(some 33), none, .op (.load none (.t 32))⟩,
  ⟨(some 34), none, .op (.bin .none .eql (.t 33) (.v (.int .i64 0)))⟩,
  ⟨(some 4), none, .op (.mv (.t 31))⟩,
  ⟨(some 5), none, .op (.mv (.t 34))⟩] [(3, 5)])
  .ret)
  .skip))
  (.seq (.reg [⟨(some 35), none, .op (.mv (.t 0))⟩,
  ⟨(some 36), none, .op (.fad 1 (.t 3))⟩,
  ⟨(some 37), none, .op (.load none (.t 36))⟩,
  ⟨(some 38), none, .op (.cint .u64 (.t 37))⟩,
  ⟨(some 39), none, .op (.mv (.t 6))⟩,
  ⟨(some 40), none, .call 83 [(.t 35), (.t 38), (.t 39)]⟩,
  ⟨(some 41), none, .op (.fad 1 (.t 3))⟩,
  ⟨(some 42), none, .op (.load none (.t 41))⟩,
  ⟨(some 43), none, .op (.bin .none .geq (.t 42) (.v (.int .i64 0)))⟩,
  ⟨(some 44), none, .op (.mv (.t 43))⟩,
  ⟨(some 45), some (44, true), .op (.fad 1 (.t 3))⟩,
  ⟨(some 46), some (44, true), .op (.load none (.t 45))⟩,
  ⟨(some 47), some (44, true), .op (.mv (.t 6))⟩,
  ⟨(some 48), some (44, true), .op (.bin .none .mul (.v (.int .i64 8)) (.t 47))⟩,
  ⟨(some 49), some (44, true), .op (.cint .u64 (.t 48))⟩,
  ⟨(some 50), some (44, true), .op (.bin .none .shl (.v (.int .i64 1)) (.t 49))⟩,
  ⟨(some 51), some (44, true), .op (.bin .none .lss (.t 46) (.t 50))⟩,
  ⟨(some 52), none, .op (.pick (.t 44) (.t 51) (.v (.bool false)))⟩,
  ⟨(some 4), none, .op (.mv (.t 40))⟩,
  ⟨(some 5), none, .op (.mv (.t 52))⟩] [(5, 7)])
  .ret))))))
theorem c84 : codeOf Try.prog 84 = some (53, [(4, none), (5, none)], fc84) := by kernel_rfl
def fc85 : FC := (.seq (.reg [⟨(some 2), none, .op (.mv (.v (.int .i64 0)))⟩] [])
  (.seq (.seq (.reg [⟨(some 3), none, .op (.mv (.t 0))⟩] [])
  (.block 0 (.seq (.reg [⟨(some 5), none, .op (.bin .none .eql (.t 3) (.v (.int .u8 1)))⟩,
  ⟨(some 4), none, .op (.mv (.t 5))⟩] [])
  (.cond (.t 4)
  (.seq (.reg [⟨(some 2), none, .op (.mv (.v (.int .i64 8)))⟩] [])
  .ret)
  (.seq (.seq (.reg [⟨(some 7), none, .op (.bin .none .eql (.t 3) (.v (.int .u8 2)))⟩,
  ⟨(some 6), none, .op (.mv (.t 7))⟩] [])
  (.cond (.t 6)
  .skip
  (.seq (.reg [⟨(some 8), none, .op (.bin .none .eql (.t 3) (.v (.int .u8 3)))⟩,
  ⟨(some 6), none, .op (.mv (.t 8))⟩] [])
  (.cond (.t 6)
  .skip
  (.seq (.reg [⟨(some 9), none, .op (.bin .none .eql (.t 3) (.v (.int .u8 4)))⟩,
  ⟨(some 6), none, .op (.mv (.t 9))⟩] [])
  (.cond (.t 6)
  .skip
  (.seq (.reg [⟨(some 10), none, .op (.bin .none .eql (.t 3) (.v (.int .u8 23)))⟩,
  ⟨(some 6), none, .op (.mv (.t 10))⟩] [])
  (.cond (.t 6)
  .skip
  (.reg [⟨(some 11), none, .op (.bin .none .eql (.t 3) (.v (.int .u8 25)))⟩,
  ⟨(some 6), none, .op (.mv (.t 11))⟩] [])))))))))
  (.cond (.t 6)
  (.seq (.reg [⟨(some 2), none, .op (.mv (.v (.int .i64 1)))⟩] [])
  .ret)
  (.seq (.seq (.reg [⟨(some 13), none, .op (.bin .none .eql (.t 3) (.v (.int .u8 21)))⟩,
  ⟨(some 12), none, .op (.mv (.t 13))⟩] [])
  (.cond (.t 12)
  .skip
  (.reg [⟨(some 14), none, .op (.bin .none .eql (.t 3) (.v (.int .u8 22)))⟩,
  ⟨(some 12), none, .op (.mv (.t 14))⟩] [])))
  (.cond (.t 12)
  (.seq (.reg [⟨(some 2), none, .op (.mv (.v (.int .i64 2)))⟩] [])
  .ret)
  .skip))))))))
  (.seq (.seq (.reg [⟨(some 15), none, .op (.mv (.t 0))⟩,
  ⟨(some 16), none, .op (.bin .none .lss (.t 15) (.v (.int .u8 1)))⟩,
  ⟨(some 17), none, .op (.mv (.t 16))⟩,
  ⟨(some 18), some (17, false), .op (.mv (.t 0))⟩,
  ⟨(some 19), some (17, false), .op (.bin .none .gtr (.t 18) (.v (.int .u8 32)))⟩,
  ⟨(some 20), none, .op (.pick (.t 17) (.v (.bool true)) (.t 19))⟩] [])
  (.cond (.t 20)
  (.seq (.reg [⟨(some 2), none, .op (.mv (.v (.int .i64 (-1))))⟩] [])
  .ret)
  .skip))
  (.seq (.reg [⟨(some 2), none, .op (.mv (.v (.int .i64 0)))⟩] [])
  .ret))))
theorem c85 : codeOf Try.prog 85 = some (21, [(2, none)], fc85) := by kernel_rfl
def fc103 : FC := (.block 0 (.loop (.seq (.seq (.reg [⟨(some 4), none, .op (.mv (.t 0))⟩,
  ⟨(some 5), none, .call 122 [(.t 4), (.v (.int .i64 2))]⟩,
  ⟨(some 6), none, .op (.un .not (.t 5))⟩] [])
  (.cond (.t 6)
  .skip
  (.exit 0)))
  (.block 1 (.seq (.reg [⟨(some 7), none, .op (.mv (.t 0))⟩,
  ⟨(some 8), none, .op (.nchk (.t 7))⟩,
  ⟨(some 9), none, .op (.fad 8 (.t 8))⟩,
  ⟨(some 10), none, .op (.load none (.t 9))⟩,
  ⟨(some 11), none, .op (.mv (.t 0))⟩,
  ⟨(some 12), none, .op (.nchk (.t 11))⟩,
  ⟨(some 13), none, .op (.fad 8 (.t 12))⟩,
  ⟨(some 14), none, .op (.load none (.t 13))⟩,
  ⟨(some 15), none, .op (.len .sl (.t 14))⟩,
  ⟨(some 16), none, .op (.bin .none .sub (.t 15) (.v (.int .i64 1)))⟩,
  ⟨(some 17), none, .op (.iad none none (.t 10) (.t 16))⟩,
  ⟨(some 18), none, .op (.load none (.t 17))⟩,
  ⟨(some 2), none, .op (.mv (.t 18))⟩] [])
  (.seq (.reg [⟨(some 19), none, .op (.mv (.t 0))⟩,
  ⟨(some 20), none, .op (.mv (.t 0))⟩,
  ⟨(some 21), none, .op (.nchk (.t 20))⟩,
  ⟨(some 22), none, .op (.fad 8 (.t 21))⟩,
  ⟨(some 23), none, .op (.load none (.t 22))⟩,
  ⟨(some 24), none, .op (.mv (.t 0))⟩,
  ⟨(some 25), none, .op (.nchk (.t 24))⟩,
  ⟨(some 26), none, .op (.fad 8 (.t 25))⟩,
  ⟨(some 27), none, .op (.load none (.t 26))⟩,
  ⟨(some 28), none, .op (.len .sl (.t 27))⟩,
  ⟨(some 29), none, .op (.bin .none .sub (.t 28) (.v (.int .i64 1)))⟩,
  ⟨(some 30), none, .op (.slc none (.t 23) none (some (.t 29)) none)⟩,
  ⟨(some 31), none, .op (.nchk (.t 19))⟩,
  ⟨(some 32), none, .op (.fad 8 (.t 31))⟩,
  ⟨none, none, .op (.store 1 (.t 32) (.t 30))⟩] [])
  (.seq (.reg [⟨(some 33), none, .op (.mv (.t 0))⟩,
  ⟨(some 34), none, .op (.nchk (.t 33))⟩,
  ⟨(some 35), none, .op (.fad 9 (.t 34))⟩,
  ⟨(some 36), none, .op (.load none (.t 35))⟩,
  ⟨(some 37), none, .op (.len .sl (.t 36))⟩,
  ⟨(some 38), none, .op (.bin .none .sub (.t 37) (.v (.int .i64 1)))⟩,
  ⟨(some 3), none, .op (.mv (.t 38))⟩] [])
  (.seq (.seq (.reg [⟨(some 39), none, .op (.mv (.t 2))⟩,
  ⟨(some 40), none, .op (.nchk (.t 39))⟩,
  ⟨(some 41), none, .op (.fad 1 (.t 40))⟩,
  ⟨(some 42), none, .op (.load none (.t 41))⟩,
  ⟨(some 43), none, .op (.bin .none .eql (.t 42) (.v (.int .i64 2)))⟩] [])
  (.cond (.t 43)
  (.seq (.reg [⟨(some 44), none, .op (.mv (.t 0))⟩,
  ⟨(some 45), none, .op (.nchk (.t 44))⟩,
  ⟨(some 46), none, .op (.fad 9 (.t 45))⟩,
  ⟨(some 47), none, .op (.load none (.t 46))⟩,
  ⟨(some 48), none, .op (.mv (.t 3))⟩,
  ⟨(some 49), none, .op (.bin .none .sub (.t 48) (.v (.int .i64 1)))⟩,
  ⟨(some 50), none, .op (.mv (.t 0))⟩,
  ⟨(some 51), none, .op (.nchk (.t 50))⟩,
  ⟨(some 52), none, .op (.fad 9 (.t 51))⟩,
  ⟨(some 53), none, .op (.load none (.t 52))⟩,
  ⟨(some 54), none, .op (.mv (.t 3))⟩,
  ⟨(some 55), none, .op (.iad none (some 2) (.t 53) (.t 54))⟩,
  ⟨(some 56), none, .op (.load (some 2) (.t 55))⟩,
  ⟨(some 57), none, .op (.iad none (some 2) (.t 47) (.t 49))⟩,
  ⟨none, none, .op (.store 2 (.t 57) (.t 56))⟩] [])
  (.seq (.reg [⟨(some 58), none, .op (.mv (.t 0))⟩,
  ⟨(some 59), none, .op (.mv (.t 0))⟩,
  ⟨(some 60), none, .op (.nchk (.t 59))⟩,
  ⟨(some 61), none, .op (.fad 9 (.t 60))⟩,
  ⟨(some 62), none, .op (.load none (.t 61))⟩,
  ⟨(some 63), none, .op (.mv (.t 3))⟩,
  ⟨(some 64), none, .op (.slc (some 2) (.t 62) none (some (.t 63)) none)⟩,
  ⟨(some 65), none, .op (.nchk (.t 58))⟩,
  ⟨(some 66), none, .op (.fad 9 (.t 65))⟩,
  ⟨none, none, .op (.store 1 (.t 66) (.t 64))⟩] [])
  (.reg [⟨(some 67), none, .op (.mv (.t 3))⟩,
  ⟨(some 68), none, .op (.bin .none .sub (.t 67) (.v (.int .i64 1)))⟩,
  ⟨(some 3), none, .op (.mv (.t 68))⟩] [])))
  .skip))
  (.seq (.reg [⟨(some 69), none, .op (.mv (.t 0))⟩,
  ⟨(some 70), none, .op (.nchk (.t 69))⟩,
  ⟨(some 71), none, .op (.fad 8 (.t 70))⟩,
  ⟨(some 72), none, .op (.load none (.t 71))⟩,
  ⟨(some 73), none, .op (.len .sl (.t 72))⟩,
  ⟨(some 74), none, .op (.bin .none .eql (.t 73) (.v (.int .i64 0)))⟩] [])
  (.cond (.t 74)
  (.seq (.reg [⟨(some 75), none, .op (.mv (.t 0))⟩,
  ⟨(some 76), none, .op (.mv (.t 0))⟩,
  ⟨(some 77), none, .op (.nchk (.t 76))⟩,
  ⟨(some 78), none, .op (.fad 9 (.t 77))⟩,
  ⟨(some 79), none, .op (.load none (.t 78))⟩,
  ⟨(some 80), none, .op (.mv (.t 3))⟩,
  ⟨(some 81), none, .op (.iad none (some 2) (.t 79) (.t 80))⟩,
  ⟨(some 82), none, .op (.fad 0 (.t 81))⟩,
  ⟨(some 83), none, .op (.load none (.t 82))⟩,
  ⟨(some 84), none, .op (.build [(.int .i64 0), (.int .u64 0)] [(0, 1, (.v (.int .i64 2))), (1, 1, (.t 83))])⟩,
  ⟨(some 85), none, .op (.nchk (.t 75))⟩,
  ⟨(some 86), none, .op (.fad 2 (.t 85))⟩,
  ⟨none, none, .op (.store 2 (.t 86) (.t 84))⟩] [])
  .ret)
  .skip))))))))))
theorem c103 : codeOf Try.prog 103 = some (87, [], fc103) := by kernel_rfl
def fc106 : FC := (.seq (.reg [⟨(some 2), none, .op (.mv (.v (.int .u64 0)))⟩] [])
  (.seq (.seq (.reg [⟨(some 3), none, .op (.mv (.t 0))⟩,
  ⟨(some 4), none, .op (.nchk (.t 3))⟩,
  ⟨(some 5), none, .op (.fad 1 (.t 4))⟩,
  ⟨(some 6), none, .op (.load none (.t 5))⟩,
  ⟨(some 7), none, .op (.nchk (.t 6))⟩,
  ⟨(some 8), none, .op (.fad 3 (.t 7))⟩,
  ⟨(some 9), none, .op (.load none (.t 8))⟩,
  ⟨(some 10), none, .op (.bin .none .lss (.t 9) (.v (.int .i64 0)))⟩] [])
  (.cond (.t 10)
  (.seq (.reg [⟨(some 2), none, .op (.mv (.v (.int .u64 0)))⟩] [])
  .ret)
  .skip))
  (.seq (.reg [⟨(some 11), none, .op (.mv (.t 0))⟩,
  ⟨(some 12), none, .op (.nchk (.t 11))⟩,
  ⟨(some 13), none, .op (.fad 2 (.t 12))⟩,
  ⟨(some 14), none, .op (.load none (.t 13))⟩,
  ⟨(some 15), none, .op (.mv (.t 0))⟩,
  ⟨(some 16), none, .op (.nchk (.t 15))⟩,
  ⟨(some 17), none, .op (.fad 1 (.t 16))⟩,
  ⟨(some 18), none, .op (.load none (.t 17))⟩,
  ⟨(some 19), none, .op (.nchk (.t 18))⟩,
  ⟨(some 20), none, .op (.fad 3 (.t 19))⟩,
  ⟨(some 21), none, .op (.load none (.t 20))⟩,
  ⟨(some 22), none, .op (.iad none none (.t 14) (.t 21))⟩,
  ⟨(some 23), none, .op (.load none (.t 22))⟩,
  ⟨(some 2), none, .op (.mv (.t 23))⟩] [])
  .ret)))
theorem c106 : codeOf Try.prog 106 = some (24, [(2, none)], fc106) := by kernel_rfl
def fc107 : FC := (.seq (.reg [⟨(some 6), none, .op (.mv (.t 0))⟩,
  ⟨(some 7), none, .op (.nchk (.t 6))⟩,
  ⟨(some 8), none, .op (.fad 1 (.t 7))⟩,
  ⟨(some 9), none, .op (.load none (.t 8))⟩,
  ⟨(some 10), none, .op (.nchk (.t 9))⟩,
  ⟨(some 11), none, .op (.fad 4 (.t 10))⟩,
  ⟨(some 12), none, .op (.load none (.t 11))⟩,
  ⟨(some 13), none, .op (.mv (.t 0))⟩,
  ⟨(some 14), none, .op (.nchk (.t 13))⟩,
  ⟨(some 15), none, .op (.fad 4 (.t 14))⟩,
  ⟨(some 16), none, .op (.load none (.t 15))⟩,
  ⟨(some 17), none, .op (.iad none (some 3) (.t 12) (.t 16))⟩,
  ⟨(some 18), none, .op (.load (some 3) (.t 17))⟩,
  ⟨(some 4), none, .op (.new [(.int .u8 0), (.int .i64 0), (.int .u64 0)])⟩,
  ⟨none, none, .op (.store 3 (.t 4) (.t 18))⟩] [(3, 13), (6, 13), (10, 13), (12, 13)])
  (.seq (.reg [⟨(some 19), none, .op (.mv (.t 0))⟩,
  ⟨(some 20), none, .op (.nchk (.t 19))⟩,
  ⟨(some 21), none, .op (.fad 4 (.t 20))⟩,
  ⟨(some 22), none, .op (.load none (.t 21))⟩,
  ⟨(some 23), none, .op (.bin .none .add (.t 22) (.v (.int .i64 1)))⟩,
  ⟨(some 24), none, .op (.nchk (.t 19))⟩,
  ⟨(some 25), none, .op (.fad 4 (.t 24))⟩,
  ⟨none, none, .op (.store 1 (.t 25) (.t 23))⟩] [])
  (.seq (.reg [⟨(some 26), none, .op (.fad 0 (.t 4))⟩,
  ⟨(some 27), none, .op (.load none (.t 26))⟩] [])
  (.block 0 (.seq (.reg [⟨(some 33), none, .op (.bin .none .eql (.t 27) (.v (.int .u8 1)))⟩,
  ⟨(some 32), none, .op (.mv (.t 33))⟩] [])
  (.cond (.t 32)
  (.reg [⟨(some 34), none, .op (.mv (.t 0))⟩,
  ⟨(some 35), none, .op (.fad 2 (.t 4))⟩,
  ⟨(some 36), none, .op (.load none (.t 35))⟩,
  ⟨(some 37), none, .op (.bsl none [(.int .u64 0)] 1 [(0, 1, (.t 36))])⟩,
  ⟨(some 38), none, .call 108 [(.t 34), (.t 37)]⟩] [])
  (.seq (.reg [⟨(some 40), none, .op (.bin .none .eql (.t 27) (.v (.int .u8 2)))⟩,
  ⟨(some 39), none, .op (.mv (.t 40))⟩] [])
  (.cond (.t 39)
  (.reg [⟨(some 41), none, .op (.mv (.t 0))⟩,
  ⟨(some 42), none, .op (.mv (.t 0))⟩,
  ⟨(some 43), none, .op (.nchk (.t 42))⟩,
  ⟨(some 44), none, .op (.fad 2 (.t 43))⟩,
  ⟨(some 45), none, .op (.load none (.t 44))⟩,
  ⟨(some 46), none, .op (.fad 1 (.t 4))⟩,
  ⟨(some 47), none, .op (.load none (.t 46))⟩,
  ⟨(some 48), none, .op (.iad none none (.t 45) (.t 47))⟩,
  ⟨(some 49), none, .op (.load none (.t 48))⟩,
  ⟨(some 50), none, .op (.bsl none [(.int .u64 0)] 1 [(0, 1, (.t 49))])⟩,
  ⟨(some 51), none, .call 108 [(.t 41), (.t 50)]⟩] [])
  (.seq (.reg [⟨(some 53), none, .op (.bin .none .eql (.t 27) (.v (.int .u8 3)))⟩,
  ⟨(some 52), none, .op (.mv (.t 53))⟩] [])
  (.cond (.t 52)
  (.reg [⟨(some 54), none, .op (.mv (.t 0))⟩,
  ⟨(some 55), none, .op (.nchk (.t 54))⟩,
  ⟨(some 56), none, .op (.fad 2 (.t 55))⟩,
  ⟨(some 57), none, .op (.load none (.t 56))⟩,
  ⟨(some 58), none, .op (.fad 1 (.t 4))⟩,
  ⟨(some 59), none, .op (.load none (.t 58))⟩,
  ⟨(some 60), none, .op (.mv (.t 0))⟩,
  ⟨(some 61), none, .call 109 [(.t 60)]⟩,
  ⟨(some 62), none, .op (.iad none none (.t 57) (.t 59))⟩,
  ⟨none, none, .op (.store 1 (.t 62) (.t 61))⟩] [(3, 7), (5, 7)])
  (.seq (.reg [⟨(some 64), none, .op (.bin .none .eql (.t 27) (.v (.int .u8 4)))⟩,
  ⟨(some 63), none, .op (.mv (.t 64))⟩] [])
  (.cond (.t 63)
  (.reg [⟨(some 65), none, .op (.mv (.t 0))⟩,
  ⟨(some 66), none, .op (.mv (.t 0))⟩,
  ⟨(some 67), none, .op (.nchk (.t 66))⟩,
  ⟨(some 68), none, .op (.fad 5 (.t 67))⟩,
  ⟨(some 69), none, .op (.load none (.t 68))⟩,
  ⟨(some 70), none, .op (.fad 1 (.t 4))⟩,
  ⟨(some 71), none, .op (.load none (.t 70))⟩,
  ⟨(some 72), none, .call 110 [(.t 69), (.t 71)]⟩,
  ⟨(some 73), none, .op (.bsl none [(.int .u64 0)] 1 [(0, 1, (.t 72))])⟩,
  ⟨(some 74), none, .call 108 [(.t 65), (.t 73)]⟩] [])
  (.seq (.reg [⟨(some 76), none, .op (.bin .none .eql (.t 27) (.v (.int .u8 5)))⟩,
  ⟨(some 75), none, .op (.mv (.t 76))⟩] [])
  (.cond (.t 75)
  (.reg [⟨(some 77), none, .op (.mv (.t 0))⟩,
  ⟨(some 78), none, .op (.mv (.t 1))⟩,
  ⟨(some 79), none, .call 111 [(.t 77), (.t 78), (.v (.int .u64 0)), (.v (.bool false))]⟩] [])
  (.seq (.reg [⟨(some 81), none, .op (.bin .none .eql (.t 27) (.v (.int .u8 6)))⟩,
  ⟨(some 80), none, .op (.mv (.t 81))⟩] [])
  (.cond (.t 80)
  (.reg [⟨(some 82), none, .op (.mv (.t 0))⟩,
  ⟨(some 83), none, .op (.mv (.t 1))⟩,
  ⟨(some 84), none, .op (.mv (.t 0))⟩,
  ⟨(some 85), none, .call 109 [(.t 84)]⟩,
  ⟨(some 86), none, .call 111 [(.t 82), (.t 83), (.t 85), (.v (.bool true))]⟩] [])
  (.seq (.reg [⟨(some 88), none, .op (.bin .none .eql (.t 27) (.v (.int .u8 21)))⟩,
  ⟨(some 87), none, .op (.mv (.t 88))⟩] [])
  (.cond (.t 87)
  (.reg [⟨(some 89), none, .op (.mv (.t 0))⟩,
  ⟨(some 90), none, .op (.fad 1 (.t 4))⟩,
  ⟨(some 91), none, .op (.load none (.t 90))⟩,
  ⟨(some 92), none, .op (.nchk (.t 89))⟩,
  ⟨(some 93), none, .op (.fad 4 (.t 92))⟩,
  ⟨none, none, .op (.store 1 (.t 93) (.t 91))⟩] [])
  (.seq (.reg [⟨(some 95), none, .op (.bin .none .eql (.t 27) (.v (.int .u8 22)))⟩,
  ⟨(some 94), none, .op (.mv (.t 95))⟩] [])
  (.cond (.t 94)
  (.seq (.reg [⟨(some 96), none, .op (.mv (.t 0))⟩,
  ⟨(some 97), none, .call 109 [(.t 96)]⟩,
  ⟨(some 98), none, .op (.bin .none .eql (.t 97) (.v (.int .u64 0)))⟩] [])
  (.cond (.t 98)
  (.reg [⟨(some 99), none, .op (.mv (.t 0))⟩,
  ⟨(some 100), none, .op (.fad 1 (.t 4))⟩,
  ⟨(some 101), none, .op (.load none (.t 100))⟩,
  ⟨(some 102), none, .op (.nchk (.t 99))⟩,
  ⟨(some 103), none, .op (.fad 4 (.t 102))⟩,
  ⟨none, none, .op (.store 1 (.t 103) (.t 101))⟩] [])
  .skip))
  (.seq (.reg [⟨(some 105), none, .op (.bin .none .eql (.t 27) (.v (.int .u8 31)))⟩,
  ⟨(some 104), none, .op (.mv (.t 105))⟩] [])
  (.cond (.t 104)
  (.reg [⟨(some 106), none, .op (.mv (.t 0))⟩,
  ⟨(some 107), none, .call 109 [(.t 106)]⟩] [])
  (.seq (.reg [⟨(some 109), none, .op (.bin .none .eql (.t 27) (.v (.int .u8 32)))⟩,
  ⟨(some 108), none, .op (.mv (.t 109))⟩] [])
  (.cond (.t 108)
  (.seq (.reg [⟨(some 110), none, .op (.mv (.t 0))⟩,
  ⟨(some 111), none, .call 109 [(.t 110)]⟩,
  ⟨(some 5), none, .op (.mv (.t 111))⟩] [])
  (.reg [⟨(some 112), none, .op (.mv (.t 0))⟩,
  ⟨(some 113), none, .op (.mv (.t 5))⟩,
  ⟨(some 114), none, .op (.mv (.t 5))⟩,
  ⟨(some 115), none, .op (.bsl none [(.int .u64 0)] 2 [(0, 1, (.t 113)), (1, 1, (.t 114))])⟩,
  ⟨(some 116), none, .call 108 [(.t 112), (.t 115)]⟩] []))
  (.seq (.reg [⟨(some 118), none, .op (.bin .none .eql (.t 27) (.v (.int .u8 28)))⟩,
  ⟨(some 117), none, .op (.mv (.t 118))⟩] [])
  (.cond (.t 117)
  (.reg [⟨(some 119), none, .op (.mv (.t 0))⟩,
  ⟨(some 120), none, .op (.mv (.t 1))⟩,
  ⟨(some 121), none, .op (.nchk (.t 120))⟩,
  ⟨(some 122), none, .op (.fad 0 (.t 121))⟩,
  ⟨(some 123), none, .op (.load none (.t 122))⟩,
  ⟨(some 124), none, .call 104 [(.t 123)]⟩,
  ⟨(some 125), none, .op (.bsl none [(.int .u64 0)] 1 [(0, 1, (.t 124))])⟩,
  ⟨(some 126), none, .call 108 [(.t 119), (.t 125)]⟩] [])
  (.seq (.reg [⟨(some 128), none, .op (.bin .none .eql (.t 27) (.v (.int .u8 29)))⟩,
  ⟨(some 127), none, .op (.mv (.t 128))⟩] [])
  (.cond (.t 127)
  (.reg [⟨(some 129), none, .op (.mv (.t 1))⟩,
  ⟨(some 130), none, .op (.nchk (.t 129))⟩,
  ⟨(some 131), none, .op (.fad 0 (.t 130))⟩,
  ⟨(some 132), none, .op (.load none (.t 131))⟩,
  ⟨(some 133), none, .op (.mv (.t 0))⟩,
  ⟨(some 134), none, .call 109 [(.t 133)]⟩,
  ⟨(some 135), none, .call 112 [(.t 132), (.t 134)]⟩] [(3, 5)])
  (.reg [⟨(some 28), none, .op (.mv (.t 0))⟩,
  ⟨(some 29), none, .op (.mv (.t 1))⟩,
  ⟨(some 30), none, .op (.load (some 3) (.t 4))⟩,
  ⟨(some 31), none, .call 113 [(.t 28), (.t 29), (.t 30)]⟩] [])))))))))))))))))))))))))))))
theorem c107 : codeOf Try.prog 107 = some (136, [], fc107) := by kernel_rfl
def fc108 : FC := (.reg [⟨(some 4), none, .op (.mv (.t 0))⟩,
  ⟨(some 5), none, .op (.mv (.t 0))⟩,
  ⟨(some 6), none, .op (.nchk (.t 5))⟩,
  ⟨(some 7), none, .op (.fad 3 (.t 6))⟩,
  ⟨(some 8), none, .op (.load none (.t 7))⟩,
  ⟨(some 9), none, .op (.mv (.t 1))⟩,
  ⟨(some 10), none, .op (.app none 8 (.t 8) (.t 9))⟩,
  ⟨(some 11), none, .op (.nchk (.t 4))⟩,
  ⟨(some 12), none, .op (.fad 3 (.t 11))⟩,
  ⟨none, none, .op (.store 1 (.t 12) (.t 10))⟩] [])
theorem c108 : codeOf Try.prog 108 = some (13, [], fc108) := by kernel_rfl
def fc109 : FC := (.seq (.reg [⟨(some 2), none, .op (.mv (.v (.int .u64 0)))⟩] [])
  (.seq (.reg [⟨(some 5), none, .op (.mv (.t 0))⟩,
  ⟨(some 6), none, .op (.nchk (.t 5))⟩,
  ⟨(some 7), none, .op (.fad 3 (.t 6))⟩,
  ⟨(some 8), none, .op (.load none (.t 7))⟩,
  ⟨(some 9), none, .op (.len .sl (.t 8))⟩,
  ⟨(some 10), none, .op (.bin .none .sub (.t 9) (.v (.int .i64 1)))⟩,
  ⟨(some 3), none, .op (.mv (.t 10))⟩] [])
  (.seq (.reg [⟨(some 11), none, .op (.mv (.t 0))⟩,
  ⟨(some 12), none, .op (.nchk (.t 11))⟩,
  ⟨(some 13), none, .op (.fad 3 (.t 12))⟩,
  ⟨(some 14), none, .op (.load none (.t 13))⟩,
  ⟨(some 15), none, .op (.mv (.t 3))⟩,
  ⟨(some 16), none, .op (.iad none none (.t 14) (.t 15))⟩,
  ⟨(some 17), none, .op (.load none (.t 16))⟩,
  ⟨(some 4), none, .op (.mv (.t 17))⟩] [])
  (.seq (.reg [⟨(some 18), none, .op (.mv (.t 0))⟩,
  ⟨(some 19), none, .op (.mv (.t 0))⟩,
  ⟨(some 20), none, .op (.nchk (.t 19))⟩,
  ⟨(some 21), none, .op (.fad 3 (.t 20))⟩,
  ⟨(some 22), none, .op (.load none (.t 21))⟩,
  ⟨(some 23), none, .op (.mv (.t 3))⟩,
  ⟨(some 24), none, .op (.slc none (.t 22) none (some (.t 23)) none)⟩,
  ⟨(some 25), none, .op (.nchk (.t 18))⟩,
  ⟨(some 26), none, .op (.fad 3 (.t 25))⟩,
  ⟨none, none, .op (.store 1 (.t 26) (.t 24))⟩] [])
  (.seq (.reg [⟨(some 27), none, .op (.mv (.t 4))⟩,
  ⟨(some 2), none, .op (.mv (.t 27))⟩] [])
  .ret)))))
theorem c109 : codeOf Try.prog 109 = some (28, [(2, none)], fc109) := by kernel_rfl
def fc112 : FC := (.seq (.reg [⟨(some 4), none, .op (.mv (.t 0))⟩,
  ⟨(some 5), none, .op (.bin .ptr .neq (.t 4) (.v .nilp))⟩] [])
  (.cond (.t 5)
  (.reg [⟨(some 6), none, .op (.mv (.t 0))⟩,
  ⟨(some 7), none, .op (.mv (.t 0))⟩,
  ⟨(some 8), none, .op (.nchk (.t 7))⟩,
  ⟨(some 9), none, .op (.fad 1 (.t 8))⟩,
  ⟨(some 10), none, .op (.load none (.t 9))⟩,
  ⟨(some 11), none, .op (.mv (.t 1))⟩,
  ⟨(some 12), none, .op (.build [(.int .i64 0), (.int .u64 0)] [(0, 1, (.v (.int .i64 1))), (1, 1, (.t 11))])⟩,
  ⟨(some 13), none, .op (.bsl (some 2) [(.int .i64 0), (.int .u64 0)] 1 [(0, 2, (.t 12))])⟩,
  ⟨(some 14), none, .op (.app (some 2) 16 (.t 10) (.t 13))⟩,
  ⟨(some 15), none, .op (.nchk (.t 6))⟩,
  ⟨(some 16), none, .op (.fad 1 (.t 15))⟩,
  ⟨none, none, .op (.store 1 (.t 16) (.t 14))⟩] [])
  .skip))
theorem c112 : codeOf Try.prog 112 = some (17, [], fc112) := by kernel_rfl
def fc113 : FC := (.seq (.reg [⟨(some 5), none, .op (.box (.t 2))⟩] [])
  (.seq (.reg [⟨(some 13), none, .op (.fad 0 (.t 5))⟩,
  ⟨(some 14), none, .op (.load none (.t 13))⟩] [])
  (.block 0 (.seq (.reg [⟨(some 36), none, .op (.bin .none .eql (.t 14) (.v (.int .u8 23)))⟩,
  ⟨(some 35), none, .op (.mv (.t 36))⟩] [])
  (.cond (.t 35)
  (.reg [⟨(some 37), none, .op (.mv (.t 1))⟩,
  ⟨(some 38), none, .op (.fad 1 (.t 5))⟩,
  ⟨(some 39), none, .op (.load none (.t 38))⟩,
  ⟨(some 40), none, .op (.mv (.t 0))⟩,
  ⟨(some 41), none, .op (.fad 1 (.t 5))⟩,
  ⟨(some 42), none, .op (.load none (.t 41))⟩,
  ⟨(some 43), none, .call 116 [(.t 40), (.t 42)]⟩,
  ⟨(some 44), none, .call 35 [(.t 37), (.t 39), (.t 43)]⟩] [(2, 6)])
  (.seq (.reg [⟨(some 46), none, .op (.bin .none .eql (.t 14) (.v (.int .u8 25)))⟩,
  ⟨(some 45), none, .op (.mv (.t 46))⟩] [])
  (.cond (.t 45)
  (.reg [⟨(some 47), none, .op (.mv (.t 1))⟩,
  ⟨(some 48), none, .op (.fad 1 (.t 5))⟩,
  ⟨(some 49), none, .op (.load none (.t 48))⟩,
  ⟨(some 50), none, .op (.mv (.t 0))⟩,
  ⟨(some 51), none, .op (.fad 1 (.t 5))⟩,
  ⟨(some 52), none, .op (.load none (.t 51))⟩,
  ⟨(some 53), none, .call 116 [(.t 50), (.t 52)]⟩,
  ⟨(some 54), none, .call 117 [(.t 47), (.t 49), (.t 53)]⟩] [(2, 6)])
  (.seq (.reg [⟨(some 56), none, .op (.bin .none .eql (.t 14) (.v (.int .u8 24)))⟩,
  ⟨(some 55), none, .op (.mv (.t 56))⟩] [])
  (.cond (.t 55)
  (.seq (.reg [⟨(some 6), none, .op (.mv (.v (.int .u64 0)))⟩] [])
  (.seq (.seq (.reg [⟨(some 57), none, .op (.mv (.t 0))⟩,
  ⟨(some 58), none, .op (.nchk (.t 57))⟩,
  ⟨(some 59), none, .op (.fad 1 (.t 58))⟩,
  ⟨(some 60), none, .op (.load none (.t 59))⟩,
  ⟨(some 61), none, .op (.nchk (.t 60))⟩,
  ⟨(some 62), none, .op (.fad 2 (.t 61))⟩,
  ⟨(some 63), none, .op (.load none (.t 62))⟩] [])
  (.cond (.t 63)
  (.reg [⟨(some 64), none, .op (.mv (.t 0))⟩,
  ⟨(some 65), none, .call 109 [(.t 64)]⟩,
  ⟨(some 6), none, .op (.mv (.t 65))⟩] [])
  .skip))
  (.reg [⟨(some 66), none, .op (.mv (.t 1))⟩,
  ⟨(some 67), none, .op (.mv (.t 6))⟩,
  ⟨(some 68), none, .call 118 [(.t 66), (.t 67)]⟩] [])))
  (.seq (.reg [⟨(some 70), none, .op (.bin .none .eql (.t 14) (.v (.int .u8 26)))⟩,
  ⟨(some 69), none, .op (.mv (.t 70))⟩] [])
  (.cond (.t 69)
  (.reg [⟨(some 71), none, .op (.mv (.t 1))⟩,
  ⟨(some 72), none, .op (.mv (.t 0))⟩,
  ⟨(some 73), none, .call 109 [(.t 72)]⟩,
  ⟨(some 74), none, .call 115 [(.t 71), (.t 73)]⟩] [])
  (.seq (.reg [⟨(some 76), none, .op (.bin .none .eql (.t 14) (.v (.int .u8 27)))⟩,
  ⟨(some 75), none, .op (.mv (.t 76))⟩] [])
  (.cond (.t 75)
  (.seq (.reg [⟨(some 78), none, .op (.mv (.t 1))⟩,
  ⟨(some 79), none, .call 119 [(.t 78)]⟩,
  ⟨(some 77), none, .op (.mv (.t 79))⟩,
  ⟨(some 80), none, .op (.ext 0 (.t 77))⟩,
  ⟨(some 81), none, .op (.ext 1 (.t 77))⟩,
  ⟨(some 7), none, .op (.mv (.t 80))⟩,
  ⟨(some 8), none, .op (.mv (.t 81))⟩] [])
  (.reg [⟨(some 82), none, .op (.mv (.t 0))⟩,
  ⟨(some 83), none, .op (.mv (.t 7))⟩,
  ⟨(some 84), none, .op (.mv (.t 8))⟩,
  ⟨(some 85), none, .op (.bsl none [(.int .u64 0)] 2 [(0, 1, (.t 83)), (1, 1, (.t 84))])⟩,
  ⟨(some 86), none, .call 108 [(.t 82), (.t 85)]⟩] []))
  (.seq (.reg [⟨(some 88), none, .op (.bin .none .eql (.t 14) (.v (.int .u8 30)))⟩,
  ⟨(some 87), none, .op (.mv (.t 88))⟩] [])
  (.cond (.t 87)
  (.reg [⟨(some 89), none, .op (.mv (.t 1))⟩,
  ⟨(some 90), none, .op (.mv (.t 0))⟩,
  ⟨(some 91), none, .call 109 [(.t 90)]⟩,
  ⟨(some 92), none, .op (.build [(.int .i64 0), (.int .u64 0)] [(0, 1, (.v (.int .i64 1))), (1, 1, (.t 91))])⟩,
  ⟨(some 93), none, .op (.nchk (.t 89))⟩,
  ⟨(some 94), none, .op (.fad 2 (.t 93))⟩,
  ⟨none, none, .op (.store 2 (.t 94) (.t 92))⟩] [])
  (.seq (.reg [⟨(some 15), none, .op (.mv (.t 0))⟩,
  ⟨(some 16), none, .call 109 [(.t 15)]⟩,
  ⟨(some 17), none, .op (.mv (.t 0))⟩,
  ⟨(some 18), none, .call 109 [(.t 17)]⟩,
  ⟨(some 9), none, .op (.mv (.t 16))⟩,
  ⟨(some 10), none, .op (.mv (.t 18))⟩] [])
  (.seq (.reg [⟨(some 20), none, .op (.fad 0 (.t 5))⟩,
  ⟨(some 21), none, .op (.load none (.t 20))⟩,
  ⟨(some 22), none, .op (.mv (.t 10))⟩,
  ⟨(some 23), none, .op (.mv (.t 9))⟩,
  ⟨(some 24), none, .call 120 [(.t 21), (.t 22), (.t 23)]⟩,
  ⟨(some 19), none, .op (.mv (.t 24))⟩,
  ⟨(some 25), none, .op (.ext 0 (.t 19))⟩,
  ⟨(some 26), none, .op (.ext 1 (.t 19))⟩,
  ⟨(some 11), none, .op (.mv (.t 25))⟩,
  ⟨(some 12), none, .op (.mv (.t 26))⟩] [])
  (.seq (.seq (.reg [⟨(some 27), none, .op (.mv (.t 12))⟩,
  ⟨(some 28), none, .op (.bin .none .neq (.t 27) (.v (.int .i64 0)))⟩] [])
  (.cond (.t 28)
  (.seq (.reg [⟨(some 29), none, .op (.mv (.t 1))⟩,
  ⟨(some 30), none, .call 115 [(.t 29), (.v (.int .u64 18446744073709551615))]⟩] [])
  .ret)
  .skip))
  (.reg [⟨(some 31), none, .op (.mv (.t 0))⟩,
  ⟨(some 32), none, .op (.mv (.t 11))⟩,
  ⟨(some 33), none, .op (.bsl none [(.int .u64 0)] 1 [(0, 1, (.t 32))])⟩,
  ⟨(some 34), none, .call 108 [(.t 31), (.t 33)]⟩] [])))))))))))))))))))
theorem c113 : codeOf Try.prog 113 = some (95, [], fc113) := by kernel_rfl
def fc115 : FC := (.seq (.reg [⟨(some 4), none, .op (.mv (.t 0))⟩,
  ⟨(some 5), none, .op (.mv (.t 0))⟩,
  ⟨(some 6), none, .op (.nchk (.t 5))⟩,
  ⟨(some 7), none, .op (.fad 9 (.t 6))⟩,
  ⟨(some 8), none, .op (.load none (.t 7))⟩,
  ⟨(some 9), none, .op (.mv (.t 1))⟩,
  ⟨(some 10), none, .op (.build [(.int .u64 0), (.bool false)] [(0, 1, (.t 9))])⟩,
  ⟨(some 11), none, .op (.bsl (some 2) [(.int .u64 0), (.bool false)] 1 [(0, 2, (.t 10))])⟩,
  ⟨(some 12), none, .op (.app (some 2) 16 (.t 8) (.t 11))⟩,
  ⟨(some 13), none, .op (.nchk (.t 4))⟩,
  ⟨(some 14), none, .op (.fad 9 (.t 13))⟩,
  ⟨none, none, .op (.store 1 (.t 14) (.t 12))⟩] [])
  (.seq (.reg [⟨(some 15), none, .op (.mv (.t 0))⟩,
  ⟨(some 16), none, .op (.mv (.t 0))⟩,
  ⟨(some 17), none, .op (.nchk (.t 16))⟩,
  ⟨(some 18), none, .op (.fad 7 (.t 17))⟩,
  ⟨(some 19), none, .op (.load none (.t 18))⟩,
  ⟨(some 20), none, .op (.mv (.t 0))⟩,
  ⟨(some 21), none, .op (.nchk (.t 20))⟩,
  ⟨(some 22), none, .op (.fad 9 (.t 21))⟩,
  ⟨(some 23), none, .op (.load none (.t 22))⟩,
  ⟨(some 24), none, .op (.len .sl (.t 23))⟩,
  ⟨(some 25), none, .op (.mn true (.t 19) (.t 24))⟩,
  ⟨(some 26), none, .op (.nchk (.t 15))⟩,
  ⟨(some 27), none, .op (.fad 7 (.t 26))⟩,
  ⟨none, none, .op (.store 1 (.t 27) (.t 25))⟩] [])
  (.reg [⟨(some 28), none, .op (.mv (.t 0))⟩,
  ⟨(some 29), none, .call 103 [(.t 28)]⟩] [])))
theorem c115 : codeOf Try.prog 115 = some (30, [], fc115) := by kernel_rfl
def fc116 : FC := (.seq (.reg [⟨(some 4), none, .op (.mv (.v .nils))⟩] [])
  (.seq (.reg [⟨(some 7), none, .op (.mv (.t 0))⟩,
  ⟨(some 8), none, .op (.nchk (.t 7))⟩,
  ⟨(some 9), none, .op (.fad 3 (.t 8))⟩,
  ⟨(some 10), none, .op (.load none (.t 9))⟩,
  ⟨(some 11), none, .op (.len .sl (.t 10))⟩,
  ⟨(some 12), none, .op (.mv (.t 0))⟩,
  ⟨(some 13), none, .op (.nchk (.t 12))⟩,
  ⟨(some 14), none, .op (.fad 0 (.t 13))⟩,
  ⟨(some 15), none, .op (.load none (.t 14))⟩,
  ⟨(some 16), none, .op (.nchk (.t 15))⟩,
  ⟨(some 17), none, .op (.fad 0 (.t 16))⟩,
  ⟨(some 18), none, .op (.load none (.t 17))⟩,
  ⟨(some 19), none, .op (.mv (.t 1))⟩,
  ⟨(some 20), none, .op (.iad none (some 5) (.t 18) (.t 19))⟩,
  ⟨(some 21), none, .op (.fad 0 (.t 20))⟩,
  ⟨(some 22), none, .op (.load none (.t 21))⟩,
  ⟨(some 23), none, .op (.bin .none .sub (.t 11) (.t 22))⟩,
  ⟨(some 5), none, .op (.mv (.t 23))⟩] [])
  (.seq (.reg [⟨(some 24), none, .op (.mv (.t 0))⟩,
  ⟨(some 25), none, .op (.nchk (.t 24))⟩,
  ⟨(some 26), none, .op (.fad 3 (.t 25))⟩,
  ⟨(some 27), none, .op (.load none (.t 26))⟩,
  ⟨(some 28), none, .op (.mv (.t 5))⟩,
  ⟨(some 29), none, .op (.slc none (.t 27) (some (.t 28)) none none)⟩,
  ⟨(some 30), none, .op (.app none 8 (.v .nils) (.t 29))⟩,
  ⟨(some 6), none, .op (.mv (.t 30))⟩] [])
  (.seq (.reg [⟨(some 31), none, .op (.mv (.t 0))⟩,
  ⟨(some 32), none, .op (.mv (.t 0))⟩,
  ⟨(some 33), none, .op (.nchk (.t 32))⟩,
  ⟨(some 34), none, .op (.fad 3 (.t 33))⟩,
  ⟨(some 35), none, .op (.load none (.t 34))⟩,
  ⟨(some 36), none, .op (.mv (.t 5))⟩,
  ⟨(some 37), none, .op (.slc none (.t 35) none (some (.t 36)) none)⟩,
  ⟨(some 38), none, .op (.nchk (.t 31))⟩,
  ⟨(some 39), none, .op (.fad 3 (.t 38))⟩,
  ⟨none, none, .op (.store 1 (.t 39) (.t 37))⟩] [])
  (.seq (.reg [⟨(some 40), none, .op (.mv (.t 6))⟩,
  ⟨(some 4), none, .op (.mv (.t 40))⟩] [])
  .ret)))))
theorem c116 : codeOf Try.prog 116 = some (41, [(4, none)], fc116) := by kernel_rfl
def fc117 : FC := (.seq (.reg [⟨(some 7), none, .op (.mv (.t 0))⟩,
  ⟨(some 8), none, .op (.nchk (.t 7))⟩,
  ⟨(some 9), none, .op (.fad 8 (.t 8))⟩,
  ⟨(some 10), none, .op (.load none (.t 9))⟩,
  ⟨(some 11), none, .op (.mv (.t 0))⟩,
  ⟨(some 12), none, .op (.nchk (.t 11))⟩,
  ⟨(some 13), none, .op (.fad 8 (.t 12))⟩,
  ⟨(some 14), none, .op (.load none (.t 13))⟩,
  ⟨(some 15), none, .op (.len .sl (.t 14))⟩,
  ⟨(some 16), none, .op (.bin .none .sub (.t 15) (.v (.int .i64 1)))⟩,
  ⟨(some 17), none, .op (.iad none none (.t 10) (.t 16))⟩,
  ⟨(some 18), none, .op (.load none (.t 17))⟩,
  ⟨(some 6), none, .op (.mv (.t 18))⟩] [])
  (.seq (.reg [⟨(some 19), none, .op (.mv (.t 6))⟩,
  ⟨(some 20), none, .op (.mv (.t 6))⟩,
  ⟨(some 21), none, .op (.nchk (.t 20))⟩,
  ⟨(some 22), none, .op (.fad 2 (.t 21))⟩,
  ⟨(some 23), none, .op (.load none (.t 22))⟩,
  ⟨(some 24), none, .op (.mv (.t 1))⟩,
  ⟨(some 25), none, .op (.mv (.t 2))⟩,
  ⟨(some 26), none, .op (.build [(.int .i64 0), .nils] [(0, 1, (.t 24)), (1, 1, (.t 25))])⟩,
  ⟨(some 27), none, .op (.bsl (some 2) [(.int .i64 0), .nils] 1 [(0, 2, (.t 26))])⟩,
  ⟨(some 28), none, .op (.app (some 2) 32 (.t 23) (.t 27))⟩,
  ⟨(some 29), none, .op (.nchk (.t 19))⟩,
  ⟨(some 30), none, .op (.fad 2 (.t 29))⟩,
  ⟨none, none, .op (.store 1 (.t 30) (.t 28))⟩] [])
  (.seq (.reg [⟨(some 31), none, .op (.mv (.t 0))⟩,
  ⟨(some 32), none, .op (.nchk (.t 31))⟩,
  ⟨(some 33), none, .op (.fad 10 (.t 32))⟩,
  ⟨(some 34), none, .op (.load none (.t 33))⟩,
  ⟨(some 35), none, .op (.bin .none .add (.t 34) (.v (.int .i64 1)))⟩,
  ⟨(some 36), none, .op (.nchk (.t 31))⟩,
  ⟨(some 37), none, .op (.fad 10 (.t 36))⟩,
  ⟨none, none, .op (.store 1 (.t 37) (.t 35))⟩] [])
  (.reg [⟨(some 38), none, .op (.mv (.t 0))⟩,
  ⟨(some 39), none, .op (.mv (.t 0))⟩,
  ⟨(some 40), none, .op (.nchk (.t 39))⟩,
  ⟨(some 41), none, .op (.fad 6 (.t 40))⟩,
  ⟨(some 42), none, .op (.load none (.t 41))⟩,
  ⟨(some 43), none, .op (.mv (.t 0))⟩,
  ⟨(some 44), none, .op (.nchk (.t 43))⟩,
  ⟨(some 45), none, .op (.fad 10 (.t 44))⟩,
  ⟨(some 46), none, .op (.load none (.t 45))⟩,
  ⟨(some 47), none, .op (.mn true (.t 42) (.t 46))⟩,
  ⟨(some 48), none, .op (.nchk (.t 38))⟩,
  ⟨(some 49), none, .op (.fad 6 (.t 48))⟩,
  ⟨none, none, .op (.store 1 (.t 49) (.t 47))⟩] []))))
theorem c117 : codeOf Try.prog 117 = some (50, [], fc117) := by kernel_rfl
def fc118 : FC := (.seq (.reg [⟨(some 7), none, .op (.mv (.t 0))⟩,
  ⟨(some 8), none, .op (.nchk (.t 7))⟩,
  ⟨(some 9), none, .op (.fad 8 (.t 8))⟩,
  ⟨(some 10), none, .op (.load none (.t 9))⟩,
  ⟨(some 11), none, .op (.mv (.t 0))⟩,
  ⟨(some 12), none, .op (.nchk (.t 11))⟩,
  ⟨(some 13), none, .op (.fad 8 (.t 12))⟩,
  ⟨(some 14), none, .op (.load none (.t 13))⟩,
  ⟨(some 15), none, .op (.len .sl (.t 14))⟩,
  ⟨(some 16), none, .op (.bin .none .sub (.t 15) (.v (.int .i64 1)))⟩,
  ⟨(some 17), none, .op (.iad none none (.t 10) (.t 16))⟩,
  ⟨(some 18), none, .op (.load none (.t 17))⟩,
  ⟨(some 4), none, .op (.mv (.t 18))⟩] [])
  (.seq (.reg [⟨(some 19), none, .op (.mv (.t 4))⟩,
  ⟨(some 20), none, .op (.mv (.t 1))⟩,
  ⟨(some 21), none, .op (.nchk (.t 19))⟩,
  ⟨(some 22), none, .op (.fad 3 (.t 21))⟩,
  ⟨none, none, .op (.store 1 (.t 22) (.t 20))⟩] [])
  (.block 0 (.loop (.seq (.seq (.reg [⟨(some 23), none, .op (.mv (.t 0))⟩,
  ⟨(some 24), none, .call 122 [(.t 23), (.v (.int .i64 1))]⟩,
  ⟨(some 25), none, .op (.un .not (.t 24))⟩] [])
  (.cond (.t 25)
  .skip
  (.exit 0)))
  (.block 1 (.seq (.reg [⟨(some 26), none, .op (.mv (.t 0))⟩,
  ⟨(some 27), none, .op (.mv (.t 0))⟩,
  ⟨(some 28), none, .op (.nchk (.t 27))⟩,
  ⟨(some 29), none, .op (.fad 8 (.t 28))⟩,
  ⟨(some 30), none, .op (.load none (.t 29))⟩,
  ⟨(some 31), none, .op (.mv (.t 0))⟩,
  ⟨(some 32), none, .op (.nchk (.t 31))⟩,
  ⟨(some 33), none, .op (.fad 8 (.t 32))⟩,
  ⟨(some 34), none, .op (.load none (.t 33))⟩,
  ⟨(some 35), none, .op (.len .sl (.t 34))⟩,
  ⟨(some 36), none, .op (.bin .none .sub (.t 35) (.v (.int .i64 1)))⟩,
  ⟨(some 37), none, .op (.slc none (.t 30) none (some (.t 36)) none)⟩,
  ⟨(some 38), none, .op (.nchk (.t 26))⟩,
  ⟨(some 39), none, .op (.fad 8 (.t 38))⟩,
  ⟨none, none, .op (.store 1 (.t 39) (.t 37))⟩] [])
  (.seq (.seq (.reg [⟨(some 40), none, .op (.mv (.t 0))⟩,
  ⟨(some 41), none, .op (.nchk (.t 40))⟩,
  ⟨(some 42), none, .op (.fad 8 (.t 41))⟩,
  ⟨(some 43), none, .op (.load none (.t 42))⟩,
  ⟨(some 44), none, .op (.len .sl (.t 43))⟩,
  ⟨(some 45), none, .op (.bin .none .eql (.t 44) (.v (.int .i64 0)))⟩] [])
  (.cond (.t 45)
  (.seq (.reg [⟨(some 46), none, .op (.mv (.t 0))⟩,
  ⟨(some 47), none, .op (.build [(.int .i64 0), (.int .u64 0)] [(0, 1, (.v (.int .i64 1)))])⟩,
  ⟨(some 48), none, .op (.nchk (.t 46))⟩,
  ⟨(some 49), none, .op (.fad 2 (.t 48))⟩,
  ⟨none, none, .op (.store 2 (.t 49) (.t 47))⟩] [])
  .ret)
  .skip))
  (.seq (.reg [⟨(some 50), none, .op (.mv (.t 0))⟩,
  ⟨(some 51), none, .op (.nchk (.t 50))⟩,
  ⟨(some 52), none, .op (.fad 8 (.t 51))⟩,
  ⟨(some 53), none, .op (.load none (.t 52))⟩,
  ⟨(some 54), none, .op (.mv (.t 0))⟩,
  ⟨(some 55), none, .op (.nchk (.t 54))⟩,
  ⟨(some 56), none, .op (.fad 8 (.t 55))⟩,
  ⟨(some 57), none, .op (.load none (.t 56))⟩,
  ⟨(some 58), none, .op (.len .sl (.t 57))⟩,
  ⟨(some 59), none, .op (.bin .none .sub (.t 58) (.v (.int .i64 1)))⟩,
  ⟨(some 60), none, .op (.iad none none (.t 53) (.t 59))⟩,
  ⟨(some 61), none, .op (.load none (.t 60))⟩,
  ⟨(some 5), none, .op (.mv (.t 61))⟩] [])
  (.seq (.seq (.reg [⟨(some 62), none, .op (.mv (.t 4))⟩,
  ⟨(some 63), none, .op (.nchk (.t 62))⟩,
  ⟨(some 64), none, .op (.fad 1 (.t 63))⟩,
  ⟨(some 65), none, .op (.load none (.t 64))⟩] [])
  (.block 2 (.seq (.reg [⟨(some 67), none, .op (.bin .none .eql (.t 65) (.v (.int .i64 0)))⟩,
  ⟨(some 66), none, .op (.mv (.t 67))⟩] [])
  (.cond (.t 66)
  (.seq (.reg [⟨(some 68), none, .op (.mv (.t 5))⟩,
  ⟨(some 69), none, .op (.nchk (.t 68))⟩,
  ⟨(some 70), none, .op (.fad 0 (.t 69))⟩,
  ⟨(some 71), none, .op (.load none (.t 70))⟩,
  ⟨(some 72), none, .op (.mv (.t 4))⟩,
  ⟨(some 73), none, .op (.nchk (.t 72))⟩,
  ⟨(some 74), none, .op (.fad 3 (.t 73))⟩,
  ⟨(some 75), none, .op (.load none (.t 74))⟩,
  ⟨(some 76), none, .op (.nchk (.t 71))⟩,
  ⟨(some 77), none, .op (.mv (.t 71))⟩,
  ⟨(some 78), none, .inv (.t 77) "Back" [(.t 75)]⟩] [])
  .ret)
  (.seq (.reg [⟨(some 80), none, .op (.bin .none .eql (.t 65) (.v (.int .i64 2)))⟩,
  ⟨(some 79), none, .op (.mv (.t 80))⟩] [])
  (.cond (.t 79)
  (.seq (.reg [⟨(some 81), none, .op (.mv (.t 0))⟩,
  ⟨(some 82), none, .op (.nchk (.t 81))⟩,
  ⟨(some 83), none, .op (.fad 9 (.t 82))⟩,
  ⟨(some 84), none, .op (.load none (.t 83))⟩,
  ⟨(some 85), none, .op (.len .sl (.t 84))⟩,
  ⟨(some 86), none, .op (.bin .none .sub (.t 85) (.v (.int .i64 1)))⟩,
  ⟨(some 6), none, .op (.mv (.t 86))⟩] [])
  (.seq (.seq (.reg [⟨(some 87), none, .op (.mv (.t 0))⟩,
  ⟨(some 88), none, .op (.nchk (.t 87))⟩,
  ⟨(some 89), none, .op (.fad 9 (.t 88))⟩,
  ⟨(some 90), none, .op (.load none (.t 89))⟩,
  ⟨(some 91), none, .op (.mv (.t 6))⟩,
  ⟨(some 92), none, .op (.iad none (some 2) (.t 90) (.t 91))⟩,
  ⟨(some 93), none, .op (.fad 1 (.t 92))⟩,
  ⟨(some 94), none, .op (.load none (.t 93))⟩,
  ⟨(some 95), none, .op (.un .not (.t 94))⟩] [])
  (.cond (.t 95)
  (.seq (.reg [⟨(some 96), none, .op (.mv (.t 0))⟩,
  ⟨(some 97), none, .call 103 [(.t 96)]⟩] [])
  .ret)
  .skip))
  (.seq (.reg [⟨(some 98), none, .op (.mv (.t 0))⟩,
  ⟨(some 99), none, .op (.mv (.t 0))⟩,
  ⟨(some 100), none, .op (.nchk (.t 99))⟩,
  ⟨(some 101), none, .op (.fad 9 (.t 100))⟩,
  ⟨(some 102), none, .op (.load none (.t 101))⟩,
  ⟨(some 103), none, .op (.mv (.t 6))⟩,
  ⟨(some 104), none, .op (.slc (some 2) (.t 102) none (some (.t 103)) none)⟩,
  ⟨(some 105), none, .op (.nchk (.t 98))⟩,
  ⟨(some 106), none, .op (.fad 9 (.t 105))⟩,
  ⟨none, none, .op (.store 1 (.t 106) (.t 104))⟩] [])
  (.reg [⟨(some 107), none, .op (.mv (.t 5))⟩,
  ⟨(some 108), none, .op (.mv (.t 5))⟩,
  ⟨(some 109), none, .op (.nchk (.t 108))⟩,
  ⟨(some 110), none, .op (.fad 0 (.t 109))⟩,
  ⟨(some 111), none, .op (.load none (.t 110))⟩,
  ⟨(some 112), none, .inv (.t 111) "Keep" []⟩,
  ⟨(some 113), none, .op (.nchk (.t 107))⟩,
  ⟨(some 114), none, .op (.fad 3 (.t 113))⟩,
  ⟨none, none, .op (.store 1 (.t 114) (.t 112))⟩] []))))
  .skip))))))
  (.reg [⟨(some 115), none, .op (.mv (.t 5))⟩,
  ⟨(some 4), none, .op (.mv (.t 115))⟩] [])))))))))))
theorem c118 : codeOf Try.prog 118 = some (116, [], fc118) := by kernel_rfl
def fc119 : FC := (.seq (.reg [⟨(some 2), none, .op (.mv (.v (.int .u64 0)))⟩,
  ⟨(some 3), none, .op (.mv (.v (.int .u64 0)))⟩] [])
  (.seq (.reg [⟨(some 5), none, .op (.mv (.t 0))⟩,
  ⟨(some 6), none, .op (.nchk (.t 5))⟩,
  ⟨(some 7), none, .op (.fad 9 (.t 6))⟩,
  ⟨(some 8), none, .op (.load none (.t 7))⟩,
  ⟨(some 9), none, .op (.len .sl (.t 8))⟩,
  ⟨(some 10), none, .op (.bin .none .sub (.t 9) (.v (.int .i64 1)))⟩,
  ⟨(some 4), none, .op (.mv (.t 10))⟩] [])
  (.seq (.seq (.reg [⟨(some 11), none, .op (.mv (.t 0))⟩,
  ⟨(some 12), none, .op (.nchk (.t 11))⟩,
  ⟨(some 13), none, .op (.fad 8 (.t 12))⟩,
  ⟨(some 14), none, .op (.load none (.t 13))⟩,
  ⟨(some 15), none, .op (.mv (.t 0))⟩,
  ⟨(some 16), none, .op (.nchk (.t 15))⟩,
  ⟨(some 17), none, .op (.fad 8 (.t 16))⟩,
  ⟨(some 18), none, .op (.load none (.t 17))⟩,
  ⟨(some 19), none, .op (.len .sl (.t 18))⟩,
  ⟨(some 20), none, .op (.bin .none .sub (.t 19) (.v (.int .i64 1)))⟩,
  ⟨(some 21), none, .op (.iad none none (.t 14) (.t 20))⟩,
  ⟨(some 22), none, .op (.load none (.t 21))⟩,
  ⟨(some 23), none, .op (.nchk (.t 22))⟩,
  ⟨(some 24), none, .op (.fad 1 (.t 23))⟩,
  ⟨(some 25), none, .op (.load none (.t 24))⟩,
  ⟨(some 26), none, .op (.bin .none .neq (.t 25) (.v (.int .i64 2)))⟩,
  ⟨(some 27), none, .op (.mv (.t 26))⟩,
  ⟨(some 28), some (27, false), .op (.mv (.t 0))⟩,
  ⟨(some 29), some (27, false), .op (.nchk (.t 28))⟩,
  ⟨(some 30), some (27, false), .op (.fad 9 (.t 29))⟩,
  ⟨(some 31), some (27, false), .op (.load none (.t 30))⟩,
  ⟨(some 32), some (27, false), .op (.mv (.t 4))⟩,
  ⟨(some 33), some (27, false), .op (.iad none (some 2) (.t 31) (.t 32))⟩,
  ⟨(some 34), some (27, false), .op (.fad 1 (.t 33))⟩,
  ⟨(some 35), some (27, false), .op (.load none (.t 34))⟩,
  ⟨(some 36), none, .op (.pick (.t 27) (.v (.bool true)) (.t 35))⟩] [])
  (.cond (.t 36)
  (.seq (.reg [⟨(some 2), none, .op (.mv (.v (.int .u64 0)))⟩,
  ⟨(some 3), none, .op (.mv (.v (.int .u64 0)))⟩] [])
  .ret)
  .skip))
  (.seq (.reg [⟨(some 37), none, .op (.mv (.t 0))⟩,
  ⟨(some 38), none, .op (.nchk (.t 37))⟩,
  ⟨(some 39), none, .op (.fad 9 (.t 38))⟩,
  ⟨(some 40), none, .op (.load none (.t 39))⟩,
  ⟨(some 41), none, .op (.mv (.t 4))⟩,
  ⟨(some 42), none, .op (.iad none (some 2) (.t 40) (.t 41))⟩,
  ⟨(some 43), none, .op (.fad 1 (.t 42))⟩,
  ⟨none, none, .op (.store 1 (.t 43) (.v (.bool true)))⟩] [])
  (.seq (.reg [⟨(some 44), none, .op (.mv (.t 0))⟩,
  ⟨(some 45), none, .op (.nchk (.t 44))⟩,
  ⟨(some 46), none, .op (.fad 9 (.t 45))⟩,
  ⟨(some 47), none, .op (.load none (.t 46))⟩,
  ⟨(some 48), none, .op (.mv (.t 4))⟩,
  ⟨(some 49), none, .op (.iad none (some 2) (.t 47) (.t 48))⟩,
  ⟨(some 50), none, .op (.fad 0 (.t 49))⟩,
  ⟨(some 51), none, .op (.load none (.t 50))⟩,
  ⟨(some 2), none, .op (.mv (.t 51))⟩,
  ⟨(some 3), none, .op (.mv (.v (.int .u64 1)))⟩] [])
  .ret)))))
theorem c119 : codeOf Try.prog 119 = some (52, [(2, none), (3, none)], fc119) := by kernel_rfl
def fc122 : FC := (.seq (.reg [⟨(some 4), none, .op (.mv (.v (.bool false)))⟩] [])
  (.seq (.reg [⟨(some 8), none, .op (.mv (.t 0))⟩,
  ⟨(some 9), none, .op (.nchk (.t 8))⟩,
  ⟨(some 10), none, .op (.fad 8 (.t 9))⟩,
  ⟨(some 11), none, .op (.load none (.t 10))⟩,
  ⟨(some 12), none, .op (.mv (.t 0))⟩,
  ⟨(some 13), none, .op (.nchk (.t 12))⟩,
  ⟨(some 14), none, .op (.fad 8 (.t 13))⟩,
  ⟨(some 15), none, .op (.load none (.t 14))⟩,
  ⟨(some 16), none, .op (.len .sl (.t 15))⟩,
  ⟨(some 17), none, .op (.bin .none .sub (.t 16) (.v (.int .i64 1)))⟩,
  ⟨(some 18), none, .op (.iad none none (.t 11) (.t 17))⟩,
  ⟨(some 19), none, .op (.load none (.t 18))⟩,
  ⟨(some 5), none, .op (.mv (.t 19))⟩] [])
  (.seq (.reg [⟨(some 20), none, .op (.mv (.t 5))⟩,
  ⟨(some 21), none, .op (.nchk (.t 20))⟩,
  ⟨(some 22), none, .op (.fad 2 (.t 21))⟩,
  ⟨(some 23), none, .op (.load none (.t 22))⟩,
  ⟨(some 24), none, .op (.len .sl (.t 23))⟩,
  ⟨(some 25), none, .op (.bin .none .sub (.t 24) (.v (.int .i64 1)))⟩,
  ⟨(some 6), none, .op (.mv (.t 25))⟩] [])
  (.seq (.seq (.reg [⟨(some 26), none, .op (.mv (.t 6))⟩,
  ⟨(some 27), none, .op (.bin .none .lss (.t 26) (.v (.int .i64 0)))⟩] [])
  (.cond (.t 27)
  (.seq (.reg [⟨(some 4), none, .op (.mv (.v (.bool false)))⟩] [])
  .ret)
  .skip))
  (.seq (.reg [⟨(some 28), none, .op (.mv (.t 5))⟩,
  ⟨(some 29), none, .op (.nchk (.t 28))⟩,
  ⟨(some 30), none, .op (.fad 2 (.t 29))⟩,
  ⟨(some 31), none, .op (.load none (.t 30))⟩,
  ⟨(some 32), none, .op (.mv (.t 6))⟩,
  ⟨(some 33), none, .op (.iad none (some 2) (.t 31) (.t 32))⟩,
  ⟨(some 34), none, .op (.load (some 2) (.t 33))⟩,
  ⟨(some 7), none, .op (.new [(.int .i64 0), .nils])⟩,
  ⟨none, none, .op (.store 2 (.t 7) (.t 34))⟩] [])
  (.seq (.reg [⟨(some 35), none, .op (.mv (.t 5))⟩,
  ⟨(some 36), none, .op (.mv (.t 5))⟩,
  ⟨(some 37), none, .op (.nchk (.t 36))⟩,
  ⟨(some 38), none, .op (.fad 2 (.t 37))⟩,
  ⟨(some 39), none, .op (.load none (.t 38))⟩,
  ⟨(some 40), none, .op (.mv (.t 6))⟩,
  ⟨(some 41), none, .op (.slc (some 2) (.t 39) none (some (.t 40)) none)⟩,
  ⟨(some 42), none, .op (.nchk (.t 35))⟩,
  ⟨(some 43), none, .op (.fad 2 (.t 42))⟩,
  ⟨none, none, .op (.store 1 (.t 43) (.t 41))⟩] [])
  (.seq (.reg [⟨(some 44), none, .op (.mv (.t 0))⟩,
  ⟨(some 45), none, .op (.nchk (.t 44))⟩,
  ⟨(some 46), none, .op (.fad 10 (.t 45))⟩,
  ⟨(some 47), none, .op (.load none (.t 46))⟩,
  ⟨(some 48), none, .op (.bin .none .sub (.t 47) (.v (.int .i64 1)))⟩,
  ⟨(some 49), none, .op (.nchk (.t 44))⟩,
  ⟨(some 50), none, .op (.fad 10 (.t 49))⟩,
  ⟨none, none, .op (.store 1 (.t 50) (.t 48))⟩] [])
  (.seq (.reg [⟨(some 51), none, .op (.mv (.t 0))⟩,
  ⟨(some 52), none, .op (.fad 0 (.t 7))⟩,
  ⟨(some 53), none, .op (.load none (.t 52))⟩,
  ⟨(some 54), none, .op (.fad 1 (.t 7))⟩,
  ⟨(some 55), none, .op (.load none (.t 54))⟩,
  ⟨(some 56), none, .op (.mv (.t 1))⟩,
  ⟨(some 57), none, .call 63 [(.t 51), (.t 53), (.t 55), (.t 56)]⟩] [])
  (.seq (.reg [⟨(some 4), none, .op (.mv (.v (.bool true)))⟩] [])
  .ret)))))))))
theorem c122 : codeOf Try.prog 122 = some (58, [(4, none)], fc122) := by kernel_rfl
def tabL : List (Nat × (Nat × List RS × FC)) := [(5, 103, [(4, none)], fc5), (12, 47, [(0, none)], fc12), (13, 64, [(6, (some (some 7))), (7, none)], fc13), (19, 7, [(2, none)], fc19), (21, 46, [], fc21), (22, 10, [(2, none)], fc22), (23, 99, [(2, none), (3, none)], fc23), (24, 34, [(7, none)], fc24), (33, 8, [(2, none)], fc33), (35, 10, [], fc35), (36, 8, [(2, none)], fc36), (37, 40, [(2, none), (3, none)], fc37), (38, 32, [(2, none)], fc38), (39, 60, [(4, none)], fc39), (40, 167, [(4, none), (5, none), (6, none), (7, none)], fc40), (63, 46, [], fc63), (64, 100, [(4, none), (5, none)], fc64), (65, 53, [(6, none)], fc65), (66, 105, [(8, none), (9, none)], fc66), (67, 26, [(4, none)], fc67), (68, 8, [(2, none)], fc68), (69, 26, [(4, none)], fc69), (83, 23, [(6, none)], fc83), (84, 53, [(4, none), (5, none)], fc84), (85, 21, [(2, none)], fc85), (103, 87, [], fc103), (106, 24, [(2, none)], fc106), (107, 136, [], fc107), (108, 13, [], fc108), (109, 28, [(2, none)], fc109), (112, 17, [], fc112), (113, 95, [], fc113), (115, 30, [], fc115), (116, 41, [(4, none)], fc116), (117, 50, [], fc117), (118, 116, [], fc118), (119, 52, [(2, none), (3, none)], fc119), (122, 58, [(4, none)], fc122)]
theorem tabL_ok : allC Try.prog tabL := ⟨c5, c12, c13, c19, c21, c22, c23, c24, c33, c35, c36, c37, c38, c39, c40, c63, c64, c65, c66, c67, c68, c69, c83, c84, c85, c103, c106, c107, c108, c109, c112, c113, c115, c116, c117, c118, c119, c122, trivial⟩
theorem mixed : Try.prog.follows .mixedOrders = true := by kernel_rfl
end Go.Proofs.Ytjgdppgagihejaa
