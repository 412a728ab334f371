/- The code of the functions that are met, resolved; the kernel holds each against the program's own text. Printed by a program. -/
import Derived.Test.YtjgdppgagihejaaWlY2
import Derived.Test.YtjgdppgagihejaaProg
namespace Go.Proofs.Ytjgdppgagihejaa
open Go Go.Ab Go.RowKit
set_option maxRecDepth 100000
set_option linter.unusedVariables false
def fc8 : FC := (.seq (.reg [⟨(some 2), none, .op (.mv (.v (.bool false)))⟩] [])
  (.seq (.seq (.reg [⟨(some 12), none, .call 14 []⟩,
  ⟨(some 13), none, .op (.un .not (.t 12))⟩] [])
  (.cond (.t 13)
  (.seq (.reg [⟨(some 2), none, .op (.mv (.v (.bool false)))⟩] [])
  .ret)
  .skip))
  (.seq (.reg [⟨(some 14), none, .op (.mv (.t 0))⟩,
  ⟨(some 15), none, .op (.mv (.t 0))⟩,
  ⟨(some 16), none, .op (.len .sl (.t 15))⟩,
  ⟨(some 17), none, .op (.mn false (.t 16) (.v (.int .i64 16)))⟩,
  ⟨(some 18), none, .op (.slc none (.t 14) none (some (.t 17)) none)⟩,
  ⟨(some 3), none, .op (.mv (.t 18))⟩] [])
  (.seq (.reg [⟨(some 4), none, .op (.mv (.v .nils))⟩] [])
  (.seq (.seq (.reg [⟨(some 19), none, .op (.mv (.t 3))⟩,
  ⟨(some 20), none, .op (.len .sl (.t 19))⟩,
  ⟨(some 21), none, .op (.mv (.v (.int .i64 0)))⟩] [])
  (.block 0 (.loop (.seq (.reg [⟨(some 22), none, .op (.bin .none .lss (.t 21) (.t 20))⟩] [])
  (.seq (.cond (.t 22)
  .skip
  (.exit 0))
  (.seq (.block 1 (.seq (.reg [⟨(some 23), none, .op (.iad none none (.t 19) (.t 21))⟩,
  ⟨(some 24), none, .op (.load none (.t 23))⟩,
  ⟨(some 6), none, .op (.mv (.t 24))⟩] [])
  (.reg [⟨(some 25), none, .op (.mv (.t 4))⟩,
  ⟨(some 26), none, .op (.mv (.t 6))⟩,
  ⟨(some 27), none, .op (.build [(.int .u8 0), (.int .i64 0), (.int .u64 0)] [(0, 1, (.v (.int .u8 1))), (2, 1, (.t 26))])⟩,
  ⟨(some 28), none, .op (.bsl (some 3) [(.int .u8 0), (.int .i64 0), (.int .u64 0)] 1 [(0, 3, (.t 27))])⟩,
  ⟨(some 29), none, .op (.app (some 3) 24 (.t 25) (.t 28))⟩,
  ⟨(some 4), none, .op (.mv (.t 29))⟩] [])))
  (.reg [⟨(some 30), none, .op (.bin .none .add (.t 21) (.v (.int .i64 1)))⟩,
  ⟨(some 21), none, .op (.mv (.t 30))⟩] [])))))))
  (.seq (.seq (.reg [⟨(some 31), none, .op (.mv (.t 3))⟩,
  ⟨(some 32), none, .op (.len .sl (.t 31))⟩,
  ⟨(some 33), none, .op (.mv (.v (.int .i64 0)))⟩] [])
  (.block 2 (.loop (.seq (.reg [⟨(some 34), none, .op (.bin .none .lss (.t 33) (.t 32))⟩] [])
  (.seq (.cond (.t 34)
  .skip
  (.exit 2))
  (.seq (.block 3 (.reg [⟨(some 35), none, .op (.mv (.t 4))⟩,
  ⟨(some 36), none, .op (.build [(.int .u8 0), (.int .i64 0), (.int .u64 0)] [(0, 1, (.v (.int .u8 29)))])⟩,
  ⟨(some 37), none, .op (.bsl (some 3) [(.int .u8 0), (.int .i64 0), (.int .u64 0)] 1 [(0, 3, (.t 36))])⟩,
  ⟨(some 38), none, .op (.app (some 3) 24 (.t 35) (.t 37))⟩,
  ⟨(some 4), none, .op (.mv (.t 38))⟩] []))
  (.reg [⟨(some 39), none, .op (.bin .none .add (.t 33) (.v (.int .i64 1)))⟩,
  ⟨(some 33), none, .op (.mv (.t 39))⟩] [])))))))
  (.seq (.reg [⟨(some 41), none, .op (.mv (.t 4))⟩,
  ⟨(some 42), none, .op (.build [(.int .u8 0), (.int .i64 0), (.int .u64 0)] [(0, 1, (.v (.int .u8 24)))])⟩,
  ⟨(some 43), none, .op (.bsl (some 3) [(.int .u8 0), (.int .i64 0), (.int .u64 0)] 1 [(0, 3, (.t 42))])⟩,
  ⟨(some 44), none, .op (.app (some 3) 24 (.t 41) (.t 43))⟩,
  ⟨(some 45), none, .op (.build [(.int .i64 0), .nils, (.bool false), (.int .i64 0), .nils] [(3, 1, (.v (.int .i64 (-1)))), (4, 1, (.t 44))])⟩,
  ⟨(some 46), none, .op (.bsl (some 5) [(.int .i64 0), .nils, (.bool false), (.int .i64 0), .nils] 1 [(0, 5, (.t 45))])⟩,
  ⟨(some 47), none, .op (.build [.nils] [(0, 1, (.t 46))])⟩,
  ⟨(some 48), none, .call 15 [(.t 47)]⟩,
  ⟨(some 40), none, .op (.mv (.t 48))⟩,
  ⟨(some 49), none, .op (.ext 0 (.t 40))⟩,
  ⟨(some 50), none, .op (.ext 1 (.t 40))⟩,
  ⟨(some 7), none, .op (.new [.nils])⟩,
  ⟨none, none, .op (.store 1 (.t 7) (.t 49))⟩,
  ⟨(some 8), none, .op (.mv (.t 50))⟩] [])
  (.seq (.seq (.reg [⟨(some 51), none, .op (.mv (.t 8))⟩,
  ⟨(some 52), none, .op (.bin .none .neq (.t 51) (.v (.int .i64 0)))⟩,
  ⟨(some 53), none, .op (.mv (.t 52))⟩,
  ⟨(some 54), some (53, false), .op (.load (some 1) (.t 7))⟩,
  ⟨(some 55), some (53, false), .call 16 [(.t 54), (.v (.bool false))]⟩,
  ⟨(some 56), some (53, false), .op (.un .not (.t 55))⟩,
  ⟨(some 57), none, .op (.pick (.t 53) (.v (.bool true)) (.t 56))⟩] [])
  (.cond (.t 57)
  (.seq (.reg [⟨(some 2), none, .op (.mv (.v (.bool false)))⟩] [])
  .ret)
  .skip))
  (.seq (.reg [⟨(some 58), none, .op (.load (some 1) (.t 7))⟩,
  ⟨(some 59), none, .op (.mv (.t 4))⟩,
  ⟨(some 60), none, .op (.len .sl (.t 59))⟩,
  ⟨(some 61), none, .op (.bin .none .mul (.v (.int .i64 4)) (.t 60))⟩,
  ⟨(some 62), none, .op (.bin .none .add (.t 61) (.v (.int .i64 12)))⟩,
  ⟨(some 63), none, .call 17 [(.t 58), (.v (.bool false)), (.v .nils), (.t 62)]⟩,
  ⟨(some 9), none, .op (.mv (.t 63))⟩] [])
  (.seq (.seq (.reg [⟨(some 64), none, .op (.mv (.t 9))⟩,
  ⟨(some 65), none, .op (.nchk (.t 64))⟩,
  ⟨(some 66), none, .op (.fad 7 (.t 65))⟩,
  ⟨(some 67), none, .op (.load (some 2) (.t 66))⟩,
  ⟨(some 68), none, .op (.build [(.int .i64 0), (.int .u64 0)] [(0, 1, (.v (.int .i64 1)))])⟩,
  ⟨(some 69), none, .op (.eqs [.int, .int] .neq (.t 67) (.t 68))⟩,
  ⟨(some 70), none, .op (.mv (.t 69))⟩,
  ⟨(some 71), some (70, false), .op (.mv (.t 9))⟩,
  ⟨(some 72), some (70, false), .op (.nchk (.t 71))⟩,
  ⟨(some 73), some (70, false), .op (.fad 6 (.t 72))⟩,
  ⟨(some 74), some (70, false), .op (.load none (.t 73))⟩,
  ⟨(some 75), some (70, false), .op (.len .sl (.t 74))⟩,
  ⟨(some 76), some (70, false), .op (.mv (.t 3))⟩,
  ⟨(some 77), some (70, false), .op (.len .sl (.t 76))⟩,
  ⟨(some 78), some (70, false), .op (.bin .none .neq (.t 75) (.t 77))⟩,
  ⟨(some 79), none, .op (.pick (.t 70) (.v (.bool true)) (.t 78))⟩] [])
  (.cond (.t 79)
  (.seq (.reg [⟨(some 2), none, .op (.mv (.v (.bool false)))⟩] [])
  .ret)
  .skip))
  (.seq (.seq (.reg [⟨(some 80), none, .op (.mv (.t 9))⟩,
  ⟨(some 81), none, .op (.nchk (.t 80))⟩,
  ⟨(some 82), none, .op (.fad 6 (.t 81))⟩,
  ⟨(some 83), none, .op (.load none (.t 82))⟩,
  ⟨(some 84), none, .op (.len .sl (.t 83))⟩,
  ⟨(some 85), none, .op (.mv (.v (.int .i64 0)))⟩] [])
  (.block 4 (.loop (.seq (.reg [⟨(some 86), none, .op (.bin .none .lss (.t 85) (.t 84))⟩] [])
  (.seq (.cond (.t 86)
  .skip
  (.exit 4))
  (.seq (.block 5 (.seq (.reg [⟨(some 87), none, .op (.mv (.t 85))⟩,
  ⟨(some 88), none, .op (.iad none (some 2) (.t 83) (.t 85))⟩,
  ⟨(some 89), none, .op (.load (some 2) (.t 88))⟩,
  ⟨(some 11), none, .op (.new [(.int .i64 0), (.int .u64 0)])⟩,
  ⟨(some 10), none, .op (.mv (.t 87))⟩,
  ⟨none, none, .op (.store 2 (.t 11) (.t 89))⟩] [])
  (.seq (.reg [⟨(some 90), none, .op (.fad 1 (.t 11))⟩,
  ⟨(some 91), none, .op (.load none (.t 90))⟩,
  ⟨(some 92), none, .op (.mv (.t 3))⟩,
  ⟨(some 93), none, .op (.mv (.t 3))⟩,
  ⟨(some 94), none, .op (.len .sl (.t 93))⟩,
  ⟨(some 95), none, .op (.bin .none .sub (.t 94) (.v (.int .i64 1)))⟩,
  ⟨(some 96), none, .op (.mv (.t 10))⟩,
  ⟨(some 97), none, .op (.bin .none .sub (.t 95) (.t 96))⟩,
  ⟨(some 98), none, .op (.iad none none (.t 92) (.t 97))⟩,
  ⟨(some 99), none, .op (.load none (.t 98))⟩,
  ⟨(some 100), none, .op (.bin .none .neq (.t 91) (.t 99))⟩] [])
  (.cond (.t 100)
  (.seq (.reg [⟨(some 2), none, .op (.mv (.v (.bool false)))⟩] [])
  .ret)
  .skip))))
  (.reg [⟨(some 101), none, .op (.bin .none .add (.t 85) (.v (.int .i64 1)))⟩,
  ⟨(some 85), none, .op (.mv (.t 101))⟩] [])))))))
  (.seq (.reg [⟨(some 2), none, .op (.mv (.v (.bool true)))⟩] [])
  .ret))))))))))))
theorem c8 : codeOf Try.prog 8 = some (102, [(2, none)], fc8) := by kernel_rfl
def fc14 : FC := (.seq (.reg [⟨(some 0), none, .op (.mv (.v (.bool false)))⟩] [])
  (.seq (.reg [⟨(some 4), none, .op (.build [(.int .u8 0), (.int .i64 0), (.int .u64 0)] [(0, 1, (.v (.int .u8 1))), (2, 1, (.v (.int .u64 7)))])⟩,
  ⟨(some 5), none, .op (.build [(.int .u8 0), (.int .i64 0), (.int .u64 0)] [(0, 1, (.v (.int .u8 29)))])⟩,
  ⟨(some 6), none, .op (.build [(.int .u8 0), (.int .i64 0), (.int .u64 0)] [(0, 1, (.v (.int .u8 24)))])⟩,
  ⟨(some 7), none, .op (.bsl (some 3) [(.int .u8 0), (.int .i64 0), (.int .u64 0)] 3 [(0, 3, (.t 4)), (3, 3, (.t 5)), (6, 3, (.t 6))])⟩,
  ⟨(some 8), none, .op (.build [(.int .i64 0), .nils, (.bool false), (.int .i64 0), .nils] [(3, 1, (.v (.int .i64 (-1)))), (4, 1, (.t 7))])⟩,
  ⟨(some 9), none, .op (.bsl (some 5) [(.int .i64 0), .nils, (.bool false), (.int .i64 0), .nils] 1 [(0, 5, (.t 8))])⟩,
  ⟨(some 10), none, .op (.build [.nils] [(0, 1, (.t 9))])⟩,
  ⟨(some 1), none, .op (.new [.nils])⟩,
  ⟨none, none, .op (.store 1 (.t 1) (.t 10))⟩] [])
  (.seq (.reg [⟨(some 12), none, .op (.load (some 1) (.t 1))⟩,
  ⟨(some 13), none, .call 15 [(.t 12)]⟩,
  ⟨(some 11), none, .op (.mv (.t 13))⟩,
  ⟨(some 14), none, .op (.ext 0 (.t 11))⟩,
  ⟨(some 15), none, .op (.ext 1 (.t 11))⟩,
  ⟨(some 2), none, .op (.new [.nils])⟩,
  ⟨none, none, .op (.store 1 (.t 2) (.t 14))⟩,
  ⟨(some 3), none, .op (.mv (.t 15))⟩] [])
  (.seq (.reg [⟨(some 16), none, .op (.mv (.t 3))⟩,
  ⟨(some 17), none, .op (.bin .none .eql (.t 16) (.v (.int .i64 0)))⟩,
  ⟨(some 18), none, .op (.mv (.t 17))⟩,
  ⟨(some 19), some (18, true), .op (.load (some 1) (.t 2))⟩,
  ⟨(some 20), some (18, true), .call 16 [(.t 19), (.v (.bool false))]⟩,
  ⟨(some 21), none, .op (.pick (.t 18) (.t 20) (.v (.bool false)))⟩,
  ⟨(some 22), none, .op (.mv (.t 21))⟩,
  ⟨(some 23), some (22, true), .op (.load (some 1) (.t 2))⟩,
  ⟨(some 24), some (22, true), .call 17 [(.t 23), (.v (.bool false)), (.v .nils), (.v (.int .i64 20))]⟩,
  ⟨(some 25), some (22, true), .op (.nchk (.t 24))⟩,
  ⟨(some 26), some (22, true), .op (.fad 6 (.t 25))⟩,
  ⟨(some 27), some (22, true), .op (.load none (.t 26))⟩,
  ⟨(some 28), some (22, true), .op (.len .sl (.t 27))⟩,
  ⟨(some 29), some (22, true), .op (.bin .none .eql (.t 28) (.v (.int .i64 1)))⟩,
  ⟨(some 30), none, .op (.pick (.t 22) (.t 29) (.v (.bool false)))⟩,
  ⟨(some 0), none, .op (.mv (.t 30))⟩] [])
  .ret))))
theorem c14 : codeOf Try.prog 14 = some (31, [(0, none)], fc14) := by kernel_rfl
def fc15 : FC := (.seq (.reg [⟨(some 1), none, .op (.box (.t 0))⟩,
  ⟨(some 2), none, .op (.new [.nils])⟩,
  ⟨(some 3), none, .op (.mv (.v (.int .i64 0)))⟩] [])
  (.seq (.reg [⟨(some 9), none, .op (.load (some 1) (.t 1))⟩,
  ⟨(some 10), none, .call 23 [(.t 9)]⟩,
  ⟨(some 8), none, .op (.mv (.t 10))⟩,
  ⟨(some 11), none, .op (.ext 0 (.t 8))⟩,
  ⟨(some 12), none, .op (.ext 1 (.t 8))⟩,
  ⟨(some 4), none, .op (.mv (.t 11))⟩,
  ⟨(some 5), none, .op (.mv (.t 12))⟩] [])
  (.seq (.seq (.reg [⟨(some 13), none, .op (.mv (.t 5))⟩,
  ⟨(some 14), none, .op (.bin .none .neq (.t 13) (.v (.int .i64 0)))⟩] [])
  (.cond (.t 14)
  (.seq (.reg [⟨(some 15), none, .op (.build [.nils] [])⟩,
  ⟨(some 16), none, .op (.mv (.t 5))⟩,
  ⟨none, none, .op (.store 1 (.t 2) (.t 15))⟩,
  ⟨(some 3), none, .op (.mv (.t 16))⟩] [])
  .ret)
  .skip))
  (.seq (.reg [⟨(some 6), none, .op (.new [.nils])⟩] [])
  (.seq (.seq (.reg [⟨(some 17), none, .op (.fad 0 (.t 1))⟩,
  ⟨(some 18), none, .op (.load none (.t 17))⟩,
  ⟨(some 19), none, .op (.len .sl (.t 18))⟩,
  ⟨(some 20), none, .op (.mv (.v (.int .i64 0)))⟩] [])
  (.block 0 (.loop (.seq (.reg [⟨(some 21), none, .op (.bin .none .lss (.t 20) (.t 19))⟩] [])
  (.seq (.cond (.t 21)
  .skip
  (.exit 0))
  (.seq (.block 1 (.seq (.reg [⟨(some 22), none, .op (.mv (.t 20))⟩,
  ⟨(some 7), none, .op (.mv (.t 22))⟩] [])
  (.reg [⟨(some 23), none, .op (.fad 0 (.t 6))⟩,
  ⟨(some 24), none, .op (.load none (.t 23))⟩,
  ⟨(some 25), none, .op (.fad 0 (.t 1))⟩,
  ⟨(some 26), none, .op (.load none (.t 25))⟩,
  ⟨(some 27), none, .op (.mv (.t 7))⟩,
  ⟨(some 28), none, .op (.iad none (some 5) (.t 26) (.t 27))⟩,
  ⟨(some 29), none, .op (.mv (.t 4))⟩,
  ⟨(some 30), none, .op (.nchk (.t 29))⟩,
  ⟨(some 31), none, .op (.fad 0 (.t 30))⟩,
  ⟨(some 32), none, .op (.load none (.t 31))⟩,
  ⟨(some 33), none, .op (.mv (.t 7))⟩,
  ⟨(some 34), none, .op (.iad none none (.t 32) (.t 33))⟩,
  ⟨(some 35), none, .op (.load none (.t 34))⟩,
  ⟨(some 36), none, .op (.mv (.t 4))⟩,
  ⟨(some 37), none, .op (.nchk (.t 36))⟩,
  ⟨(some 38), none, .op (.fad 1 (.t 37))⟩,
  ⟨(some 39), none, .op (.load none (.t 38))⟩,
  ⟨(some 40), none, .op (.mv (.t 7))⟩,
  ⟨(some 41), none, .op (.iad none none (.t 39) (.t 40))⟩,
  ⟨(some 42), none, .op (.load none (.t 41))⟩,
  ⟨(some 43), none, .call 26 [(.t 1), (.t 28), (.t 35), (.t 42)]⟩,
  ⟨(some 44), none, .op (.bsl (some 8) [.nils, .nils, (.int .i64 0), .nils, (.bool false), (.int .i64 0), .nils, (.int .i64 0)] 1 [(0, 8, (.t 43))])⟩,
  ⟨(some 45), none, .op (.app (some 8) 128 (.t 24) (.t 44))⟩,
  ⟨(some 46), none, .op (.fad 0 (.t 6))⟩,
  ⟨none, none, .op (.store 1 (.t 46) (.t 45))⟩] [(1, 20), (1, 21)])))
  (.reg [⟨(some 47), none, .op (.bin .none .add (.t 20) (.v (.int .i64 1)))⟩,
  ⟨(some 20), none, .op (.mv (.t 47))⟩] [])))))))
  (.seq (.reg [⟨(some 48), none, .op (.load (some 1) (.t 6))⟩,
  ⟨none, none, .op (.store 1 (.t 2) (.t 48))⟩,
  ⟨(some 3), none, .op (.mv (.v (.int .i64 0)))⟩] [])
  .ret))))))
theorem c15 : codeOf Try.prog 15 = some (49, [(2, (some (some 1))), (3, none)], fc15) := by kernel_rfl
def fc16 : FC := (.seq (.reg [⟨(some 2), none, .op (.box (.t 0))⟩,
  ⟨(some 4), none, .op (.mv (.v (.bool false)))⟩] [])
  (.seq (.seq (.reg [⟨(some 11), none, .op (.fad 0 (.t 2))⟩,
  ⟨(some 12), none, .op (.load none (.t 11))⟩,
  ⟨(some 13), none, .op (.len .sl (.t 12))⟩,
  ⟨(some 14), none, .op (.bin .none .lss (.t 13) (.v (.int .i64 1)))⟩,
  ⟨(some 15), none, .op (.mv (.t 14))⟩,
  ⟨(some 16), some (15, false), .op (.fad 0 (.t 2))⟩,
  ⟨(some 17), some (15, false), .op (.load none (.t 16))⟩,
  ⟨(some 18), some (15, false), .op (.len .sl (.t 17))⟩,
  ⟨(some 19), some (15, false), .op (.bin .none .gtr (.t 18) (.v (.int .i64 16)))⟩,
  ⟨(some 20), none, .op (.pick (.t 15) (.v (.bool true)) (.t 19))⟩,
  ⟨(some 21), none, .op (.mv (.t 20))⟩,
  ⟨(some 22), some (21, false), .op (.fad 0 (.t 2))⟩,
  ⟨(some 23), some (21, false), .op (.load none (.t 22))⟩,
  ⟨(some 24), some (21, false), .op (.iad none (some 8) (.t 23) (.v (.int .i64 0)))⟩,
  ⟨(some 25), some (21, false), .op (.fad 0 (.t 24))⟩,
  ⟨(some 26), some (21, false), .op (.load none (.t 25))⟩,
  ⟨(some 27), some (21, false), .op (.len .sl (.t 26))⟩,
  ⟨(some 28), some (21, false), .op (.bin .none .neq (.t 27) (.v (.int .i64 0)))⟩,
  ⟨(some 29), none, .op (.pick (.t 21) (.v (.bool true)) (.t 28))⟩,
  ⟨(some 30), none, .op (.mv (.t 29))⟩,
  ⟨(some 31), some (30, false), .op (.fad 0 (.t 2))⟩,
  ⟨(some 32), some (30, false), .op (.load none (.t 31))⟩,
  ⟨(some 33), some (30, false), .op (.iad none (some 8) (.t 32) (.v (.int .i64 0)))⟩,
  ⟨(some 34), some (30, false), .op (.fad 4 (.t 33))⟩,
  ⟨(some 35), some (30, false), .op (.load none (.t 34))⟩,
  ⟨(some 36), none, .op (.pick (.t 30) (.v (.bool true)) (.t 35))⟩] [])
  (.cond (.t 36)
  (.seq (.reg [⟨(some 4), none, .op (.mv (.v (.bool false)))⟩] [])
  .ret)
  .skip))
  (.seq (.seq (.reg [⟨(some 37), none, .op (.fad 0 (.t 2))⟩,
  ⟨(some 38), none, .op (.load none (.t 37))⟩,
  ⟨(some 39), none, .op (.len .sl (.t 38))⟩,
  ⟨(some 40), none, .op (.mv (.v (.int .i64 0)))⟩] [])
  (.block 0 (.loop (.seq (.reg [⟨(some 41), none, .op (.bin .none .lss (.t 40) (.t 39))⟩] [])
  (.seq (.cond (.t 41)
  .skip
  (.exit 0))
  (.seq (.block 1 (.seq (.reg [⟨(some 42), none, .op (.iad none (some 8) (.t 38) (.t 40))⟩,
  ⟨(some 43), none, .op (.load (some 8) (.t 42))⟩,
  ⟨(some 6), none, .op (.new [.nils, .nils, (.int .i64 0), .nils, (.bool false), (.int .i64 0), .nils, (.int .i64 0)])⟩,
  ⟨none, none, .op (.store 8 (.t 6) (.t 43))⟩] [])
  (.seq (.reg [⟨(some 44), none, .op (.load (some 8) (.t 6))⟩,
  ⟨(some 45), none, .op (.mv (.t 1))⟩,
  ⟨(some 46), none, .call 27 [(.t 44), (.t 45)]⟩,
  ⟨(some 47), none, .op (.un .not (.t 46))⟩] [])
  (.cond (.t 47)
  (.seq (.reg [⟨(some 4), none, .op (.mv (.v (.bool false)))⟩] [])
  .ret)
  .skip))))
  (.reg [⟨(some 48), none, .op (.bin .none .add (.t 40) (.v (.int .i64 1)))⟩,
  ⟨(some 40), none, .op (.mv (.t 48))⟩] [])))))))
  (.seq (.seq (.reg [⟨(some 49), none, .op (.fad 0 (.t 2))⟩,
  ⟨(some 50), none, .op (.load none (.t 49))⟩,
  ⟨(some 51), none, .op (.len .sl (.t 50))⟩,
  ⟨(some 52), none, .op (.mv (.v (.int .i64 0)))⟩] [])
  (.block 2 (.loop (.seq (.reg [⟨(some 53), none, .op (.bin .none .lss (.t 52) (.t 51))⟩] [])
  (.seq (.cond (.t 53)
  .skip
  (.exit 2))
  (.seq (.block 3 (.seq (.reg [⟨(some 54), none, .op (.iad none (some 8) (.t 50) (.t 52))⟩,
  ⟨(some 55), none, .op (.load (some 8) (.t 54))⟩,
  ⟨(some 8), none, .op (.new [.nils, .nils, (.int .i64 0), .nils, (.bool false), (.int .i64 0), .nils, (.int .i64 0)])⟩,
  ⟨none, none, .op (.store 8 (.t 8) (.t 55))⟩] [])
  (.seq (.reg [⟨(some 56), none, .op (.fad 6 (.t 8))⟩,
  ⟨(some 57), none, .op (.load none (.t 56))⟩,
  ⟨(some 58), none, .op (.len .sl (.t 57))⟩,
  ⟨(some 59), none, .op (.mv (.v (.int .i64 0)))⟩] [])
  (.block 4 (.loop (.seq (.reg [⟨(some 60), none, .op (.bin .none .lss (.t 59) (.t 58))⟩] [])
  (.seq (.cond (.t 60)
  .skip
  (.exit 4))
  (.seq (.block 5 (.seq (.reg [⟨(some 61), none, .op (.iad none (some 12) (.t 57) (.t 59))⟩,
  ⟨(some 62), none, .op (.load (some 12) (.t 61))⟩,
  ⟨(some 10), none, .op (.new [(.int .u8 0), (.int .u8 0), (.int .i64 0), (.int .i64 0), (.int .i64 0), (.int .i64 0), (.int .i64 0), (.int .i64 0), (.int .u64 0), .nils, (.int .i64 0), (.int .i64 0)])⟩,
  ⟨none, none, .op (.store 12 (.t 10) (.t 62))⟩] [])
  (.seq (.reg [⟨(some 63), none, .op (.fad 0 (.t 2))⟩,
  ⟨(some 64), none, .op (.load none (.t 63))⟩,
  ⟨(some 65), none, .op (.load (some 8) (.t 8))⟩,
  ⟨(some 66), none, .op (.mv (.t 1))⟩,
  ⟨(some 67), none, .op (.load (some 12) (.t 10))⟩,
  ⟨(some 68), none, .call 28 [(.t 64), (.t 65), (.t 66), (.t 67)]⟩,
  ⟨(some 69), none, .op (.un .not (.t 68))⟩] [])
  (.cond (.t 69)
  (.seq (.reg [⟨(some 4), none, .op (.mv (.v (.bool false)))⟩] [])
  .ret)
  .skip))))
  (.reg [⟨(some 70), none, .op (.bin .none .add (.t 59) (.v (.int .i64 1)))⟩,
  ⟨(some 59), none, .op (.mv (.t 70))⟩] [])))))))))
  (.reg [⟨(some 71), none, .op (.bin .none .add (.t 52) (.v (.int .i64 1)))⟩,
  ⟨(some 52), none, .op (.mv (.t 71))⟩] [])))))))
  (.seq (.reg [⟨(some 4), none, .op (.mv (.v (.bool true)))⟩] [])
  .ret)))))
theorem c16 : codeOf Try.prog 16 = some (72, [(4, none)], fc16) := by kernel_rfl
def fc17 : FC := (.seq (.reg [⟨(some 4), none, .op (.box (.t 0))⟩,
  ⟨(some 8), none, .op (.mv (.v .nilp))⟩] [])
  (.seq (.reg [⟨(some 10), none, .op (.load (some 1) (.t 4))⟩,
  ⟨(some 11), none, .op (.mv (.t 1))⟩,
  ⟨(some 12), none, .op (.mksl none 8 [(.int .u64 0)] (.v (.int .i64 16)) (.v (.int .i64 16)))⟩,
  ⟨(some 13), none, .op (.bsl none [(.int .u64 0)] 0 [])⟩,
  ⟨(some 14), none, .op (.mv (.t 2))⟩,
  ⟨(some 15), none, .op (.app none 8 (.t 13) (.t 14))⟩,
  ⟨(some 16), none, .op (.build [.nils, (.bool false), .nils, .nils, .nils, .nils, .nils, (.int .i64 0), (.int .u64 0), (.int .i64 0), (.int .i64 0), (.int .i64 0), (.int .i64 0)] [(0, 1, (.t 10)), (1, 1, (.t 11)), (2, 1, (.t 12)), (5, 1, (.t 15))])⟩,
  ⟨(some 17), none, .op (.box (.t 16))⟩,
  ⟨(some 9), none, .op (.mv (.t 17))⟩] [(0, 2), (0, 3), (2, 3), (0, 5), (2, 5)])
  (.seq (.reg [⟨(some 18), none, .op (.mv (.t 9))⟩,
  ⟨(some 19), none, .call 29 [(.t 18), (.v (.int .i64 0)), (.v .nils), (.v (.int .i64 0))]⟩] [])
  (.seq (.block 0 (.loop (.seq (.seq (.reg [⟨(some 20), none, .op (.mv (.t 9))⟩,
  ⟨(some 21), none, .op (.nchk (.t 20))⟩,
  ⟨(some 22), none, .op (.fad 7 (.t 21))⟩,
  ⟨(some 23), none, .op (.fad 0 (.t 22))⟩,
  ⟨(some 24), none, .op (.load none (.t 23))⟩,
  ⟨(some 25), none, .op (.bin .none .eql (.t 24) (.v (.int .i64 0)))⟩] [])
  (.cond (.t 25)
  .skip
  (.exit 0)))
  (.block 1 (.seq (.seq (.reg [⟨(some 26), none, .op (.mv (.t 9))⟩,
  ⟨(some 27), none, .op (.nchk (.t 26))⟩,
  ⟨(some 28), none, .op (.fad 9 (.t 27))⟩,
  ⟨(some 29), none, .op (.load none (.t 28))⟩,
  ⟨(some 30), none, .op (.mv (.t 3))⟩,
  ⟨(some 31), none, .op (.bin .none .geq (.t 29) (.t 30))⟩] [])
  (.cond (.t 31)
  (.seq (.reg [⟨(some 32), none, .op (.mv (.t 9))⟩,
  ⟨(some 33), none, .op (.nchk (.t 32))⟩,
  ⟨(some 34), none, .op (.fad 7 (.t 33))⟩,
  ⟨(some 35), none, .op (.fad 0 (.t 34))⟩,
  ⟨none, none, .op (.store 1 (.t 35) (.v (.int .i64 3)))⟩] [])
  (.seq (.reg [⟨(some 36), none, .op (.mv (.t 9))⟩,
  ⟨(some 8), none, .op (.mv (.t 36))⟩] [])
  .ret))
  .skip))
  (.reg [⟨(some 37), none, .op (.mv (.t 9))⟩,
  ⟨(some 38), none, .call 30 [(.t 37)]⟩] []))))))
  (.seq (.reg [⟨(some 39), none, .op (.mv (.t 9))⟩,
  ⟨(some 8), none, .op (.mv (.t 39))⟩] [])
  .ret)))))
theorem c17 : codeOf Try.prog 17 = some (40, [(8, none)], fc17) := by kernel_rfl
def fc23 : FC := (.seq (.reg [⟨(some 1), none, .op (.box (.t 0))⟩,
  ⟨(some 2), none, .op (.mv (.v .nilp))⟩,
  ⟨(some 3), none, .op (.mv (.v (.int .i64 0)))⟩] [])
  (.seq (.seq (.reg [⟨(some 17), none, .op (.load (some 1) (.t 1))⟩,
  ⟨(some 18), none, .call 37 [(.t 17)]⟩,
  ⟨(some 16), none, .op (.mv (.t 18))⟩,
  ⟨(some 19), none, .op (.ext 0 (.t 16))⟩,
  ⟨(some 20), none, .op (.ext 1 (.t 16))⟩,
  ⟨(some 4), none, .op (.mv (.t 19))⟩,
  ⟨(some 5), none, .op (.mv (.t 20))⟩] [])
  (.seq (.reg [⟨(some 21), none, .op (.mv (.t 5))⟩,
  ⟨(some 22), none, .op (.bin .none .neq (.t 21) (.v (.int .i64 0)))⟩] [])
  (.cond (.t 22)
  (.seq (.reg [⟨(some 23), none, .op (.mv (.t 5))⟩,
  ⟨(some 2), none, .op (.mv (.v .nilp))⟩,
  ⟨(some 3), none, .op (.mv (.t 23))⟩] [])
  .ret)
  .skip)))
  (.seq (.seq (.reg [⟨(some 24), none, .op (.load (some 1) (.t 1))⟩,
  ⟨(some 25), none, .call 38 [(.t 24)]⟩,
  ⟨(some 26), none, .op (.un .not (.t 25))⟩] [])
  (.cond (.t 26)
  (.seq (.reg [⟨(some 2), none, .op (.mv (.v .nilp))⟩,
  ⟨(some 3), none, .op (.mv (.v (.int .i64 31)))⟩] [])
  .ret)
  .skip))
  (.seq (.seq (.reg [⟨(some 27), none, .op (.fad 0 (.t 1))⟩,
  ⟨(some 28), none, .op (.load none (.t 27))⟩,
  ⟨(some 29), none, .op (.iad none (some 5) (.t 28) (.v (.int .i64 0)))⟩,
  ⟨(some 30), none, .op (.fad 0 (.t 29))⟩,
  ⟨(some 31), none, .op (.load none (.t 30))⟩,
  ⟨(some 32), none, .op (.bin .none .gtr (.t 31) (.v (.int .i64 0)))⟩,
  ⟨(some 33), none, .op (.mv (.t 32))⟩,
  ⟨(some 34), some (33, false), .op (.fad 0 (.t 1))⟩,
  ⟨(some 35), some (33, false), .op (.load none (.t 34))⟩,
  ⟨(some 36), some (33, false), .op (.iad none (some 5) (.t 35) (.v (.int .i64 0)))⟩,
  ⟨(some 37), some (33, false), .op (.fad 2 (.t 36))⟩,
  ⟨(some 38), some (33, false), .op (.load none (.t 37))⟩,
  ⟨(some 39), none, .op (.pick (.t 33) (.v (.bool true)) (.t 38))⟩] [])
  (.cond (.t 39)
  (.seq (.reg [⟨(some 2), none, .op (.mv (.v .nilp))⟩,
  ⟨(some 3), none, .op (.mv (.v (.int .i64 50)))⟩] [])
  .ret)
  .skip))
  (.seq (.seq (.reg [⟨(some 40), none, .op (.fad 0 (.t 1))⟩,
  ⟨(some 41), none, .op (.load none (.t 40))⟩,
  ⟨(some 42), none, .op (.len .sl (.t 41))⟩,
  ⟨(some 43), none, .op (.mv (.v (.int .i64 0)))⟩] [])
  (.block 0 (.loop (.seq (.reg [⟨(some 44), none, .op (.bin .none .lss (.t 43) (.t 42))⟩] [])
  (.seq (.cond (.t 44)
  .skip
  (.exit 0))
  (.seq (.block 1 (.seq (.reg [⟨(some 45), none, .op (.iad none (some 5) (.t 41) (.t 43))⟩,
  ⟨(some 46), none, .op (.load (some 5) (.t 45))⟩,
  ⟨(some 7), none, .op (.new [(.int .i64 0), .nils, (.bool false), (.int .i64 0), .nils])⟩,
  ⟨none, none, .op (.store 5 (.t 7) (.t 46))⟩] [])
  (.seq (.reg [⟨(some 47), none, .op (.load (some 1) (.t 1))⟩,
  ⟨(some 48), none, .op (.load (some 5) (.t 7))⟩,
  ⟨(some 49), none, .call 39 [(.t 47), (.t 48)]⟩,
  ⟨(some 50), none, .op (.un .not (.t 49))⟩] [])
  (.cond (.t 50)
  (.seq (.reg [⟨(some 2), none, .op (.mv (.v .nilp))⟩,
  ⟨(some 3), none, .op (.mv (.v (.int .i64 50)))⟩] [])
  .ret)
  .skip))))
  (.reg [⟨(some 51), none, .op (.bin .none .add (.t 43) (.v (.int .i64 1)))⟩,
  ⟨(some 43), none, .op (.mv (.t 51))⟩] [])))))))
  (.seq (.reg [⟨(some 52), none, .op (.build [.nils, .nils] [])⟩,
  ⟨(some 53), none, .op (.box (.t 52))⟩,
  ⟨(some 8), none, .op (.mv (.t 53))⟩] [])
  (.seq (.reg [⟨(some 9), none, .op (.mv (.v (.bool false)))⟩] [])
  (.seq (.seq (.reg [⟨(some 54), none, .op (.fad 0 (.t 1))⟩,
  ⟨(some 55), none, .op (.load none (.t 54))⟩,
  ⟨(some 56), none, .op (.len .sl (.t 55))⟩,
  ⟨(some 57), none, .op (.mv (.v (.int .i64 0)))⟩] [])
  (.block 2 (.loop (.seq (.reg [⟨(some 58), none, .op (.bin .none .lss (.t 57) (.t 56))⟩] [])
  (.seq (.cond (.t 58)
  .skip
  (.exit 2))
  (.seq (.block 3 (.seq (.reg [⟨(some 59), none, .op (.iad none (some 5) (.t 55) (.t 57))⟩,
  ⟨(some 60), none, .op (.load (some 5) (.t 59))⟩,
  ⟨(some 11), none, .op (.new [(.int .i64 0), .nils, (.bool false), (.int .i64 0), .nils])⟩,
  ⟨none, none, .op (.store 5 (.t 11) (.t 60))⟩] [])
  (.seq (.reg [⟨(some 62), none, .op (.load (some 1) (.t 1))⟩,
  ⟨(some 63), none, .op (.load (some 5) (.t 11))⟩,
  ⟨(some 64), none, .call 40 [(.t 62), (.t 63)]⟩,
  ⟨(some 61), none, .op (.mv (.t 64))⟩,
  ⟨(some 65), none, .op (.ext 0 (.t 61))⟩,
  ⟨(some 66), none, .op (.ext 1 (.t 61))⟩,
  ⟨(some 67), none, .op (.ext 2 (.t 61))⟩,
  ⟨(some 68), none, .op (.ext 3 (.t 61))⟩,
  ⟨(some 12), none, .op (.mv (.t 65))⟩,
  ⟨(some 13), none, .op (.mv (.t 66))⟩,
  ⟨(some 14), none, .op (.mv (.t 67))⟩,
  ⟨(some 15), none, .op (.mv (.t 68))⟩] [])
  (.seq (.seq (.reg [⟨(some 69), none, .op (.mv (.t 15))⟩,
  ⟨(some 70), none, .op (.bin .none .neq (.t 69) (.v (.int .i64 0)))⟩] [])
  (.cond (.t 70)
  (.seq (.reg [⟨(some 71), none, .op (.mv (.t 15))⟩,
  ⟨(some 2), none, .op (.mv (.v .nilp))⟩,
  ⟨(some 3), none, .op (.mv (.t 71))⟩] [])
  .ret)
  .skip))
  (.seq (.reg [⟨(some 72), none, .op (.mv (.t 9))⟩,
  ⟨(some 73), none, .op (.mv (.t 72))⟩,
  ⟨(some 74), some (73, false), .op (.mv (.t 14))⟩,
  ⟨(some 75), none, .op (.pick (.t 73) (.v (.bool true)) (.t 74))⟩,
  ⟨(some 9), none, .op (.mv (.t 75))⟩] [])
  (.reg [⟨(some 76), none, .op (.mv (.t 8))⟩,
  ⟨(some 77), none, .op (.mv (.t 8))⟩,
  ⟨(some 78), none, .op (.mv (.t 8))⟩,
  ⟨(some 79), none, .op (.nchk (.t 78))⟩,
  ⟨(some 80), none, .op (.fad 0 (.t 79))⟩,
  ⟨(some 81), none, .op (.load none (.t 80))⟩,
  ⟨(some 82), none, .op (.mv (.t 12))⟩,
  ⟨(some 83), none, .op (.bsl none [.nils] 1 [(0, 1, (.t 82))])⟩,
  ⟨(some 84), none, .op (.app none 24 (.t 81) (.t 83))⟩,
  ⟨(some 85), none, .op (.mv (.t 8))⟩,
  ⟨(some 86), none, .op (.nchk (.t 85))⟩,
  ⟨(some 87), none, .op (.fad 1 (.t 86))⟩,
  ⟨(some 88), none, .op (.load none (.t 87))⟩,
  ⟨(some 89), none, .op (.mv (.t 13))⟩,
  ⟨(some 90), none, .op (.bsl none [.nils] 1 [(0, 1, (.t 89))])⟩,
  ⟨(some 91), none, .op (.app none 24 (.t 88) (.t 90))⟩,
  ⟨(some 92), none, .op (.nchk (.t 76))⟩,
  ⟨(some 93), none, .op (.fad 0 (.t 92))⟩,
  ⟨none, none, .op (.store 1 (.t 93) (.t 84))⟩,
  ⟨(some 94), none, .op (.nchk (.t 77))⟩,
  ⟨(some 95), none, .op (.fad 1 (.t 94))⟩,
  ⟨none, none, .op (.store 1 (.t 95) (.t 91))⟩] [(5, 7), (7, 12), (8, 12), (5, 14), (7, 14), (8, 14), (12, 14)]))))))
  (.reg [⟨(some 96), none, .op (.bin .none .add (.t 57) (.v (.int .i64 1)))⟩,
  ⟨(some 57), none, .op (.mv (.t 96))⟩] [])))))))
  (.seq (.seq (.reg [⟨(some 97), none, .op (.mv (.t 9))⟩] [])
  (.cond (.t 97)
  (.seq (.reg [⟨(some 2), none, .op (.mv (.v .nilp))⟩,
  ⟨(some 3), none, .op (.mv (.v (.int .i64 31)))⟩] [])
  .ret)
  .skip))
  (.seq (.reg [⟨(some 98), none, .op (.mv (.t 8))⟩,
  ⟨(some 2), none, .op (.mv (.t 98))⟩,
  ⟨(some 3), none, .op (.mv (.v (.int .i64 0)))⟩] [])
  .ret))))))))))
theorem c23 : codeOf Try.prog 23 = some (99, [(2, none), (3, none)], fc23) := by kernel_rfl
def fc26 : FC := (.seq (.reg [⟨(some 8), none, .op (.new [.nils, .nils, (.int .i64 0), .nils, (.bool false), (.int .i64 0), .nils, (.int .i64 0)])⟩] [])
  (.seq (.reg [⟨(some 14), none, .op (.mv (.t 0))⟩,
  ⟨(some 15), none, .op (.mv (.t 1))⟩,
  ⟨(some 16), none, .op (.mv (.t 1))⟩,
  ⟨(some 17), none, .op (.nchk (.t 16))⟩,
  ⟨(some 18), none, .op (.fad 2 (.t 17))⟩,
  ⟨(some 19), none, .op (.load none (.t 18))⟩,
  ⟨(some 20), none, .op (.build [.nils, .nils, (.int .i64 0), .nils, (.bool false), (.int .i64 0), .nils, (.int .i64 0)] [(4, 1, (.t 19)), (5, 1, (.v (.int .i64 (-1))))])⟩,
  ⟨(some 21), none, .op (.build [.nilp, .nilp, .nils, .nils, .nils, (.int .i64 0), .nils, (.bool false), (.int .i64 0), .nils, (.int .i64 0)] [(0, 1, (.t 14)), (1, 1, (.t 15)), (3, 8, (.t 20))])⟩,
  ⟨(some 22), none, .op (.box (.t 21))⟩,
  ⟨(some 9), none, .op (.mv (.t 22))⟩] [])
  (.seq (.reg [⟨(some 23), none, .op (.mv (.t 9))⟩,
  ⟨(some 24), none, .call 41 [(.t 23)]⟩] [])
  (.seq (.reg [⟨(some 25), none, .op (.mv (.t 9))⟩,
  ⟨(some 26), none, .op (.mv (.t 9))⟩,
  ⟨(some 27), none, .op (.nchk (.t 26))⟩,
  ⟨(some 28), none, .op (.fad 3 (.t 27))⟩,
  ⟨(some 29), none, .op (.fad 1 (.t 28))⟩,
  ⟨(some 30), none, .op (.load none (.t 29))⟩,
  ⟨(some 31), none, .op (.mv (.t 1))⟩,
  ⟨(some 32), none, .op (.nchk (.t 31))⟩,
  ⟨(some 33), none, .op (.fad 1 (.t 32))⟩,
  ⟨(some 34), none, .op (.load none (.t 33))⟩,
  ⟨(some 35), none, .op (.app none 1 (.t 30) (.t 34))⟩,
  ⟨(some 36), none, .op (.nchk (.t 25))⟩,
  ⟨(some 37), none, .op (.fad 3 (.t 36))⟩,
  ⟨(some 38), none, .op (.fad 1 (.t 37))⟩,
  ⟨none, none, .op (.store 1 (.t 38) (.t 35))⟩] [])
  (.seq (.seq (.reg [⟨(some 39), none, .op (.mv (.v (.int .i64 0)))⟩] [])
  (.block 0 (.loop (.seq (.reg [⟨(some 40), none, .op (.bin .none .lss (.t 39) (.v (.int .i64 16)))⟩] [])
  (.seq (.cond (.t 40)
  .skip
  (.exit 0))
  (.seq (.block 1 (.reg [⟨(some 41), none, .op (.mv (.t 9))⟩,
  ⟨(some 42), none, .op (.mv (.t 9))⟩,
  ⟨(some 43), none, .op (.nchk (.t 42))⟩,
  ⟨(some 44), none, .op (.fad 3 (.t 43))⟩,
  ⟨(some 45), none, .op (.fad 1 (.t 44))⟩,
  ⟨(some 46), none, .op (.load none (.t 45))⟩,
  ⟨(some 47), none, .op (.bsl none [(.int .u8 0)] 2 [(0, 1, (.v (.int .u8 0))), (1, 1, (.v (.int .u8 1)))])⟩,
  ⟨(some 48), none, .op (.app none 1 (.t 46) (.t 47))⟩,
  ⟨(some 49), none, .op (.nchk (.t 41))⟩,
  ⟨(some 50), none, .op (.fad 3 (.t 49))⟩,
  ⟨(some 51), none, .op (.fad 1 (.t 50))⟩,
  ⟨none, none, .op (.store 1 (.t 51) (.t 48))⟩] []))
  (.reg [⟨(some 52), none, .op (.bin .none .add (.t 39) (.v (.int .i64 1)))⟩,
  ⟨(some 39), none, .op (.mv (.t 52))⟩] [])))))))
  (.seq (.seq (.reg [⟨(some 53), none, .op (.mv (.t 1))⟩,
  ⟨(some 54), none, .op (.nchk (.t 53))⟩,
  ⟨(some 55), none, .op (.fad 0 (.t 54))⟩,
  ⟨(some 56), none, .op (.load none (.t 55))⟩,
  ⟨(some 57), none, .op (.mv (.v (.int .i64 0)))⟩] [])
  (.block 2 (.loop (.seq (.reg [⟨(some 58), none, .op (.bin .none .lss (.t 57) (.t 56))⟩] [])
  (.seq (.cond (.t 58)
  .skip
  (.exit 2))
  (.seq (.block 3 (.seq (.reg [⟨(some 59), none, .op (.mv (.t 57))⟩,
  ⟨(some 10), none, .op (.mv (.t 59))⟩] [])
  (.reg [⟨(some 60), none, .op (.mv (.t 9))⟩,
  ⟨(some 61), none, .op (.mv (.t 9))⟩,
  ⟨(some 62), none, .op (.mv (.t 9))⟩,
  ⟨(some 63), none, .op (.nchk (.t 62))⟩,
  ⟨(some 64), none, .op (.fad 3 (.t 63))⟩,
  ⟨(some 65), none, .op (.fad 0 (.t 64))⟩,
  ⟨(some 66), none, .op (.load none (.t 65))⟩,
  ⟨(some 67), none, .op (.mv (.t 10))⟩,
  ⟨(some 68), none, .op (.bsl none [(.int .i64 0)] 1 [(0, 1, (.t 67))])⟩,
  ⟨(some 69), none, .op (.app none 8 (.t 66) (.t 68))⟩,
  ⟨(some 70), none, .op (.mv (.t 9))⟩,
  ⟨(some 71), none, .op (.nchk (.t 70))⟩,
  ⟨(some 72), none, .op (.fad 3 (.t 71))⟩,
  ⟨(some 73), none, .op (.fad 3 (.t 72))⟩,
  ⟨(some 74), none, .op (.load none (.t 73))⟩,
  ⟨(some 75), none, .op (.mv (.t 9))⟩,
  ⟨(some 76), none, .op (.nchk (.t 75))⟩,
  ⟨(some 77), none, .op (.fad 2 (.t 76))⟩,
  ⟨(some 78), none, .op (.load none (.t 77))⟩,
  ⟨(some 79), none, .op (.mv (.t 10))⟩,
  ⟨(some 80), none, .op (.iad none none (.t 78) (.t 79))⟩,
  ⟨(some 81), none, .op (.load none (.t 80))⟩,
  ⟨(some 82), none, .op (.bsl none [(.int .i64 0)] 1 [(0, 1, (.t 81))])⟩,
  ⟨(some 83), none, .op (.app none 8 (.t 74) (.t 82))⟩,
  ⟨(some 84), none, .op (.nchk (.t 60))⟩,
  ⟨(some 85), none, .op (.fad 3 (.t 84))⟩,
  ⟨(some 86), none, .op (.fad 0 (.t 85))⟩,
  ⟨none, none, .op (.store 1 (.t 86) (.t 69))⟩,
  ⟨(some 87), none, .op (.nchk (.t 61))⟩,
  ⟨(some 88), none, .op (.fad 3 (.t 87))⟩,
  ⟨(some 89), none, .op (.fad 3 (.t 88))⟩,
  ⟨none, none, .op (.store 1 (.t 89) (.t 83))⟩] [(6, 8), (8, 14), (9, 14), (8, 18), (9, 18), (8, 21), (9, 21), (6, 22), (8, 22), (9, 22), (14, 22)])))
  (.reg [⟨(some 90), none, .op (.bin .none .add (.t 57) (.v (.int .i64 1)))⟩,
  ⟨(some 57), none, .op (.mv (.t 90))⟩] [])))))))
  (.seq (.seq (.reg [⟨(some 91), none, .op (.mv (.t 1))⟩,
  ⟨(some 92), none, .op (.nchk (.t 91))⟩,
  ⟨(some 93), none, .op (.fad 3 (.t 92))⟩,
  ⟨(some 94), none, .op (.load none (.t 93))⟩,
  ⟨(some 95), none, .op (.bin .none .geq (.t 94) (.v (.int .i64 0)))⟩] [])
  (.cond (.t 95)
  (.reg [⟨(some 96), none, .op (.mv (.t 9))⟩,
  ⟨(some 97), none, .op (.mv (.t 9))⟩,
  ⟨(some 98), none, .op (.nchk (.t 97))⟩,
  ⟨(some 99), none, .op (.fad 2 (.t 98))⟩,
  ⟨(some 100), none, .op (.load none (.t 99))⟩,
  ⟨(some 101), none, .op (.mv (.t 1))⟩,
  ⟨(some 102), none, .op (.nchk (.t 101))⟩,
  ⟨(some 103), none, .op (.fad 3 (.t 102))⟩,
  ⟨(some 104), none, .op (.load none (.t 103))⟩,
  ⟨(some 105), none, .op (.iad none none (.t 100) (.t 104))⟩,
  ⟨(some 106), none, .op (.load none (.t 105))⟩,
  ⟨(some 107), none, .op (.nchk (.t 96))⟩,
  ⟨(some 108), none, .op (.fad 3 (.t 107))⟩,
  ⟨(some 109), none, .op (.fad 5 (.t 108))⟩,
  ⟨none, none, .op (.store 1 (.t 109) (.t 106))⟩] [])
  .skip))
  (.seq (.seq (.reg [⟨(some 110), none, .op (.mv (.t 2))⟩,
  ⟨(some 111), none, .op (.len .sl (.t 110))⟩,
  ⟨(some 112), none, .op (.mv (.v (.int .i64 0)))⟩] [])
  (.block 4 (.loop (.seq (.reg [⟨(some 113), none, .op (.bin .none .lss (.t 112) (.t 111))⟩] [])
  (.seq (.cond (.t 113)
  .skip
  (.exit 4))
  (.seq (.block 5 (.seq (.reg [⟨(some 114), none, .op (.mv (.t 112))⟩,
  ⟨(some 115), none, .op (.iad none none (.t 110) (.t 112))⟩,
  ⟨(some 116), none, .op (.load none (.t 115))⟩,
  ⟨(some 11), none, .op (.mv (.t 114))⟩,
  ⟨(some 12), none, .op (.mv (.t 116))⟩] [])
  (.seq (.reg [⟨(some 117), none, .op (.mv (.t 11))⟩,
  ⟨(some 118), none, .op (.build [(.int .u8 0), (.int .u8 0), (.int .i64 0), (.int .i64 0), (.int .i64 0), (.int .i64 0), (.int .i64 0), (.int .i64 0), (.int .u64 0), .nils, (.int .i64 0), (.int .i64 0)] [(0, 1, (.v (.int .u8 10))), (10, 1, (.t 117))])⟩,
  ⟨(some 13), none, .op (.new [(.int .u8 0), (.int .u8 0), (.int .i64 0), (.int .i64 0), (.int .i64 0), (.int .i64 0), (.int .i64 0), (.int .i64 0), (.int .u64 0), .nils, (.int .i64 0), (.int .i64 0)])⟩,
  ⟨none, none, .op (.store 12 (.t 13) (.t 118))⟩] [])
  (.seq (.seq (.reg [⟨(some 119), none, .op (.mv (.t 12))⟩] [])
  (.cond (.t 119)
  (.reg [⟨(some 120), none, .op (.mv (.t 9))⟩,
  ⟨(some 121), none, .op (.mv (.t 11))⟩,
  ⟨(some 122), none, .op (.mv (.t 3))⟩,
  ⟨(some 123), none, .op (.mv (.t 11))⟩,
  ⟨(some 124), none, .op (.iad none none (.t 122) (.t 123))⟩,
  ⟨(some 125), none, .op (.load none (.t 124))⟩,
  ⟨(some 126), none, .call 42 [(.t 120), (.t 121), (.t 125)]⟩,
  ⟨none, none, .op (.store 12 (.t 13) (.t 126))⟩] [])
  .skip))
  (.reg [⟨(some 127), none, .op (.mv (.t 9))⟩,
  ⟨(some 128), none, .op (.mv (.t 9))⟩,
  ⟨(some 129), none, .op (.nchk (.t 128))⟩,
  ⟨(some 130), none, .op (.fad 3 (.t 129))⟩,
  ⟨(some 131), none, .op (.fad 6 (.t 130))⟩,
  ⟨(some 132), none, .op (.load none (.t 131))⟩,
  ⟨(some 133), none, .op (.load (some 12) (.t 13))⟩,
  ⟨(some 134), none, .op (.bsl (some 12) [(.int .u8 0), (.int .u8 0), (.int .i64 0), (.int .i64 0), (.int .i64 0), (.int .i64 0), (.int .i64 0), (.int .i64 0), (.int .u64 0), .nils, (.int .i64 0), (.int .i64 0)] 1 [(0, 12, (.t 133))])⟩,
  ⟨(some 135), none, .op (.app (some 12) 104 (.t 132) (.t 134))⟩,
  ⟨(some 136), none, .op (.nchk (.t 127))⟩,
  ⟨(some 137), none, .op (.fad 3 (.t 136))⟩,
  ⟨(some 138), none, .op (.fad 6 (.t 137))⟩,
  ⟨none, none, .op (.store 1 (.t 138) (.t 135))⟩] [(5, 7)])))))
  (.reg [⟨(some 139), none, .op (.bin .none .add (.t 112) (.v (.int .i64 1)))⟩,
  ⟨(some 112), none, .op (.mv (.t 139))⟩] [])))))))
  (.seq (.reg [⟨(some 140), none, .op (.mv (.t 9))⟩,
  ⟨(some 141), none, .op (.nchk (.t 140))⟩,
  ⟨(some 142), none, .op (.fad 3 (.t 141))⟩,
  ⟨(some 143), none, .op (.load (some 8) (.t 142))⟩,
  ⟨none, none, .op (.store 8 (.t 8) (.t 143))⟩] [])
  .ret)))))))))
theorem c26 : codeOf Try.prog 26 = some (144, [(8, (some (some 8)))], fc26) := by kernel_rfl
def fc27 : FC := (.seq (.reg [⟨(some 2), none, .op (.box (.t 0))⟩,
  ⟨(some 4), none, .op (.mv (.v (.bool false)))⟩] [])
  (.seq (.seq (.reg [⟨(some 9), none, .op (.fad 1 (.t 2))⟩,
  ⟨(some 10), none, .op (.load none (.t 9))⟩,
  ⟨(some 11), none, .op (.len .sl (.t 10))⟩,
  ⟨(some 12), none, .op (.bin .none .gtr (.t 11) (.v (.int .i64 1024)))⟩,
  ⟨(some 13), none, .op (.mv (.t 12))⟩,
  ⟨(some 14), some (13, false), .op (.mv (.t 1))⟩,
  ⟨(some 15), some (13, false), .op (.mv (.t 14))⟩,
  ⟨(some 16), some (15, true), .op (.fad 1 (.t 2))⟩,
  ⟨(some 17), some (15, true), .op (.load none (.t 16))⟩,
  ⟨(some 18), some (15, true), .op (.len .sl (.t 17))⟩,
  ⟨(some 19), some (15, true), .op (.bin .none .lss (.t 18) (.v (.int .i64 16)))⟩,
  ⟨(some 20), some (13, false), .op (.pick (.t 15) (.t 19) (.v (.bool false)))⟩,
  ⟨(some 21), none, .op (.pick (.t 13) (.v (.bool true)) (.t 20))⟩,
  ⟨(some 22), none, .op (.mv (.t 21))⟩,
  ⟨(some 23), some (22, false), .op (.fad 0 (.t 2))⟩,
  ⟨(some 24), some (22, false), .op (.load none (.t 23))⟩,
  ⟨(some 25), some (22, false), .op (.len .sl (.t 24))⟩,
  ⟨(some 26), some (22, false), .op (.bin .none .gtr (.t 25) (.v (.int .i64 4)))⟩,
  ⟨(some 27), none, .op (.pick (.t 22) (.v (.bool true)) (.t 26))⟩,
  ⟨(some 28), none, .op (.mv (.t 27))⟩,
  ⟨(some 29), some (28, false), .op (.fad 3 (.t 2))⟩,
  ⟨(some 30), some (28, false), .op (.load none (.t 29))⟩,
  ⟨(some 31), some (28, false), .op (.len .sl (.t 30))⟩,
  ⟨(some 32), some (28, false), .op (.fad 0 (.t 2))⟩,
  ⟨(some 33), some (28, false), .op (.load none (.t 32))⟩,
  ⟨(some 34), some (28, false), .op (.len .sl (.t 33))⟩,
  ⟨(some 35), some (28, false), .op (.bin .none .neq (.t 31) (.t 34))⟩,
  ⟨(some 36), none, .op (.pick (.t 28) (.v (.bool true)) (.t 35))⟩,
  ⟨(some 37), none, .op (.mv (.t 36))⟩,
  ⟨(some 38), some (37, false), .op (.fad 2 (.t 2))⟩,
  ⟨(some 39), some (37, false), .op (.load none (.t 38))⟩,
  ⟨(some 40), some (37, false), .op (.bin .none .lss (.t 39) (.v (.int .i64 0)))⟩,
  ⟨(some 41), none, .op (.pick (.t 37) (.v (.bool true)) (.t 40))⟩,
  ⟨(some 42), none, .op (.mv (.t 41))⟩,
  ⟨(some 43), some (42, false), .op (.fad 2 (.t 2))⟩,
  ⟨(some 44), some (42, false), .op (.load none (.t 43))⟩,
  ⟨(some 45), some (42, false), .op (.bin .none .gtr (.t 44) (.v (.int .i64 64)))⟩,
  ⟨(some 46), none, .op (.pick (.t 42) (.v (.bool true)) (.t 45))⟩,
  ⟨(some 47), none, .op (.mv (.t 46))⟩,
  ⟨(some 48), some (47, false), .op (.fad 5 (.t 2))⟩,
  ⟨(some 49), some (47, false), .op (.load none (.t 48))⟩,
  ⟨(some 50), some (47, false), .op (.bin .none .lss (.t 49) (.v (.int .i64 (-1))))⟩,
  ⟨(some 51), none, .op (.pick (.t 47) (.v (.bool true)) (.t 50))⟩,
  ⟨(some 52), none, .op (.mv (.t 51))⟩,
  ⟨(some 53), some (52, false), .op (.fad 5 (.t 2))⟩,
  ⟨(some 54), some (52, false), .op (.load none (.t 53))⟩,
  ⟨(some 55), some (52, false), .op (.fad 2 (.t 2))⟩,
  ⟨(some 56), some (52, false), .op (.load none (.t 55))⟩,
  ⟨(some 57), some (52, false), .op (.bin .none .geq (.t 54) (.t 56))⟩,
  ⟨(some 58), none, .op (.pick (.t 52) (.v (.bool true)) (.t 57))⟩] [])
  (.cond (.t 58)
  (.seq (.reg [⟨(some 4), none, .op (.mv (.v (.bool false)))⟩] [])
  .ret)
  .skip))
  (.seq (.seq (.reg [⟨(some 59), none, .op (.fad 1 (.t 2))⟩,
  ⟨(some 60), none, .op (.load none (.t 59))⟩,
  ⟨(some 61), none, .op (.len .sl (.t 60))⟩,
  ⟨(some 62), none, .op (.mv (.v (.int .i64 0)))⟩] [])
  (.block 0 (.loop (.seq (.reg [⟨(some 63), none, .op (.bin .none .lss (.t 62) (.t 61))⟩] [])
  (.seq (.cond (.t 63)
  .skip
  (.exit 0))
  (.seq (.block 1 (.seq (.reg [⟨(some 64), none, .op (.iad none none (.t 60) (.t 62))⟩,
  ⟨(some 65), none, .op (.load none (.t 64))⟩,
  ⟨(some 6), none, .op (.mv (.t 65))⟩] [])
  (.seq (.reg [⟨(some 66), none, .op (.mv (.t 6))⟩,
  ⟨(some 67), none, .op (.bin .none .gtr (.t 66) (.v (.int .u8 1)))⟩] [])
  (.cond (.t 67)
  (.seq (.reg [⟨(some 4), none, .op (.mv (.v (.bool false)))⟩] [])
  .ret)
  .skip))))
  (.reg [⟨(some 68), none, .op (.bin .none .add (.t 62) (.v (.int .i64 1)))⟩,
  ⟨(some 62), none, .op (.mv (.t 68))⟩] [])))))))
  (.seq (.seq (.reg [⟨(some 69), none, .op (.fad 0 (.t 2))⟩,
  ⟨(some 70), none, .op (.load none (.t 69))⟩,
  ⟨(some 71), none, .op (.len .sl (.t 70))⟩,
  ⟨(some 72), none, .op (.mv (.v (.int .i64 0)))⟩] [])
  (.block 2 (.loop (.seq (.reg [⟨(some 73), none, .op (.bin .none .lss (.t 72) (.t 71))⟩] [])
  (.seq (.cond (.t 73)
  .skip
  (.exit 2))
  (.seq (.block 3 (.seq (.reg [⟨(some 74), none, .op (.mv (.t 72))⟩,
  ⟨(some 75), none, .op (.iad none none (.t 70) (.t 72))⟩,
  ⟨(some 76), none, .op (.load none (.t 75))⟩,
  ⟨(some 7), none, .op (.mv (.t 74))⟩,
  ⟨(some 8), none, .op (.mv (.t 76))⟩] [])
  (.seq (.seq (.reg [⟨(some 77), none, .op (.mv (.t 8))⟩,
  ⟨(some 78), none, .op (.bin .none .lss (.t 77) (.v (.int .i64 0)))⟩,
  ⟨(some 79), none, .op (.mv (.t 78))⟩,
  ⟨(some 80), some (79, false), .op (.mv (.t 8))⟩,
  ⟨(some 81), some (79, false), .op (.fad 1 (.t 2))⟩,
  ⟨(some 82), some (79, false), .op (.load none (.t 81))⟩,
  ⟨(some 83), some (79, false), .op (.len .sl (.t 82))⟩,
  ⟨(some 84), some (79, false), .op (.bin .none .geq (.t 80) (.t 83))⟩,
  ⟨(some 85), none, .op (.pick (.t 79) (.v (.bool true)) (.t 84))⟩,
  ⟨(some 86), none, .op (.mv (.t 85))⟩,
  ⟨(some 87), some (86, false), .op (.fad 0 (.t 2))⟩,
  ⟨(some 88), some (86, false), .op (.load none (.t 87))⟩,
  ⟨(some 89), some (86, false), .op (.mv (.t 7))⟩,
  ⟨(some 90), some (86, false), .op (.slc none (.t 88) none (some (.t 89)) none)⟩,
  ⟨(some 91), some (86, false), .op (.mv (.t 8))⟩,
  ⟨(some 92), some (86, false), .call 43 [(.t 90), (.t 91)]⟩,
  ⟨(some 93), none, .op (.pick (.t 86) (.v (.bool true)) (.t 92))⟩,
  ⟨(some 94), none, .op (.mv (.t 93))⟩,
  ⟨(some 95), some (94, false), .op (.mv (.t 1))⟩,
  ⟨(some 96), some (94, false), .op (.mv (.t 95))⟩,
  ⟨(some 97), some (96, true), .op (.mv (.t 8))⟩,
  ⟨(some 98), some (96, true), .op (.mv (.t 7))⟩,
  ⟨(some 99), some (96, true), .op (.bin .none .neq (.t 97) (.t 98))⟩,
  ⟨(some 100), some (94, false), .op (.pick (.t 96) (.t 99) (.v (.bool false)))⟩,
  ⟨(some 101), none, .op (.pick (.t 94) (.v (.bool true)) (.t 100))⟩] [])
  (.cond (.t 101)
  (.seq (.reg [⟨(some 4), none, .op (.mv (.v (.bool false)))⟩] [])
  .ret)
  .skip))
  (.seq (.reg [⟨(some 102), none, .op (.fad 3 (.t 2))⟩,
  ⟨(some 103), none, .op (.load none (.t 102))⟩,
  ⟨(some 104), none, .op (.mv (.t 7))⟩,
  ⟨(some 105), none, .op (.iad none none (.t 103) (.t 104))⟩,
  ⟨(some 106), none, .op (.load none (.t 105))⟩,
  ⟨(some 107), none, .op (.bin .none .lss (.t 106) (.v (.int .i64 (-1))))⟩,
  ⟨(some 108), none, .op (.mv (.t 107))⟩,
  ⟨(some 109), some (108, false), .op (.fad 3 (.t 2))⟩,
  ⟨(some 110), some (108, false), .op (.load none (.t 109))⟩,
  ⟨(some 111), some (108, false), .op (.mv (.t 7))⟩,
  ⟨(some 112), some (108, false), .op (.iad none none (.t 110) (.t 111))⟩,
  ⟨(some 113), some (108, false), .op (.load none (.t 112))⟩,
  ⟨(some 114), some (108, false), .op (.fad 2 (.t 2))⟩,
  ⟨(some 115), some (108, false), .op (.load none (.t 114))⟩,
  ⟨(some 116), some (108, false), .op (.bin .none .geq (.t 113) (.t 115))⟩,
  ⟨(some 117), none, .op (.pick (.t 108) (.v (.bool true)) (.t 116))⟩,
  ⟨(some 118), none, .op (.mv (.t 117))⟩,
  ⟨(some 119), some (118, false), .op (.fad 3 (.t 2))⟩,
  ⟨(some 120), some (118, false), .op (.load none (.t 119))⟩,
  ⟨(some 121), some (118, false), .op (.mv (.t 7))⟩,
  ⟨(some 122), some (118, false), .op (.iad none none (.t 120) (.t 121))⟩,
  ⟨(some 123), some (118, false), .op (.load none (.t 122))⟩,
  ⟨(some 124), some (118, false), .op (.bin .none .geq (.t 123) (.v (.int .i64 0)))⟩,
  ⟨(some 125), some (118, false), .op (.mv (.t 124))⟩,
  ⟨(some 126), some (125, true), .op (.load (some 8) (.t 2))⟩,
  ⟨(some 127), some (125, true), .op (.mv (.t 1))⟩,
  ⟨(some 128), some (125, true), .op (.mv (.t 8))⟩,
  ⟨(some 129), some (125, true), .call 44 [(.t 126), (.t 127), (.t 128), (.v (.int .u8 0))]⟩,
  ⟨(some 130), some (125, true), .op (.un .not (.t 129))⟩,
  ⟨(some 131), some (118, false), .op (.pick (.t 125) (.t 130) (.v (.bool false)))⟩,
  ⟨(some 132), none, .op (.pick (.t 118) (.v (.bool true)) (.t 131))⟩] [])
  (.cond (.t 132)
  (.seq (.reg [⟨(some 4), none, .op (.mv (.v (.bool false)))⟩] [])
  .ret)
  .skip)))))
  (.reg [⟨(some 133), none, .op (.bin .none .add (.t 72) (.v (.int .i64 1)))⟩,
  ⟨(some 72), none, .op (.mv (.t 133))⟩] [])))))))
  (.seq (.reg [⟨(some 134), none, .op (.fad 6 (.t 2))⟩,
  ⟨(some 135), none, .op (.load none (.t 134))⟩,
  ⟨(some 136), none, .op (.len .sl (.t 135))⟩,
  ⟨(some 137), none, .op (.bin .none .geq (.t 136) (.v (.int .i64 1)))⟩,
  ⟨(some 138), none, .op (.mv (.t 137))⟩,
  ⟨(some 139), some (138, true), .op (.fad 6 (.t 2))⟩,
  ⟨(some 140), some (138, true), .op (.load none (.t 139))⟩,
  ⟨(some 141), some (138, true), .op (.len .sl (.t 140))⟩,
  ⟨(some 142), some (138, true), .op (.bin .none .leq (.t 141) (.v (.int .i64 4096)))⟩,
  ⟨(some 143), none, .op (.pick (.t 138) (.t 142) (.v (.bool false)))⟩,
  ⟨(some 144), none, .op (.mv (.t 143))⟩,
  ⟨(some 145), some (144, true), .op (.fad 7 (.t 2))⟩,
  ⟨(some 146), some (144, true), .op (.load none (.t 145))⟩,
  ⟨(some 147), some (144, true), .op (.bin .none .geq (.t 146) (.v (.int .i64 0)))⟩,
  ⟨(some 148), none, .op (.pick (.t 144) (.t 147) (.v (.bool false)))⟩,
  ⟨(some 149), none, .op (.mv (.t 148))⟩,
  ⟨(some 150), some (149, true), .op (.fad 7 (.t 2))⟩,
  ⟨(some 151), some (149, true), .op (.load none (.t 150))⟩,
  ⟨(some 152), some (149, true), .op (.fad 6 (.t 2))⟩,
  ⟨(some 153), some (149, true), .op (.load none (.t 152))⟩,
  ⟨(some 154), some (149, true), .op (.len .sl (.t 153))⟩,
  ⟨(some 155), some (149, true), .op (.bin .none .lss (.t 151) (.t 154))⟩,
  ⟨(some 156), none, .op (.pick (.t 149) (.t 155) (.v (.bool false)))⟩,
  ⟨(some 4), none, .op (.mv (.t 156))⟩] [])
  .ret)))))
theorem c27 : codeOf Try.prog 27 = some (157, [(4, none)], fc27) := by kernel_rfl
def fc28 : FC := (.seq (.reg [⟨(some 5), none, .op (.box (.t 1))⟩,
  ⟨(some 7), none, .op (.box (.t 3))⟩,
  ⟨(some 8), none, .op (.mv (.v (.bool false)))⟩] [])
  (.seq (.seq (.reg [⟨(some 18), none, .op (.fad 0 (.t 7))⟩,
  ⟨(some 19), none, .op (.load none (.t 18))⟩,
  ⟨(some 20), none, .op (.bin .none .lss (.t 19) (.v (.int .u8 1)))⟩,
  ⟨(some 21), none, .op (.mv (.t 20))⟩,
  ⟨(some 22), some (21, false), .op (.fad 0 (.t 7))⟩,
  ⟨(some 23), some (21, false), .op (.load none (.t 22))⟩,
  ⟨(some 24), some (21, false), .op (.bin .none .gtr (.t 23) (.v (.int .u8 18)))⟩,
  ⟨(some 25), none, .op (.pick (.t 21) (.v (.bool true)) (.t 24))⟩] [])
  (.cond (.t 25)
  (.seq (.reg [⟨(some 8), none, .op (.mv (.v (.bool false)))⟩] [])
  .ret)
  .skip))
  (.seq (.seq (.reg [⟨(some 26), none, .op (.load (some 12) (.t 7))⟩,
  ⟨(some 27), none, .call 45 [(.t 26)]⟩,
  ⟨(some 28), none, .op (.len .sl (.t 27))⟩,
  ⟨(some 29), none, .op (.mv (.v (.int .i64 0)))⟩] [])
  (.block 0 (.loop (.seq (.reg [⟨(some 30), none, .op (.bin .none .lss (.t 29) (.t 28))⟩] [])
  (.seq (.cond (.t 30)
  .skip
  (.exit 0))
  (.seq (.block 1 (.seq (.reg [⟨(some 31), none, .op (.iad none none (.t 27) (.t 29))⟩,
  ⟨(some 32), none, .op (.load none (.t 31))⟩,
  ⟨(some 10), none, .op (.mv (.t 32))⟩] [])
  (.seq (.reg [⟨(some 33), none, .op (.mv (.t 10))⟩,
  ⟨(some 34), none, .op (.bin .none .lss (.t 33) (.v (.int .i64 0)))⟩,
  ⟨(some 35), none, .op (.mv (.t 34))⟩,
  ⟨(some 36), some (35, false), .op (.mv (.t 10))⟩,
  ⟨(some 37), some (35, false), .op (.fad 6 (.t 5))⟩,
  ⟨(some 38), some (35, false), .op (.load none (.t 37))⟩,
  ⟨(some 39), some (35, false), .op (.len .sl (.t 38))⟩,
  ⟨(some 40), some (35, false), .op (.bin .none .geq (.t 36) (.t 39))⟩,
  ⟨(some 41), none, .op (.pick (.t 35) (.v (.bool true)) (.t 40))⟩] [])
  (.cond (.t 41)
  (.seq (.reg [⟨(some 8), none, .op (.mv (.v (.bool false)))⟩] [])
  .ret)
  .skip))))
  (.reg [⟨(some 42), none, .op (.bin .none .add (.t 29) (.v (.int .i64 1)))⟩,
  ⟨(some 29), none, .op (.mv (.t 42))⟩] [])))))))
  (.seq (.reg [⟨(some 43), none, .op (.fad 0 (.t 7))⟩,
  ⟨(some 44), none, .op (.load none (.t 43))⟩,
  ⟨(some 45), none, .call 46 [(.t 44)]⟩,
  ⟨(some 11), none, .op (.mv (.t 45))⟩] [])
  (.seq (.reg [⟨(some 46), none, .op (.fad 2 (.t 7))⟩,
  ⟨(some 47), none, .op (.load none (.t 46))⟩,
  ⟨(some 48), none, .op (.fad 3 (.t 7))⟩,
  ⟨(some 49), none, .op (.load none (.t 48))⟩,
  ⟨(some 50), none, .op (.fad 4 (.t 7))⟩,
  ⟨(some 51), none, .op (.load none (.t 50))⟩,
  ⟨(some 52), none, .op (.fad 5 (.t 7))⟩,
  ⟨(some 53), none, .op (.load none (.t 52))⟩,
  ⟨(some 54), none, .op (.bsl none [(.int .i64 0)] 4 [(0, 1, (.t 47)), (1, 1, (.t 49)), (2, 1, (.t 51)), (3, 1, (.t 53))])⟩,
  ⟨(some 12), none, .op (.mv (.t 54))⟩] [])
  (.seq (.seq (.reg [⟨(some 55), none, .op (.mv (.t 12))⟩,
  ⟨(some 56), none, .op (.len .sl (.t 55))⟩,
  ⟨(some 57), none, .op (.mv (.v (.int .i64 0)))⟩] [])
  (.block 2 (.loop (.seq (.reg [⟨(some 58), none, .op (.bin .none .lss (.t 57) (.t 56))⟩] [])
  (.seq (.cond (.t 58)
  .skip
  (.exit 2))
  (.seq (.block 3 (.seq (.reg [⟨(some 59), none, .op (.mv (.t 57))⟩,
  ⟨(some 60), none, .op (.iad none none (.t 55) (.t 57))⟩,
  ⟨(some 61), none, .op (.load none (.t 60))⟩,
  ⟨(some 13), none, .op (.mv (.t 59))⟩,
  ⟨(some 14), none, .op (.mv (.t 61))⟩] [])
  (.seq (.reg [⟨(some 62), none, .op (.mv (.t 11))⟩,
  ⟨(some 63), none, .op (.mv (.t 13))⟩,
  ⟨(some 64), none, .op (.idxs (.t 62) (.t 63))⟩] [])
  (.block 4 (.seq (.reg [⟨(some 66), none, .op (.bin .none .eql (.t 64) (.v (.int .u8 110)))⟩,
  ⟨(some 65), none, .op (.mv (.t 66))⟩] [])
  (.cond (.t 65)
  (.seq (.reg [⟨(some 67), none, .op (.load (some 8) (.t 5))⟩,
  ⟨(some 68), none, .op (.mv (.t 2))⟩,
  ⟨(some 69), none, .op (.mv (.t 14))⟩,
  ⟨(some 70), none, .call 44 [(.t 67), (.t 68), (.t 69), (.v (.int .u8 0))]⟩,
  ⟨(some 71), none, .op (.un .not (.t 70))⟩] [])
  (.cond (.t 71)
  (.seq (.reg [⟨(some 8), none, .op (.mv (.v (.bool false)))⟩] [])
  .ret)
  .skip))
  (.seq (.reg [⟨(some 73), none, .op (.bin .none .eql (.t 64) (.v (.int .u8 112)))⟩,
  ⟨(some 72), none, .op (.mv (.t 73))⟩] [])
  (.cond (.t 72)
  (.seq (.reg [⟨(some 74), none, .op (.load (some 8) (.t 5))⟩,
  ⟨(some 75), none, .op (.mv (.t 2))⟩,
  ⟨(some 76), none, .op (.mv (.t 14))⟩,
  ⟨(some 77), none, .call 44 [(.t 74), (.t 75), (.t 76), (.v (.int .u8 1))]⟩,
  ⟨(some 78), none, .op (.un .not (.t 77))⟩] [])
  (.cond (.t 78)
  (.seq (.reg [⟨(some 8), none, .op (.mv (.v (.bool false)))⟩] [])
  .ret)
  .skip))
  .skip))))))))
  (.reg [⟨(some 79), none, .op (.bin .none .add (.t 57) (.v (.int .i64 1)))⟩,
  ⟨(some 57), none, .op (.mv (.t 79))⟩] [])))))))
  (.seq (.seq (.reg [⟨(some 80), none, .op (.fad 0 (.t 7))⟩,
  ⟨(some 81), none, .op (.load none (.t 80))⟩] [])
  (.block 5 (.seq (.reg [⟨(some 83), none, .op (.bin .none .eql (.t 81) (.v (.int .u8 2)))⟩,
  ⟨(some 82), none, .op (.mv (.t 83))⟩] [])
  (.cond (.t 82)
  (.seq (.reg [⟨(some 84), none, .op (.load (some 8) (.t 5))⟩,
  ⟨(some 85), none, .op (.mv (.t 2))⟩,
  ⟨(some 86), none, .op (.fad 2 (.t 7))⟩,
  ⟨(some 87), none, .op (.load none (.t 86))⟩,
  ⟨(some 88), none, .call 44 [(.t 84), (.t 85), (.t 87), (.v (.int .u8 0))]⟩,
  ⟨(some 89), none, .op (.mv (.t 88))⟩,
  ⟨(some 90), some (89, true), .op (.load (some 8) (.t 5))⟩,
  ⟨(some 91), some (89, true), .op (.mv (.t 2))⟩,
  ⟨(some 92), some (89, true), .op (.fad 4 (.t 7))⟩,
  ⟨(some 93), some (89, true), .op (.load none (.t 92))⟩,
  ⟨(some 94), some (89, true), .call 44 [(.t 90), (.t 91), (.t 93), (.v (.int .u8 0))]⟩,
  ⟨(some 95), none, .op (.pick (.t 89) (.t 94) (.v (.bool false)))⟩,
  ⟨(some 96), none, .op (.mv (.t 95))⟩,
  ⟨(some 97), some (96, false), .op (.load (some 8) (.t 5))⟩,
  ⟨(some 98), some (96, false), .op (.mv (.t 2))⟩,
  ⟨(some 99), some (96, false), .op (.fad 2 (.t 7))⟩,
  ⟨(some 100), some (96, false), .op (.load none (.t 99))⟩,
  ⟨(some 101), some (96, false), .call 44 [(.t 97), (.t 98), (.t 100), (.v (.int .u8 1))]⟩,
  ⟨(some 102), some (96, false), .op (.mv (.t 101))⟩,
  ⟨(some 103), some (102, true), .op (.load (some 8) (.t 5))⟩,
  ⟨(some 104), some (102, true), .op (.mv (.t 2))⟩,
  ⟨(some 105), some (102, true), .op (.fad 4 (.t 7))⟩,
  ⟨(some 106), some (102, true), .op (.load none (.t 105))⟩,
  ⟨(some 107), some (102, true), .call 44 [(.t 103), (.t 104), (.t 106), (.v (.int .u8 1))]⟩,
  ⟨(some 108), some (96, false), .op (.pick (.t 102) (.t 107) (.v (.bool false)))⟩,
  ⟨(some 109), none, .op (.pick (.t 96) (.v (.bool true)) (.t 108))⟩,
  ⟨(some 8), none, .op (.mv (.t 109))⟩] [])
  .ret)
  (.seq (.reg [⟨(some 111), none, .op (.bin .none .eql (.t 81) (.v (.int .u8 3)))⟩,
  ⟨(some 110), none, .op (.mv (.t 111))⟩] [])
  (.cond (.t 110)
  (.seq (.reg [⟨(some 112), none, .op (.fad 1 (.t 7))⟩,
  ⟨(some 113), none, .op (.load none (.t 112))⟩,
  ⟨(some 114), none, .op (.bin .none .geq (.t 113) (.v (.int .u8 7)))⟩,
  ⟨(some 115), none, .op (.mv (.t 114))⟩,
  ⟨(some 116), some (115, true), .op (.fad 1 (.t 7))⟩,
  ⟨(some 117), some (115, true), .op (.load none (.t 116))⟩,
  ⟨(some 118), some (115, true), .op (.bin .none .leq (.t 117) (.v (.int .u8 20)))⟩,
  ⟨(some 119), none, .op (.pick (.t 115) (.t 118) (.v (.bool false)))⟩,
  ⟨(some 8), none, .op (.mv (.t 119))⟩] [])
  .ret)
  (.seq (.seq (.reg [⟨(some 121), none, .op (.bin .none .eql (.t 81) (.v (.int .u8 4)))⟩,
  ⟨(some 120), none, .op (.mv (.t 121))⟩] [])
  (.cond (.t 120)
  .skip
  (.seq (.reg [⟨(some 122), none, .op (.bin .none .eql (.t 81) (.v (.int .u8 5)))⟩,
  ⟨(some 120), none, .op (.mv (.t 122))⟩] [])
  (.cond (.t 120)
  .skip
  (.reg [⟨(some 123), none, .op (.bin .none .eql (.t 81) (.v (.int .u8 6)))⟩,
  ⟨(some 120), none, .op (.mv (.t 123))⟩] [])))))
  (.cond (.t 120)
  (.seq (.reg [⟨(some 124), none, .op (.fad 7 (.t 7))⟩,
  ⟨(some 125), none, .op (.load none (.t 124))⟩,
  ⟨(some 126), none, .op (.bin .none .geq (.t 125) (.v (.int .i64 0)))⟩,
  ⟨(some 127), none, .op (.mv (.t 126))⟩,
  ⟨(some 128), some (127, true), .op (.fad 7 (.t 7))⟩,
  ⟨(some 129), some (127, true), .op (.load none (.t 128))⟩,
  ⟨(some 130), some (127, true), .op (.fad 2 (.t 5))⟩,
  ⟨(some 131), some (127, true), .op (.load none (.t 130))⟩,
  ⟨(some 132), some (127, true), .op (.bin .none .lss (.t 129) (.t 131))⟩,
  ⟨(some 133), none, .op (.pick (.t 127) (.t 132) (.v (.bool false)))⟩,
  ⟨(some 8), none, .op (.mv (.t 133))⟩] [])
  .ret)
  (.seq (.reg [⟨(some 135), none, .op (.bin .none .eql (.t 81) (.v (.int .u8 15)))⟩,
  ⟨(some 134), none, .op (.mv (.t 135))⟩] [])
  (.cond (.t 134)
  (.seq (.reg [⟨(some 136), none, .op (.fad 2 (.t 7))⟩,
  ⟨(some 137), none, .op (.load none (.t 136))⟩,
  ⟨(some 138), none, .op (.fad 3 (.t 7))⟩,
  ⟨(some 139), none, .op (.load none (.t 138))⟩,
  ⟨(some 140), none, .op (.bin .none .neq (.t 137) (.t 139))⟩,
  ⟨(some 8), none, .op (.mv (.t 140))⟩] [])
  .ret)
  (.seq (.reg [⟨(some 142), none, .op (.bin .none .eql (.t 81) (.v (.int .u8 12)))⟩,
  ⟨(some 141), none, .op (.mv (.t 142))⟩] [])
  (.cond (.t 141)
  (.seq (.seq (.reg [⟨(some 143), none, .op (.fad 4 (.t 7))⟩,
  ⟨(some 144), none, .op (.load none (.t 143))⟩,
  ⟨(some 145), none, .op (.bin .none .eql (.t 144) (.v (.int .i64 (-1))))⟩] [])
  (.cond (.t 145)
  (.seq (.reg [⟨(some 146), none, .op (.fad 4 (.t 5))⟩,
  ⟨(some 147), none, .op (.load none (.t 146))⟩,
  ⟨(some 148), none, .op (.un .not (.t 147))⟩,
  ⟨(some 8), none, .op (.mv (.t 148))⟩] [])
  .ret)
  .skip))
  (.seq (.reg [⟨(some 149), none, .op (.fad 4 (.t 5))⟩,
  ⟨(some 150), none, .op (.load none (.t 149))⟩,
  ⟨(some 151), none, .op (.mv (.t 150))⟩,
  ⟨(some 152), some (151, true), .op (.load (some 8) (.t 5))⟩,
  ⟨(some 153), some (151, true), .op (.mv (.t 2))⟩,
  ⟨(some 154), some (151, true), .op (.fad 4 (.t 7))⟩,
  ⟨(some 155), some (151, true), .op (.load none (.t 154))⟩,
  ⟨(some 156), some (151, true), .call 44 [(.t 152), (.t 153), (.t 155), (.v (.int .u8 0))]⟩,
  ⟨(some 157), none, .op (.pick (.t 151) (.t 156) (.v (.bool false)))⟩,
  ⟨(some 8), none, .op (.mv (.t 157))⟩] [])
  .ret))
  (.seq (.seq (.reg [⟨(some 159), none, .op (.bin .none .eql (.t 81) (.v (.int .u8 11)))⟩,
  ⟨(some 158), none, .op (.mv (.t 159))⟩] [])
  (.cond (.t 158)
  .skip
  (.reg [⟨(some 160), none, .op (.bin .none .eql (.t 81) (.v (.int .u8 13)))⟩,
  ⟨(some 158), none, .op (.mv (.t 160))⟩] [])))
  (.cond (.t 158)
  (.seq (.seq (.reg [⟨(some 161), none, .op (.fad 6 (.t 7))⟩,
  ⟨(some 162), none, .op (.load none (.t 161))⟩,
  ⟨(some 163), none, .op (.bin .none .lss (.t 162) (.v (.int .i64 0)))⟩,
  ⟨(some 164), none, .op (.mv (.t 163))⟩,
  ⟨(some 165), some (164, false), .op (.fad 6 (.t 7))⟩,
  ⟨(some 166), some (164, false), .op (.load none (.t 165))⟩,
  ⟨(some 167), some (164, false), .op (.mv (.t 0))⟩,
  ⟨(some 168), some (164, false), .op (.len .sl (.t 167))⟩,
  ⟨(some 169), some (164, false), .op (.bin .none .geq (.t 166) (.t 168))⟩,
  ⟨(some 170), none, .op (.pick (.t 164) (.v (.bool true)) (.t 169))⟩,
  ⟨(some 171), none, .op (.mv (.t 170))⟩,
  ⟨(some 172), some (171, false), .op (.fad 9 (.t 7))⟩,
  ⟨(some 173), some (171, false), .op (.load none (.t 172))⟩,
  ⟨(some 174), some (171, false), .op (.len .sl (.t 173))⟩,
  ⟨(some 175), some (171, false), .op (.mv (.t 0))⟩,
  ⟨(some 176), some (171, false), .op (.fad 6 (.t 7))⟩,
  ⟨(some 177), some (171, false), .op (.load none (.t 176))⟩,
  ⟨(some 178), some (171, false), .op (.iad none (some 8) (.t 175) (.t 177))⟩,
  ⟨(some 179), some (171, false), .op (.fad 0 (.t 178))⟩,
  ⟨(some 180), some (171, false), .op (.load none (.t 179))⟩,
  ⟨(some 181), some (171, false), .op (.len .sl (.t 180))⟩,
  ⟨(some 182), some (171, false), .op (.bin .none .neq (.t 174) (.t 181))⟩,
  ⟨(some 183), none, .op (.pick (.t 171) (.v (.bool true)) (.t 182))⟩] [])
  (.cond (.t 183)
  (.seq (.reg [⟨(some 8), none, .op (.mv (.v (.bool false)))⟩] [])
  .ret)
  .skip))
  (.seq (.reg [⟨(some 184), none, .op (.mv (.t 0))⟩,
  ⟨(some 185), none, .op (.fad 6 (.t 7))⟩,
  ⟨(some 186), none, .op (.load none (.t 185))⟩,
  ⟨(some 187), none, .op (.iad none (some 8) (.t 184) (.t 186))⟩,
  ⟨(some 188), none, .op (.load (some 8) (.t 187))⟩,
  ⟨(some 15), none, .op (.new [.nils, .nils, (.int .i64 0), .nils, (.bool false), (.int .i64 0), .nils, (.int .i64 0)])⟩,
  ⟨none, none, .op (.store 8 (.t 15) (.t 188))⟩] [])
  (.seq (.seq (.reg [⟨(some 189), none, .op (.fad 9 (.t 7))⟩,
  ⟨(some 190), none, .op (.load none (.t 189))⟩,
  ⟨(some 191), none, .op (.len .sl (.t 190))⟩,
  ⟨(some 192), none, .op (.mv (.v (.int .i64 0)))⟩] [])
  (.block 6 (.loop (.seq (.reg [⟨(some 193), none, .op (.bin .none .lss (.t 192) (.t 191))⟩] [])
  (.seq (.cond (.t 193)
  .skip
  (.exit 6))
  (.seq (.block 7 (.seq (.reg [⟨(some 194), none, .op (.mv (.t 192))⟩,
  ⟨(some 195), none, .op (.iad none none (.t 190) (.t 192))⟩,
  ⟨(some 196), none, .op (.load none (.t 195))⟩,
  ⟨(some 16), none, .op (.mv (.t 194))⟩,
  ⟨(some 17), none, .op (.mv (.t 196))⟩] [])
  (.seq (.reg [⟨(some 197), none, .op (.mv (.t 2))⟩,
  ⟨(some 198), none, .op (.mv (.t 197))⟩,
  ⟨(some 199), some (198, true), .op (.mv (.t 17))⟩,
  ⟨(some 200), some (198, true), .op (.mv (.t 16))⟩,
  ⟨(some 201), some (198, true), .op (.bin .none .neq (.t 199) (.t 200))⟩,
  ⟨(some 202), none, .op (.pick (.t 198) (.t 201) (.v (.bool false)))⟩,
  ⟨(some 203), none, .op (.mv (.t 202))⟩,
  ⟨(some 204), some (203, false), .op (.mv (.t 2))⟩,
  ⟨(some 205), some (203, false), .op (.un .not (.t 204))⟩,
  ⟨(some 206), some (203, false), .op (.mv (.t 205))⟩,
  ⟨(some 207), some (206, true), .op (.load (some 8) (.t 5))⟩,
  ⟨(some 208), some (206, true), .op (.mv (.t 17))⟩,
  ⟨(some 209), some (206, true), .op (.fad 1 (.t 15))⟩,
  ⟨(some 210), some (206, true), .op (.load none (.t 209))⟩,
  ⟨(some 211), some (206, true), .op (.fad 0 (.t 15))⟩,
  ⟨(some 212), some (206, true), .op (.load none (.t 211))⟩,
  ⟨(some 213), some (206, true), .op (.mv (.t 16))⟩,
  ⟨(some 214), some (206, true), .op (.iad none none (.t 212) (.t 213))⟩,
  ⟨(some 215), some (206, true), .op (.load none (.t 214))⟩,
  ⟨(some 216), some (206, true), .op (.iad none none (.t 210) (.t 215))⟩,
  ⟨(some 217), some (206, true), .op (.load none (.t 216))⟩,
  ⟨(some 218), some (206, true), .call 44 [(.t 207), (.v (.bool false)), (.t 208), (.t 217)]⟩,
  ⟨(some 219), some (206, true), .op (.un .not (.t 218))⟩,
  ⟨(some 220), some (203, false), .op (.pick (.t 206) (.t 219) (.v (.bool false)))⟩,
  ⟨(some 221), none, .op (.pick (.t 203) (.v (.bool true)) (.t 220))⟩] [])
  (.cond (.t 221)
  (.seq (.reg [⟨(some 8), none, .op (.mv (.v (.bool false)))⟩] [])
  .ret)
  .skip))))
  (.reg [⟨(some 222), none, .op (.bin .none .add (.t 192) (.v (.int .i64 1)))⟩,
  ⟨(some 192), none, .op (.mv (.t 222))⟩] [])))))))
  (.seq (.reg [⟨(some 223), none, .op (.fad 0 (.t 7))⟩,
  ⟨(some 224), none, .op (.load none (.t 223))⟩,
  ⟨(some 225), none, .op (.bin .none .eql (.t 224) (.v (.int .u8 11)))⟩,
  ⟨(some 226), none, .op (.mv (.t 225))⟩,
  ⟨(some 227), some (226, true), .op (.fad 2 (.t 7))⟩,
  ⟨(some 228), some (226, true), .op (.load none (.t 227))⟩,
  ⟨(some 229), some (226, true), .op (.bin .none .neq (.t 228) (.v (.int .i64 (-1))))⟩,
  ⟨(some 230), none, .op (.pick (.t 226) (.t 229) (.v (.bool false)))⟩] [])
  (.cond (.t 230)
  (.seq (.reg [⟨(some 231), none, .op (.fad 4 (.t 15))⟩,
  ⟨(some 232), none, .op (.load none (.t 231))⟩,
  ⟨(some 233), none, .op (.mv (.t 232))⟩,
  ⟨(some 234), some (233, true), .op (.load (some 8) (.t 5))⟩,
  ⟨(some 235), some (233, true), .op (.mv (.t 2))⟩,
  ⟨(some 236), some (233, true), .op (.fad 2 (.t 7))⟩,
  ⟨(some 237), some (233, true), .op (.load none (.t 236))⟩,
  ⟨(some 238), some (233, true), .call 44 [(.t 234), (.t 235), (.t 237), (.v (.int .u8 0))]⟩,
  ⟨(some 239), none, .op (.pick (.t 233) (.t 238) (.v (.bool false)))⟩,
  ⟨(some 240), none, .op (.mv (.t 239))⟩,
  ⟨(some 241), some (240, true), .op (.mv (.t 2))⟩,
  ⟨(some 242), some (240, true), .op (.un .not (.t 241))⟩,
  ⟨(some 243), some (240, true), .op (.mv (.t 242))⟩,
  ⟨(some 244), some (243, false), .op (.fad 2 (.t 7))⟩,
  ⟨(some 245), some (243, false), .op (.load none (.t 244))⟩,
  ⟨(some 246), some (243, false), .op (.bin .none .eql (.t 245) (.v (.int .i64 0)))⟩,
  ⟨(some 247), some (240, true), .op (.pick (.t 243) (.v (.bool true)) (.t 246))⟩,
  ⟨(some 248), none, .op (.pick (.t 240) (.t 247) (.v (.bool false)))⟩,
  ⟨(some 8), none, .op (.mv (.t 248))⟩] [])
  .ret)
  .skip)))))
  .skip))))))))))))))
  (.seq (.reg [⟨(some 8), none, .op (.mv (.v (.bool true)))⟩] [])
  .ret))))))))
theorem c28 : codeOf Try.prog 28 = some (249, [(8, none)], fc28) := by kernel_rfl
def fc29 : FC := (.seq (.reg [⟨(some 11), none, .op (.mv (.t 0))⟩,
  ⟨(some 12), none, .op (.nchk (.t 11))⟩,
  ⟨(some 13), none, .op (.fad 0 (.t 12))⟩,
  ⟨(some 14), none, .op (.fad 0 (.t 13))⟩,
  ⟨(some 15), none, .op (.load none (.t 14))⟩,
  ⟨(some 16), none, .op (.mv (.t 1))⟩,
  ⟨(some 17), none, .op (.iad none (some 8) (.t 15) (.t 16))⟩,
  ⟨(some 18), none, .op (.load (some 8) (.t 17))⟩,
  ⟨(some 8), none, .op (.new [.nils, .nils, (.int .i64 0), .nils, (.bool false), (.int .i64 0), .nils, (.int .i64 0)])⟩,
  ⟨none, none, .op (.store 8 (.t 8) (.t 18))⟩] [])
  (.seq (.reg [⟨(some 19), none, .op (.mv (.t 0))⟩,
  ⟨(some 20), none, .op (.mv (.t 0))⟩,
  ⟨(some 21), none, .op (.nchk (.t 20))⟩,
  ⟨(some 22), none, .op (.fad 3 (.t 21))⟩,
  ⟨(some 23), none, .op (.load none (.t 22))⟩,
  ⟨(some 24), none, .op (.mv (.t 1))⟩,
  ⟨(some 25), none, .op (.fad 7 (.t 8))⟩,
  ⟨(some 26), none, .op (.load none (.t 25))⟩,
  ⟨(some 27), none, .op (.mv (.t 3))⟩,
  ⟨(some 28), none, .op (.fad 1 (.t 8))⟩,
  ⟨(some 29), none, .op (.load none (.t 28))⟩,
  ⟨(some 30), none, .op (.len .sl (.t 29))⟩,
  ⟨(some 31), none, .op (.mksl none 8 [(.int .u64 0)] (.t 30) (.t 30))⟩,
  ⟨(some 32), none, .op (.fad 2 (.t 8))⟩,
  ⟨(some 33), none, .op (.load none (.t 32))⟩,
  ⟨(some 34), none, .op (.mksl none 8 [(.int .u64 0)] (.t 33) (.t 33))⟩,
  ⟨(some 35), none, .op (.build [(.int .i64 0), (.int .i64 0), (.int .i64 0), .nils, .nils, .nils, (.bool false), (.int .u64 0), .nils] [(0, 1, (.t 24)), (1, 1, (.t 26)), (2, 1, (.t 27)), (3, 1, (.t 31)), (4, 1, (.t 34))])⟩,
  ⟨(some 36), none, .op (.bsl (some 9) [(.int .i64 0), (.int .i64 0), (.int .i64 0), .nils, .nils, .nils, (.bool false), (.int .u64 0), .nils] 1 [(0, 9, (.t 35))])⟩,
  ⟨(some 37), none, .op (.app (some 9) 136 (.t 23) (.t 36))⟩,
  ⟨(some 38), none, .op (.nchk (.t 19))⟩,
  ⟨(some 39), none, .op (.fad 3 (.t 38))⟩,
  ⟨none, none, .op (.store 1 (.t 39) (.t 37))⟩] [(4, 12), (7, 12), (12, 14), (4, 15), (7, 15), (10, 15), (12, 15), (4, 17)])
  (.seq (.seq (.reg [⟨(some 40), none, .op (.mv (.t 0))⟩,
  ⟨(some 41), none, .op (.nchk (.t 40))⟩,
  ⟨(some 42), none, .op (.fad 3 (.t 41))⟩,
  ⟨(some 43), none, .op (.load none (.t 42))⟩,
  ⟨(some 44), none, .op (.len .sl (.t 43))⟩,
  ⟨(some 45), none, .op (.mv (.t 0))⟩,
  ⟨(some 46), none, .op (.nchk (.t 45))⟩,
  ⟨(some 47), none, .op (.fad 10 (.t 46))⟩,
  ⟨(some 48), none, .op (.load none (.t 47))⟩,
  ⟨(some 49), none, .op (.bin .none .gtr (.t 44) (.t 48))⟩] [])
  (.cond (.t 49)
  (.reg [⟨(some 50), none, .op (.mv (.t 0))⟩,
  ⟨(some 51), none, .op (.mv (.t 0))⟩,
  ⟨(some 52), none, .op (.nchk (.t 51))⟩,
  ⟨(some 53), none, .op (.fad 3 (.t 52))⟩,
  ⟨(some 54), none, .op (.load none (.t 53))⟩,
  ⟨(some 55), none, .op (.len .sl (.t 54))⟩,
  ⟨(some 56), none, .op (.nchk (.t 50))⟩,
  ⟨(some 57), none, .op (.fad 10 (.t 56))⟩,
  ⟨none, none, .op (.store 1 (.t 57) (.t 55))⟩] [])
  .skip))
  (.seq (.reg [⟨(some 58), none, .op (.fad 0 (.t 8))⟩,
  ⟨(some 59), none, .op (.load none (.t 58))⟩,
  ⟨(some 60), none, .op (.len .sl (.t 59))⟩,
  ⟨(some 61), none, .op (.mv (.v (.int .i64 0)))⟩] [])
  (.block 0 (.loop (.seq (.reg [⟨(some 62), none, .op (.bin .none .lss (.t 61) (.t 60))⟩] [])
  (.seq (.cond (.t 62)
  .skip
  (.exit 0))
  (.seq (.block 1 (.seq (.reg [⟨(some 63), none, .op (.mv (.t 61))⟩,
  ⟨(some 64), none, .op (.iad none none (.t 59) (.t 61))⟩,
  ⟨(some 65), none, .op (.load none (.t 64))⟩,
  ⟨(some 9), none, .op (.mv (.t 63))⟩,
  ⟨(some 10), none, .op (.mv (.t 65))⟩] [])
  (.seq (.reg [⟨(some 66), none, .op (.mv (.t 0))⟩,
  ⟨(some 67), none, .op (.mv (.t 10))⟩,
  ⟨(some 68), none, .op (.mv (.t 2))⟩,
  ⟨(some 69), none, .op (.mv (.t 9))⟩,
  ⟨(some 70), none, .op (.iad none none (.t 68) (.t 69))⟩,
  ⟨(some 71), none, .op (.load none (.t 70))⟩,
  ⟨(some 72), none, .call 47 [(.t 66), (.t 67), (.t 71)]⟩] [])
  (.seq (.reg [⟨(some 73), none, .op (.fad 3 (.t 8))⟩,
  ⟨(some 74), none, .op (.load none (.t 73))⟩,
  ⟨(some 75), none, .op (.mv (.t 9))⟩,
  ⟨(some 76), none, .op (.iad none none (.t 74) (.t 75))⟩,
  ⟨(some 77), none, .op (.load none (.t 76))⟩,
  ⟨(some 78), none, .op (.bin .none .geq (.t 77) (.v (.int .i64 0)))⟩] [])
  (.cond (.t 78)
  (.reg [⟨(some 79), none, .op (.mv (.t 0))⟩,
  ⟨(some 80), none, .op (.nchk (.t 79))⟩,
  ⟨(some 81), none, .op (.fad 3 (.t 80))⟩,
  ⟨(some 82), none, .op (.load none (.t 81))⟩,
  ⟨(some 83), none, .op (.mv (.t 0))⟩,
  ⟨(some 84), none, .op (.nchk (.t 83))⟩,
  ⟨(some 85), none, .op (.fad 3 (.t 84))⟩,
  ⟨(some 86), none, .op (.load none (.t 85))⟩,
  ⟨(some 87), none, .op (.len .sl (.t 86))⟩,
  ⟨(some 88), none, .op (.bin .none .sub (.t 87) (.v (.int .i64 1)))⟩,
  ⟨(some 89), none, .op (.iad none (some 9) (.t 82) (.t 88))⟩,
  ⟨(some 90), none, .op (.fad 4 (.t 89))⟩,
  ⟨(some 91), none, .op (.load none (.t 90))⟩,
  ⟨(some 92), none, .op (.fad 3 (.t 8))⟩,
  ⟨(some 93), none, .op (.load none (.t 92))⟩,
  ⟨(some 94), none, .op (.mv (.t 9))⟩,
  ⟨(some 95), none, .op (.iad none none (.t 93) (.t 94))⟩,
  ⟨(some 96), none, .op (.load none (.t 95))⟩,
  ⟨(some 97), none, .op (.mv (.t 2))⟩,
  ⟨(some 98), none, .op (.mv (.t 9))⟩,
  ⟨(some 99), none, .op (.iad none none (.t 97) (.t 98))⟩,
  ⟨(some 100), none, .op (.load none (.t 99))⟩,
  ⟨(some 101), none, .op (.iad none none (.t 91) (.t 96))⟩,
  ⟨none, none, .op (.store 1 (.t 101) (.t 100))⟩] [])
  .skip)))))
  (.reg [⟨(some 102), none, .op (.bin .none .add (.t 61) (.v (.int .i64 1)))⟩,
  ⟨(some 61), none, .op (.mv (.t 102))⟩] []))))))))))
theorem c29 : codeOf Try.prog 29 = some (103, [], fc29) := by kernel_rfl
def fc30 : FC := (.seq (.reg [⟨(some 14), none, .op (.mv (.t 0))⟩,
  ⟨(some 15), none, .op (.nchk (.t 14))⟩,
  ⟨(some 16), none, .op (.fad 9 (.t 15))⟩,
  ⟨(some 17), none, .op (.load none (.t 16))⟩,
  ⟨(some 18), none, .op (.bin .none .add (.t 17) (.v (.int .i64 1)))⟩,
  ⟨(some 19), none, .op (.nchk (.t 14))⟩,
  ⟨(some 20), none, .op (.fad 9 (.t 19))⟩,
  ⟨none, none, .op (.store 1 (.t 20) (.t 18))⟩] [])
  (.seq (.reg [⟨(some 21), none, .op (.mv (.t 0))⟩,
  ⟨(some 22), none, .op (.nchk (.t 21))⟩,
  ⟨(some 23), none, .op (.fad 3 (.t 22))⟩,
  ⟨(some 24), none, .op (.load none (.t 23))⟩,
  ⟨(some 25), none, .op (.mv (.t 0))⟩,
  ⟨(some 26), none, .op (.nchk (.t 25))⟩,
  ⟨(some 27), none, .op (.fad 3 (.t 26))⟩,
  ⟨(some 28), none, .op (.load none (.t 27))⟩,
  ⟨(some 29), none, .op (.len .sl (.t 28))⟩,
  ⟨(some 30), none, .op (.bin .none .sub (.t 29) (.v (.int .i64 1)))⟩,
  ⟨(some 31), none, .op (.iad none (some 9) (.t 24) (.t 30))⟩,
  ⟨(some 2), none, .op (.mv (.t 31))⟩] [])
  (.seq (.reg [⟨(some 32), none, .op (.mv (.t 0))⟩,
  ⟨(some 33), none, .op (.nchk (.t 32))⟩,
  ⟨(some 34), none, .op (.fad 0 (.t 33))⟩,
  ⟨(some 35), none, .op (.fad 0 (.t 34))⟩,
  ⟨(some 36), none, .op (.load none (.t 35))⟩,
  ⟨(some 37), none, .op (.mv (.t 2))⟩,
  ⟨(some 38), none, .op (.nchk (.t 37))⟩,
  ⟨(some 39), none, .op (.fad 0 (.t 38))⟩,
  ⟨(some 40), none, .op (.load none (.t 39))⟩,
  ⟨(some 41), none, .op (.iad none (some 8) (.t 36) (.t 40))⟩,
  ⟨(some 42), none, .op (.fad 6 (.t 41))⟩,
  ⟨(some 43), none, .op (.load none (.t 42))⟩,
  ⟨(some 44), none, .op (.mv (.t 2))⟩,
  ⟨(some 45), none, .op (.nchk (.t 44))⟩,
  ⟨(some 46), none, .op (.fad 1 (.t 45))⟩,
  ⟨(some 47), none, .op (.load none (.t 46))⟩,
  ⟨(some 48), none, .op (.iad none (some 12) (.t 43) (.t 47))⟩,
  ⟨(some 49), none, .op (.load (some 12) (.t 48))⟩,
  ⟨(some 3), none, .op (.new [(.int .u8 0), (.int .u8 0), (.int .i64 0), (.int .i64 0), (.int .i64 0), (.int .i64 0), (.int .i64 0), (.int .i64 0), (.int .u64 0), .nils, (.int .i64 0), (.int .i64 0)])⟩,
  ⟨none, none, .op (.store 12 (.t 3) (.t 49))⟩] [(4, 18), (8, 18), (11, 18), (15, 18), (17, 18)])
  (.seq (.reg [⟨(some 50), none, .op (.fad 10 (.t 3))⟩,
  ⟨(some 51), none, .op (.load none (.t 50))⟩,
  ⟨(some 4), none, .op (.mv (.t 51))⟩] [])
  (.seq (.seq (.reg [⟨(some 52), none, .op (.fad 0 (.t 3))⟩,
  ⟨(some 53), none, .op (.load none (.t 52))⟩] [])
  (.block 0 (.seq (.reg [⟨(some 63), none, .op (.bin .none .eql (.t 53) (.v (.int .u8 1)))⟩,
  ⟨(some 62), none, .op (.mv (.t 63))⟩] [])
  (.cond (.t 62)
  (.reg [⟨(some 64), none, .op (.mv (.t 0))⟩,
  ⟨(some 65), none, .op (.fad 2 (.t 3))⟩,
  ⟨(some 66), none, .op (.load none (.t 65))⟩,
  ⟨(some 67), none, .op (.fad 8 (.t 3))⟩,
  ⟨(some 68), none, .op (.load none (.t 67))⟩,
  ⟨(some 69), none, .call 47 [(.t 64), (.t 66), (.t 68)]⟩] [])
  (.seq (.reg [⟨(some 71), none, .op (.bin .none .eql (.t 53) (.v (.int .u8 2)))⟩,
  ⟨(some 70), none, .op (.mv (.t 71))⟩] [])
  (.cond (.t 70)
  (.reg [⟨(some 72), none, .op (.mv (.t 0))⟩,
  ⟨(some 73), none, .op (.fad 2 (.t 3))⟩,
  ⟨(some 74), none, .op (.load none (.t 73))⟩,
  ⟨(some 75), none, .op (.mv (.t 0))⟩,
  ⟨(some 76), none, .op (.fad 4 (.t 3))⟩,
  ⟨(some 77), none, .op (.load none (.t 76))⟩,
  ⟨(some 78), none, .call 48 [(.t 75), (.t 77)]⟩,
  ⟨(some 79), none, .call 47 [(.t 72), (.t 74), (.t 78)]⟩] [(2, 6)])
  (.seq (.reg [⟨(some 81), none, .op (.bin .none .eql (.t 53) (.v (.int .u8 3)))⟩,
  ⟨(some 80), none, .op (.mv (.t 81))⟩] [])
  (.cond (.t 80)
  (.seq (.reg [⟨(some 83), none, .op (.fad 1 (.t 3))⟩,
  ⟨(some 84), none, .op (.load none (.t 83))⟩,
  ⟨(some 85), none, .op (.mv (.t 0))⟩,
  ⟨(some 86), none, .op (.fad 4 (.t 3))⟩,
  ⟨(some 87), none, .op (.load none (.t 86))⟩,
  ⟨(some 88), none, .call 48 [(.t 85), (.t 87)]⟩,
  ⟨(some 89), none, .op (.mv (.t 0))⟩,
  ⟨(some 90), none, .op (.fad 5 (.t 3))⟩,
  ⟨(some 91), none, .op (.load none (.t 90))⟩,
  ⟨(some 92), none, .call 48 [(.t 89), (.t 91)]⟩,
  ⟨(some 93), none, .call 49 [(.t 84), (.t 88), (.t 92)]⟩,
  ⟨(some 82), none, .op (.mv (.t 93))⟩,
  ⟨(some 94), none, .op (.ext 0 (.t 82))⟩,
  ⟨(some 95), none, .op (.ext 1 (.t 82))⟩,
  ⟨(some 5), none, .op (.mv (.t 94))⟩,
  ⟨(some 6), none, .op (.mv (.t 95))⟩] [(1, 5), (5, 8), (1, 9)])
  (.seq (.seq (.reg [⟨(some 96), none, .op (.mv (.t 6))⟩,
  ⟨(some 97), none, .op (.bin .none .neq (.t 96) (.v (.int .i64 0)))⟩] [])
  (.cond (.t 97)
  (.seq (.reg [⟨(some 98), none, .op (.mv (.t 0))⟩,
  ⟨(some 99), none, .call 50 [(.t 98), (.v (.int .u64 18446744073709551615))]⟩] [])
  .ret)
  .skip))
  (.reg [⟨(some 100), none, .op (.mv (.t 0))⟩,
  ⟨(some 101), none, .op (.fad 2 (.t 3))⟩,
  ⟨(some 102), none, .op (.load none (.t 101))⟩,
  ⟨(some 103), none, .op (.mv (.t 5))⟩,
  ⟨(some 104), none, .call 47 [(.t 100), (.t 102), (.t 103)]⟩] [])))
  (.seq (.reg [⟨(some 106), none, .op (.bin .none .eql (.t 53) (.v (.int .u8 4)))⟩,
  ⟨(some 105), none, .op (.mv (.t 106))⟩] [])
  (.cond (.t 105)
  (.reg [⟨(some 107), none, .op (.mv (.t 0))⟩,
  ⟨(some 108), none, .op (.fad 2 (.t 3))⟩,
  ⟨(some 109), none, .op (.load none (.t 108))⟩,
  ⟨(some 110), none, .op (.mv (.t 2))⟩,
  ⟨(some 111), none, .op (.nchk (.t 110))⟩,
  ⟨(some 112), none, .op (.fad 4 (.t 111))⟩,
  ⟨(some 113), none, .op (.load none (.t 112))⟩,
  ⟨(some 114), none, .op (.fad 7 (.t 3))⟩,
  ⟨(some 115), none, .op (.load none (.t 114))⟩,
  ⟨(some 116), none, .op (.iad none none (.t 113) (.t 115))⟩,
  ⟨(some 117), none, .op (.load none (.t 116))⟩,
  ⟨(some 118), none, .call 47 [(.t 107), (.t 109), (.t 117)]⟩] [])
  (.seq (.reg [⟨(some 120), none, .op (.bin .none .eql (.t 53) (.v (.int .u8 5)))⟩,
  ⟨(some 119), none, .op (.mv (.t 120))⟩] [])
  (.cond (.t 119)
  (.reg [⟨(some 121), none, .op (.mv (.t 2))⟩,
  ⟨(some 122), none, .op (.nchk (.t 121))⟩,
  ⟨(some 123), none, .op (.fad 4 (.t 122))⟩,
  ⟨(some 124), none, .op (.load none (.t 123))⟩,
  ⟨(some 125), none, .op (.fad 7 (.t 3))⟩,
  ⟨(some 126), none, .op (.load none (.t 125))⟩,
  ⟨(some 127), none, .op (.mv (.t 0))⟩,
  ⟨(some 128), none, .op (.fad 4 (.t 3))⟩,
  ⟨(some 129), none, .op (.load none (.t 128))⟩,
  ⟨(some 130), none, .call 48 [(.t 127), (.t 129)]⟩,
  ⟨(some 131), none, .op (.iad none none (.t 124) (.t 126))⟩,
  ⟨none, none, .op (.store 1 (.t 131) (.t 130))⟩] [(3, 9), (5, 9)])
  (.seq (.reg [⟨(some 133), none, .op (.bin .none .eql (.t 53) (.v (.int .u8 6)))⟩,
  ⟨(some 132), none, .op (.mv (.t 133))⟩] [])
  (.cond (.t 132)
  (.reg [⟨(some 134), none, .op (.mv (.t 0))⟩,
  ⟨(some 135), none, .op (.fad 2 (.t 3))⟩,
  ⟨(some 136), none, .op (.load none (.t 135))⟩,
  ⟨(some 137), none, .op (.mv (.t 0))⟩,
  ⟨(some 138), none, .op (.nchk (.t 137))⟩,
  ⟨(some 139), none, .op (.fad 3 (.t 138))⟩,
  ⟨(some 140), none, .op (.load none (.t 139))⟩,
  ⟨(some 141), none, .op (.len .sl (.t 140))⟩,
  ⟨(some 142), none, .op (.bin .none .sub (.t 141) (.v (.int .i64 1)))⟩,
  ⟨(some 143), none, .op (.cint .u64 (.t 142))⟩,
  ⟨(some 144), none, .op (.bin .none .mul (.t 143) (.v (.int .u64 65536)))⟩,
  ⟨(some 145), none, .op (.bin .none .add (.v (.int .u64 4611686018427387904)) (.t 144))⟩,
  ⟨(some 146), none, .op (.fad 7 (.t 3))⟩,
  ⟨(some 147), none, .op (.load none (.t 146))⟩,
  ⟨(some 148), none, .op (.cint .u64 (.t 147))⟩,
  ⟨(some 149), none, .op (.bin .none .add (.t 145) (.t 148))⟩,
  ⟨(some 150), none, .call 47 [(.t 134), (.t 136), (.t 149)]⟩] [])
  (.seq (.seq (.reg [⟨(some 152), none, .op (.bin .none .eql (.t 53) (.v (.int .u8 7)))⟩,
  ⟨(some 151), none, .op (.mv (.t 152))⟩] [])
  (.cond (.t 151)
  .skip
  (.reg [⟨(some 153), none, .op (.bin .none .eql (.t 53) (.v (.int .u8 8)))⟩,
  ⟨(some 151), none, .op (.mv (.t 153))⟩] [])))
  (.cond (.t 151)
  (.seq (.reg [⟨(some 155), none, .op (.mv (.t 0))⟩,
  ⟨(some 156), none, .op (.mv (.t 0))⟩,
  ⟨(some 157), none, .op (.fad 4 (.t 3))⟩,
  ⟨(some 158), none, .op (.load none (.t 157))⟩,
  ⟨(some 159), none, .call 48 [(.t 156), (.t 158)]⟩,
  ⟨(some 160), none, .call 51 [(.t 155), (.t 159)]⟩,
  ⟨(some 154), none, .op (.mv (.t 160))⟩,
  ⟨(some 161), none, .op (.ext 0 (.t 154))⟩,
  ⟨(some 162), none, .op (.ext 1 (.t 154))⟩,
  ⟨(some 7), none, .op (.mv (.t 161))⟩,
  ⟨(some 8), none, .op (.mv (.t 162))⟩] [])
  (.seq (.seq (.reg [⟨(some 163), none, .op (.mv (.t 7))⟩,
  ⟨(some 164), none, .op (.bin .none .lss (.t 163) (.v (.int .i64 0)))⟩] [])
  (.cond (.t 164)
  (.seq (.reg [⟨(some 165), none, .op (.mv (.t 0))⟩,
  ⟨(some 166), none, .call 50 [(.t 165), (.v (.int .u64 18446744073709551614))]⟩] [])
  .ret)
  .skip))
  (.seq (.reg [⟨(some 167), none, .op (.fad 0 (.t 3))⟩,
  ⟨(some 168), none, .op (.load none (.t 167))⟩,
  ⟨(some 169), none, .op (.bin .none .eql (.t 168) (.v (.int .u8 7)))⟩] [])
  (.cond (.t 169)
  (.reg [⟨(some 170), none, .op (.mv (.t 0))⟩,
  ⟨(some 171), none, .op (.fad 2 (.t 3))⟩,
  ⟨(some 172), none, .op (.load none (.t 171))⟩,
  ⟨(some 173), none, .op (.mv (.t 0))⟩,
  ⟨(some 174), none, .op (.nchk (.t 173))⟩,
  ⟨(some 175), none, .op (.fad 3 (.t 174))⟩,
  ⟨(some 176), none, .op (.load none (.t 175))⟩,
  ⟨(some 177), none, .op (.mv (.t 7))⟩,
  ⟨(some 178), none, .op (.iad none (some 9) (.t 176) (.t 177))⟩,
  ⟨(some 179), none, .op (.fad 4 (.t 178))⟩,
  ⟨(some 180), none, .op (.load none (.t 179))⟩,
  ⟨(some 181), none, .op (.mv (.t 8))⟩,
  ⟨(some 182), none, .op (.iad none none (.t 180) (.t 181))⟩,
  ⟨(some 183), none, .op (.load none (.t 182))⟩,
  ⟨(some 184), none, .call 47 [(.t 170), (.t 172), (.t 183)]⟩] [])
  (.reg [⟨(some 185), none, .op (.mv (.t 0))⟩,
  ⟨(some 186), none, .op (.nchk (.t 185))⟩,
  ⟨(some 187), none, .op (.fad 3 (.t 186))⟩,
  ⟨(some 188), none, .op (.load none (.t 187))⟩,
  ⟨(some 189), none, .op (.mv (.t 7))⟩,
  ⟨(some 190), none, .op (.iad none (some 9) (.t 188) (.t 189))⟩,
  ⟨(some 191), none, .op (.fad 4 (.t 190))⟩,
  ⟨(some 192), none, .op (.load none (.t 191))⟩,
  ⟨(some 193), none, .op (.mv (.t 8))⟩,
  ⟨(some 194), none, .op (.mv (.t 0))⟩,
  ⟨(some 195), none, .op (.fad 5 (.t 3))⟩,
  ⟨(some 196), none, .op (.load none (.t 195))⟩,
  ⟨(some 197), none, .call 48 [(.t 194), (.t 196)]⟩,
  ⟨(some 198), none, .op (.iad none none (.t 192) (.t 193))⟩,
  ⟨none, none, .op (.store 1 (.t 198) (.t 197))⟩] [(3, 12), (7, 12)])))))
  (.seq (.reg [⟨(some 200), none, .op (.bin .none .eql (.t 53) (.v (.int .u8 9)))⟩,
  ⟨(some 199), none, .op (.mv (.t 200))⟩] [])
  (.cond (.t 199)
  (.seq (.reg [⟨(some 201), none, .op (.mv (.t 0))⟩,
  ⟨(some 202), none, .op (.fad 4 (.t 3))⟩,
  ⟨(some 203), none, .op (.load none (.t 202))⟩,
  ⟨(some 204), none, .call 48 [(.t 201), (.t 203)]⟩,
  ⟨(some 205), none, .op (.bin .none .eql (.t 204) (.v (.int .u64 0)))⟩] [])
  (.cond (.t 205)
  (.reg [⟨(some 206), none, .op (.fad 11 (.t 3))⟩,
  ⟨(some 207), none, .op (.load none (.t 206))⟩,
  ⟨(some 4), none, .op (.mv (.t 207))⟩] [])
  .skip))
  (.seq (.reg [⟨(some 209), none, .op (.bin .none .eql (.t 53) (.v (.int .u8 10)))⟩,
  ⟨(some 208), none, .op (.mv (.t 209))⟩] [])
  (.cond (.t 208)
  .skip
  (.seq (.reg [⟨(some 211), none, .op (.bin .none .eql (.t 53) (.v (.int .u8 11)))⟩,
  ⟨(some 210), none, .op (.mv (.t 211))⟩] [])
  (.cond (.t 210)
  (.seq (.reg [⟨(some 212), none, .op (.mv (.t 2))⟩,
  ⟨(some 213), none, .op (.bsl none [(.int .u64 0)] 0 [])⟩,
  ⟨(some 214), none, .op (.mv (.t 0))⟩,
  ⟨(some 215), none, .op (.nchk (.t 214))⟩,
  ⟨(some 216), none, .op (.fad 2 (.t 215))⟩,
  ⟨(some 217), none, .op (.load none (.t 216))⟩,
  ⟨(some 218), none, .op (.app none 8 (.t 213) (.t 217))⟩,
  ⟨(some 219), none, .op (.nchk (.t 212))⟩,
  ⟨(some 220), none, .op (.fad 8 (.t 219))⟩,
  ⟨none, none, .op (.store 1 (.t 220) (.t 218))⟩] [])
  (.seq (.reg [⟨(some 221), none, .op (.mv (.t 0))⟩,
  ⟨(some 222), none, .op (.fad 6 (.t 3))⟩,
  ⟨(some 223), none, .op (.load none (.t 222))⟩,
  ⟨(some 224), none, .op (.mv (.t 0))⟩,
  ⟨(some 225), none, .op (.load (some 12) (.t 3))⟩,
  ⟨(some 226), none, .call 52 [(.t 224), (.t 225)]⟩,
  ⟨(some 227), none, .call 29 [(.t 221), (.t 223), (.t 226), (.v (.int .i64 0))]⟩] [(2, 5)])
  .ret))
  (.seq (.reg [⟨(some 229), none, .op (.bin .none .eql (.t 53) (.v (.int .u8 12)))⟩,
  ⟨(some 228), none, .op (.mv (.t 229))⟩] [])
  (.cond (.t 228)
  (.seq (.seq (.reg [⟨(some 230), none, .op (.fad 4 (.t 3))⟩,
  ⟨(some 231), none, .op (.load none (.t 230))⟩,
  ⟨(some 232), none, .op (.bin .none .geq (.t 231) (.v (.int .i64 0)))⟩] [])
  (.cond (.t 232)
  (.reg [⟨(some 233), none, .op (.mv (.t 2))⟩,
  ⟨(some 234), none, .op (.mv (.t 0))⟩,
  ⟨(some 235), none, .op (.fad 4 (.t 3))⟩,
  ⟨(some 236), none, .op (.load none (.t 235))⟩,
  ⟨(some 237), none, .call 48 [(.t 234), (.t 236)]⟩,
  ⟨(some 238), none, .op (.nchk (.t 233))⟩,
  ⟨(some 239), none, .op (.fad 7 (.t 238))⟩,
  ⟨none, none, .op (.store 1 (.t 239) (.t 237))⟩] [])
  .skip))
  (.seq (.reg [⟨(some 240), none, .op (.mv (.t 2))⟩,
  ⟨(some 241), none, .op (.nchk (.t 240))⟩,
  ⟨(some 242), none, .op (.fad 6 (.t 241))⟩,
  ⟨none, none, .op (.store 1 (.t 242) (.v (.bool true)))⟩] [])
  (.seq (.reg [⟨(some 243), none, .op (.mv (.t 0))⟩,
  ⟨(some 244), none, .call 53 [(.t 243)]⟩] [])
  .ret)))
  (.seq (.reg [⟨(some 246), none, .op (.bin .none .eql (.t 53) (.v (.int .u8 13)))⟩,
  ⟨(some 245), none, .op (.mv (.t 246))⟩] [])
  (.cond (.t 245)
  (.seq (.reg [⟨(some 247), none, .op (.mv (.t 2))⟩,
  ⟨(some 248), none, .op (.mv (.t 2))⟩,
  ⟨(some 249), none, .op (.nchk (.t 248))⟩,
  ⟨(some 250), none, .op (.fad 5 (.t 249))⟩,
  ⟨(some 251), none, .op (.load none (.t 250))⟩,
  ⟨(some 252), none, .op (.fad 6 (.t 3))⟩,
  ⟨(some 253), none, .op (.load none (.t 252))⟩,
  ⟨(some 254), none, .op (.mv (.t 0))⟩,
  ⟨(some 255), none, .op (.load (some 12) (.t 3))⟩,
  ⟨(some 256), none, .call 52 [(.t 254), (.t 255)]⟩,
  ⟨(some 257), none, .op (.build [(.int .i64 0), .nils] [(0, 1, (.t 253)), (1, 1, (.t 256))])⟩,
  ⟨(some 258), none, .op (.bsl (some 2) [(.int .i64 0), .nils] 1 [(0, 2, (.t 257))])⟩,
  ⟨(some 259), none, .op (.app (some 2) 32 (.t 251) (.t 258))⟩,
  ⟨(some 260), none, .op (.nchk (.t 247))⟩,
  ⟨(some 261), none, .op (.fad 5 (.t 260))⟩,
  ⟨none, none, .op (.store 1 (.t 261) (.t 259))⟩] [(4, 9), (6, 9), (4, 11)])
  (.seq (.reg [⟨(some 262), none, .op (.mv (.t 0))⟩,
  ⟨(some 263), none, .call 54 [(.t 262)]⟩,
  ⟨(some 9), none, .op (.mv (.t 263))⟩] [])
  (.seq (.reg [⟨(some 264), none, .op (.mv (.t 9))⟩,
  ⟨(some 265), none, .op (.mv (.t 0))⟩,
  ⟨(some 266), none, .op (.nchk (.t 265))⟩,
  ⟨(some 267), none, .op (.fad 11 (.t 266))⟩,
  ⟨(some 268), none, .op (.load none (.t 267))⟩,
  ⟨(some 269), none, .op (.bin .none .gtr (.t 264) (.t 268))⟩] [])
  (.cond (.t 269)
  (.reg [⟨(some 270), none, .op (.mv (.t 0))⟩,
  ⟨(some 271), none, .op (.mv (.t 9))⟩,
  ⟨(some 272), none, .op (.nchk (.t 270))⟩,
  ⟨(some 273), none, .op (.fad 11 (.t 272))⟩,
  ⟨none, none, .op (.store 1 (.t 273) (.t 271))⟩] [])
  .skip))))
  (.seq (.reg [⟨(some 275), none, .op (.bin .none .eql (.t 53) (.v (.int .u8 14)))⟩,
  ⟨(some 274), none, .op (.mv (.t 275))⟩] [])
  (.cond (.t 274)
  (.seq (.reg [⟨(some 276), none, .op (.mv (.t 0))⟩,
  ⟨(some 277), none, .op (.mv (.t 0))⟩,
  ⟨(some 278), none, .op (.fad 4 (.t 3))⟩,
  ⟨(some 279), none, .op (.load none (.t 278))⟩,
  ⟨(some 280), none, .call 48 [(.t 277), (.t 279)]⟩,
  ⟨(some 281), none, .call 50 [(.t 276), (.t 280)]⟩] [])
  .ret)
  (.seq (.reg [⟨(some 283), none, .op (.bin .none .eql (.t 53) (.v (.int .u8 15)))⟩,
  ⟨(some 282), none, .op (.mv (.t 283))⟩] [])
  (.cond (.t 282)
  (.seq (.reg [⟨(some 10), none, .op (.mv (.v (.int .u64 0)))⟩,
  ⟨(some 11), none, .op (.mv (.v (.int .u64 0)))⟩] [])
  (.seq (.reg [⟨(some 284), none, .op (.mv (.t 0))⟩,
  ⟨(some 285), none, .op (.nchk (.t 284))⟩,
  ⟨(some 286), none, .op (.fad 4 (.t 285))⟩,
  ⟨(some 287), none, .op (.load none (.t 286))⟩,
  ⟨(some 288), none, .op (.len .sl (.t 287))⟩,
  ⟨(some 289), none, .op (.bin .none .sub (.t 288) (.v (.int .i64 1)))⟩,
  ⟨(some 12), none, .op (.mv (.t 289))⟩] [])
  (.seq (.seq (.reg [⟨(some 290), none, .op (.mv (.t 2))⟩,
  ⟨(some 291), none, .op (.nchk (.t 290))⟩,
  ⟨(some 292), none, .op (.fad 2 (.t 291))⟩,
  ⟨(some 293), none, .op (.load none (.t 292))⟩,
  ⟨(some 294), none, .op (.bin .none .eql (.t 293) (.v (.int .i64 2)))⟩,
  ⟨(some 295), none, .op (.mv (.t 294))⟩,
  ⟨(some 296), some (295, true), .op (.mv (.t 0))⟩,
  ⟨(some 297), some (295, true), .op (.nchk (.t 296))⟩,
  ⟨(some 298), some (295, true), .op (.fad 4 (.t 297))⟩,
  ⟨(some 299), some (295, true), .op (.load none (.t 298))⟩,
  ⟨(some 300), some (295, true), .op (.mv (.t 12))⟩,
  ⟨(some 301), some (295, true), .op (.iad none (some 2) (.t 299) (.t 300))⟩,
  ⟨(some 302), some (295, true), .op (.fad 1 (.t 301))⟩,
  ⟨(some 303), some (295, true), .op (.load none (.t 302))⟩,
  ⟨(some 304), some (295, true), .op (.un .not (.t 303))⟩,
  ⟨(some 305), none, .op (.pick (.t 295) (.t 304) (.v (.bool false)))⟩] [])
  (.cond (.t 305)
  (.seq (.reg [⟨(some 306), none, .op (.mv (.t 0))⟩,
  ⟨(some 307), none, .op (.nchk (.t 306))⟩,
  ⟨(some 308), none, .op (.fad 4 (.t 307))⟩,
  ⟨(some 309), none, .op (.load none (.t 308))⟩,
  ⟨(some 310), none, .op (.mv (.t 12))⟩,
  ⟨(some 311), none, .op (.iad none (some 2) (.t 309) (.t 310))⟩,
  ⟨(some 312), none, .op (.fad 1 (.t 311))⟩,
  ⟨none, none, .op (.store 1 (.t 312) (.v (.bool true)))⟩] [])
  (.reg [⟨(some 313), none, .op (.mv (.t 0))⟩,
  ⟨(some 314), none, .op (.nchk (.t 313))⟩,
  ⟨(some 315), none, .op (.fad 4 (.t 314))⟩,
  ⟨(some 316), none, .op (.load none (.t 315))⟩,
  ⟨(some 317), none, .op (.mv (.t 12))⟩,
  ⟨(some 318), none, .op (.iad none (some 2) (.t 316) (.t 317))⟩,
  ⟨(some 319), none, .op (.fad 0 (.t 318))⟩,
  ⟨(some 320), none, .op (.load none (.t 319))⟩,
  ⟨(some 10), none, .op (.mv (.t 320))⟩,
  ⟨(some 11), none, .op (.mv (.v (.int .u64 1)))⟩] []))
  .skip))
  (.seq (.reg [⟨(some 321), none, .op (.mv (.t 0))⟩,
  ⟨(some 322), none, .op (.fad 2 (.t 3))⟩,
  ⟨(some 323), none, .op (.load none (.t 322))⟩,
  ⟨(some 324), none, .op (.mv (.t 10))⟩,
  ⟨(some 325), none, .call 47 [(.t 321), (.t 323), (.t 324)]⟩] [])
  (.reg [⟨(some 326), none, .op (.mv (.t 0))⟩,
  ⟨(some 327), none, .op (.fad 3 (.t 3))⟩,
  ⟨(some 328), none, .op (.load none (.t 327))⟩,
  ⟨(some 329), none, .op (.mv (.t 11))⟩,
  ⟨(some 330), none, .call 47 [(.t 326), (.t 328), (.t 329)]⟩] [])))))
  (.seq (.reg [⟨(some 332), none, .op (.bin .none .eql (.t 53) (.v (.int .u8 16)))⟩,
  ⟨(some 331), none, .op (.mv (.t 332))⟩] [])
  (.cond (.t 331)
  (.seq (.reg [⟨(some 13), none, .op (.mv (.v (.int .u64 0)))⟩] [])
  (.seq (.seq (.reg [⟨(some 333), none, .op (.mv (.t 0))⟩,
  ⟨(some 334), none, .op (.nchk (.t 333))⟩,
  ⟨(some 335), none, .op (.fad 5 (.t 334))⟩,
  ⟨(some 336), none, .op (.load none (.t 335))⟩,
  ⟨(some 337), none, .op (.len .sl (.t 336))⟩,
  ⟨(some 338), none, .op (.bin .none .gtr (.t 337) (.v (.int .i64 0)))⟩] [])
  (.cond (.t 338)
  (.seq (.reg [⟨(some 339), none, .op (.mv (.t 0))⟩,
  ⟨(some 340), none, .op (.nchk (.t 339))⟩,
  ⟨(some 341), none, .op (.fad 5 (.t 340))⟩,
  ⟨(some 342), none, .op (.load none (.t 341))⟩,
  ⟨(some 343), none, .op (.iad none none (.t 342) (.v (.int .i64 0)))⟩,
  ⟨(some 344), none, .op (.load none (.t 343))⟩,
  ⟨(some 13), none, .op (.mv (.t 344))⟩] [])
  (.reg [⟨(some 345), none, .op (.mv (.t 0))⟩,
  ⟨(some 346), none, .op (.mv (.t 0))⟩,
  ⟨(some 347), none, .op (.nchk (.t 346))⟩,
  ⟨(some 348), none, .op (.fad 5 (.t 347))⟩,
  ⟨(some 349), none, .op (.load none (.t 348))⟩,
  ⟨(some 350), none, .op (.slc none (.t 349) (some (.v (.int .i64 1))) none none)⟩,
  ⟨(some 351), none, .op (.nchk (.t 345))⟩,
  ⟨(some 352), none, .op (.fad 5 (.t 351))⟩,
  ⟨none, none, .op (.store 1 (.t 352) (.t 350))⟩] []))
  .skip))
  (.seq (.reg [⟨(some 353), none, .op (.mv (.t 0))⟩,
  ⟨(some 354), none, .op (.mv (.t 0))⟩,
  ⟨(some 355), none, .op (.nchk (.t 354))⟩,
  ⟨(some 356), none, .op (.fad 6 (.t 355))⟩,
  ⟨(some 357), none, .op (.load none (.t 356))⟩,
  ⟨(some 358), none, .op (.mv (.t 13))⟩,
  ⟨(some 359), none, .op (.build [(.int .i64 0), (.int .u64 0)] [(0, 1, (.v (.int .i64 2))), (1, 1, (.t 358))])⟩,
  ⟨(some 360), none, .op (.bsl (some 2) [(.int .i64 0), (.int .u64 0)] 1 [(0, 2, (.t 359))])⟩,
  ⟨(some 361), none, .op (.app (some 2) 16 (.t 357) (.t 360))⟩,
  ⟨(some 362), none, .op (.nchk (.t 353))⟩,
  ⟨(some 363), none, .op (.fad 6 (.t 362))⟩,
  ⟨none, none, .op (.store 1 (.t 363) (.t 361))⟩] [])
  (.reg [⟨(some 364), none, .op (.mv (.t 0))⟩,
  ⟨(some 365), none, .op (.fad 2 (.t 3))⟩,
  ⟨(some 366), none, .op (.load none (.t 365))⟩,
  ⟨(some 367), none, .op (.mv (.t 13))⟩,
  ⟨(some 368), none, .call 47 [(.t 364), (.t 366), (.t 367)]⟩] []))))
  (.seq (.reg [⟨(some 370), none, .op (.bin .none .eql (.t 53) (.v (.int .u8 17)))⟩,
  ⟨(some 369), none, .op (.mv (.t 370))⟩] [])
  (.cond (.t 369)
  (.reg [⟨(some 371), none, .op (.mv (.t 0))⟩,
  ⟨(some 372), none, .op (.mv (.t 0))⟩,
  ⟨(some 373), none, .op (.nchk (.t 372))⟩,
  ⟨(some 374), none, .op (.fad 6 (.t 373))⟩,
  ⟨(some 375), none, .op (.load none (.t 374))⟩,
  ⟨(some 376), none, .op (.mv (.t 0))⟩,
  ⟨(some 377), none, .op (.fad 4 (.t 3))⟩,
  ⟨(some 378), none, .op (.load none (.t 377))⟩,
  ⟨(some 379), none, .call 48 [(.t 376), (.t 378)]⟩,
  ⟨(some 380), none, .op (.build [(.int .i64 0), (.int .u64 0)] [(0, 1, (.v (.int .i64 1))), (1, 1, (.t 379))])⟩,
  ⟨(some 381), none, .op (.bsl (some 2) [(.int .i64 0), (.int .u64 0)] 1 [(0, 2, (.t 380))])⟩,
  ⟨(some 382), none, .op (.app (some 2) 16 (.t 375) (.t 381))⟩,
  ⟨(some 383), none, .op (.nchk (.t 371))⟩,
  ⟨(some 384), none, .op (.fad 6 (.t 383))⟩,
  ⟨none, none, .op (.store 1 (.t 384) (.t 382))⟩] [(4, 8), (4, 10)])
  (.seq (.reg [⟨(some 54), none, .op (.mv (.t 0))⟩,
  ⟨(some 55), none, .op (.mv (.t 0))⟩,
  ⟨(some 56), none, .op (.fad 4 (.t 3))⟩,
  ⟨(some 57), none, .op (.load none (.t 56))⟩,
  ⟨(some 58), none, .call 48 [(.t 55), (.t 57)]⟩,
  ⟨(some 59), none, .op (.build [(.int .i64 0), (.int .u64 0)] [(0, 1, (.v (.int .i64 1))), (1, 1, (.t 58))])⟩,
  ⟨(some 60), none, .op (.nchk (.t 54))⟩,
  ⟨(some 61), none, .op (.fad 7 (.t 60))⟩,
  ⟨none, none, .op (.store 2 (.t 61) (.t 59))⟩] [])
  .ret)))))))))))))))))))))))))))))))))))
  (.reg [⟨(some 385), none, .op (.mv (.t 0))⟩,
  ⟨(some 386), none, .op (.nchk (.t 385))⟩,
  ⟨(some 387), none, .op (.fad 3 (.t 386))⟩,
  ⟨(some 388), none, .op (.load none (.t 387))⟩,
  ⟨(some 389), none, .op (.mv (.t 0))⟩,
  ⟨(some 390), none, .op (.nchk (.t 389))⟩,
  ⟨(some 391), none, .op (.fad 3 (.t 390))⟩,
  ⟨(some 392), none, .op (.load none (.t 391))⟩,
  ⟨(some 393), none, .op (.len .sl (.t 392))⟩,
  ⟨(some 394), none, .op (.bin .none .sub (.t 393) (.v (.int .i64 1)))⟩,
  ⟨(some 395), none, .op (.mv (.t 4))⟩,
  ⟨(some 396), none, .op (.iad none (some 9) (.t 388) (.t 394))⟩,
  ⟨(some 397), none, .op (.fad 1 (.t 396))⟩,
  ⟨none, none, .op (.store 1 (.t 397) (.t 395))⟩] []))))))
theorem c30 : codeOf Try.prog 30 = some (398, [], fc30) := by kernel_rfl
def fc37 : FC := (.seq (.reg [⟨(some 1), none, .op (.box (.t 0))⟩,
  ⟨(some 2), none, .op (.mv (.v .nils))⟩,
  ⟨(some 3), none, .op (.mv (.v (.int .i64 0)))⟩] [])
  (.seq (.seq (.reg [⟨(some 8), none, .op (.fad 0 (.t 1))⟩,
  ⟨(some 9), none, .op (.load none (.t 8))⟩,
  ⟨(some 10), none, .op (.len .sl (.t 9))⟩,
  ⟨(some 11), none, .op (.bin .none .eql (.t 10) (.v (.int .i64 0)))⟩,
  ⟨(some 12), none, .op (.mv (.t 11))⟩,
  ⟨(some 13), some (12, false), .op (.fad 0 (.t 1))⟩,
  ⟨(some 14), some (12, false), .op (.load none (.t 13))⟩,
  ⟨(some 15), some (12, false), .op (.len .sl (.t 14))⟩,
  ⟨(some 16), some (12, false), .op (.bin .none .gtr (.t 15) (.v (.int .i64 255)))⟩,
  ⟨(some 17), none, .op (.pick (.t 12) (.v (.bool true)) (.t 16))⟩] [])
  (.cond (.t 17)
  (.seq (.reg [⟨(some 2), none, .op (.mv (.v .nils))⟩,
  ⟨(some 3), none, .op (.mv (.v (.int .i64 30)))⟩] [])
  .ret)
  .skip))
  (.seq (.reg [⟨(some 18), none, .op (.fad 0 (.t 1))⟩,
  ⟨(some 19), none, .op (.load none (.t 18))⟩,
  ⟨(some 20), none, .op (.len .sl (.t 19))⟩,
  ⟨(some 21), none, .op (.cint .u8 (.t 20))⟩,
  ⟨(some 22), none, .op (.bsl none [(.int .u8 0)] 3 [(0, 1, (.v (.int .u8 87))), (1, 1, (.v (.int .u8 76))), (2, 1, (.t 21))])⟩,
  ⟨(some 4), none, .op (.mv (.t 22))⟩] [])
  (.seq (.seq (.reg [⟨(some 23), none, .op (.fad 0 (.t 1))⟩,
  ⟨(some 24), none, .op (.load none (.t 23))⟩,
  ⟨(some 25), none, .op (.len .sl (.t 24))⟩,
  ⟨(some 26), none, .op (.mv (.v (.int .i64 0)))⟩] [])
  (.block 0 (.loop (.seq (.reg [⟨(some 27), none, .op (.bin .none .lss (.t 26) (.t 25))⟩] [])
  (.seq (.cond (.t 27)
  .skip
  (.exit 0))
  (.seq (.block 1 (.seq (.reg [⟨(some 28), none, .op (.iad none (some 5) (.t 24) (.t 26))⟩,
  ⟨(some 29), none, .op (.load (some 5) (.t 28))⟩,
  ⟨(some 6), none, .op (.new [(.int .i64 0), .nils, (.bool false), (.int .i64 0), .nils])⟩,
  ⟨none, none, .op (.store 5 (.t 6) (.t 29))⟩] [])
  (.seq (.reg [⟨(some 7), none, .op (.mv (.v (.bool false)))⟩] [])
  (.seq (.reg [⟨(some 31), none, .op (.mv (.t 4))⟩,
  ⟨(some 32), none, .op (.load (some 5) (.t 6))⟩,
  ⟨(some 33), none, .call 64 [(.t 31), (.t 32)]⟩,
  ⟨(some 30), none, .op (.mv (.t 33))⟩,
  ⟨(some 34), none, .op (.ext 0 (.t 30))⟩,
  ⟨(some 35), none, .op (.ext 1 (.t 30))⟩,
  ⟨(some 4), none, .op (.mv (.t 34))⟩,
  ⟨(some 7), none, .op (.mv (.t 35))⟩] [])
  (.seq (.reg [⟨(some 36), none, .op (.mv (.t 7))⟩,
  ⟨(some 37), none, .op (.un .not (.t 36))⟩] [])
  (.cond (.t 37)
  (.seq (.reg [⟨(some 2), none, .op (.mv (.v .nils))⟩,
  ⟨(some 3), none, .op (.mv (.v (.int .i64 30)))⟩] [])
  .ret)
  .skip))))))
  (.reg [⟨(some 38), none, .op (.bin .none .add (.t 26) (.v (.int .i64 1)))⟩,
  ⟨(some 26), none, .op (.mv (.t 38))⟩] [])))))))
  (.seq (.reg [⟨(some 39), none, .op (.mv (.t 4))⟩,
  ⟨(some 2), none, .op (.mv (.t 39))⟩,
  ⟨(some 3), none, .op (.mv (.v (.int .i64 0)))⟩] [])
  .ret)))))
theorem c37 : codeOf Try.prog 37 = some (40, [(2, none), (3, none)], fc37) := by kernel_rfl
def fc38 : FC := (.seq (.reg [⟨(some 1), none, .op (.box (.t 0))⟩,
  ⟨(some 2), none, .op (.mv (.v (.bool false)))⟩] [])
  (.seq (.seq (.reg [⟨(some 5), none, .op (.fad 0 (.t 1))⟩,
  ⟨(some 6), none, .op (.load none (.t 5))⟩,
  ⟨(some 7), none, .op (.len .sl (.t 6))⟩,
  ⟨(some 8), none, .op (.mv (.v (.int .i64 0)))⟩] [])
  (.block 0 (.loop (.seq (.reg [⟨(some 9), none, .op (.bin .none .lss (.t 8) (.t 7))⟩] [])
  (.seq (.cond (.t 9)
  .skip
  (.exit 0))
  (.seq (.block 1 (.seq (.reg [⟨(some 10), none, .op (.iad none (some 5) (.t 6) (.t 8))⟩,
  ⟨(some 11), none, .op (.load (some 5) (.t 10))⟩,
  ⟨(some 4), none, .op (.new [(.int .i64 0), .nils, (.bool false), (.int .i64 0), .nils])⟩,
  ⟨none, none, .op (.store 5 (.t 4) (.t 11))⟩] [])
  (.seq (.reg [⟨(some 12), none, .op (.fad 0 (.t 4))⟩,
  ⟨(some 13), none, .op (.load none (.t 12))⟩,
  ⟨(some 14), none, .op (.bin .none .gtr (.t 13) (.v (.int .i64 4)))⟩,
  ⟨(some 15), none, .op (.mv (.t 14))⟩,
  ⟨(some 16), some (15, false), .op (.fad 1 (.t 4))⟩,
  ⟨(some 17), some (15, false), .op (.load none (.t 16))⟩,
  ⟨(some 18), some (15, false), .op (.len .sl (.t 17))⟩,
  ⟨(some 19), some (15, false), .op (.bin .none .gtr (.t 18) (.v (.int .i64 16)))⟩,
  ⟨(some 20), none, .op (.pick (.t 15) (.v (.bool true)) (.t 19))⟩,
  ⟨(some 21), none, .op (.mv (.t 20))⟩,
  ⟨(some 22), some (21, false), .op (.fad 4 (.t 4))⟩,
  ⟨(some 23), some (21, false), .op (.load none (.t 22))⟩,
  ⟨(some 24), some (21, false), .op (.len .sl (.t 23))⟩,
  ⟨(some 25), some (21, false), .op (.bin .none .gtr (.t 24) (.v (.int .i64 256)))⟩,
  ⟨(some 26), none, .op (.pick (.t 21) (.v (.bool true)) (.t 25))⟩] [])
  (.cond (.t 26)
  (.seq (.reg [⟨(some 2), none, .op (.mv (.v (.bool false)))⟩] [])
  .ret)
  .skip))))
  (.reg [⟨(some 27), none, .op (.bin .none .add (.t 8) (.v (.int .i64 1)))⟩,
  ⟨(some 8), none, .op (.mv (.t 27))⟩] [])))))))
  (.seq (.reg [⟨(some 28), none, .op (.fad 0 (.t 1))⟩,
  ⟨(some 29), none, .op (.load none (.t 28))⟩,
  ⟨(some 30), none, .op (.len .sl (.t 29))⟩,
  ⟨(some 31), none, .op (.bin .none .leq (.t 30) (.v (.int .i64 16)))⟩,
  ⟨(some 2), none, .op (.mv (.t 31))⟩] [])
  .ret)))
theorem c38 : codeOf Try.prog 38 = some (32, [(2, none)], fc38) := by kernel_rfl
def fc39 : FC := (.seq (.reg [⟨(some 2), none, .op (.box (.t 0))⟩,
  ⟨(some 3), none, .op (.box (.t 1))⟩,
  ⟨(some 4), none, .op (.mv (.v (.bool false)))⟩] [])
  (.seq (.seq (.reg [⟨(some 7), none, .op (.fad 4 (.t 3))⟩,
  ⟨(some 8), none, .op (.load none (.t 7))⟩,
  ⟨(some 9), none, .op (.len .sl (.t 8))⟩,
  ⟨(some 10), none, .op (.bin .none .eql (.t 9) (.v (.int .i64 0)))⟩,
  ⟨(some 11), none, .op (.mv (.t 10))⟩,
  ⟨(some 12), some (11, false), .op (.fad 3 (.t 3))⟩,
  ⟨(some 13), some (11, false), .op (.load none (.t 12))⟩,
  ⟨(some 14), some (11, false), .op (.fad 1 (.t 3))⟩,
  ⟨(some 15), some (11, false), .op (.load none (.t 14))⟩,
  ⟨(some 16), some (11, false), .op (.len .sl (.t 15))⟩,
  ⟨(some 17), some (11, false), .op (.bin .none .geq (.t 13) (.t 16))⟩,
  ⟨(some 18), none, .op (.pick (.t 11) (.v (.bool true)) (.t 17))⟩,
  ⟨(some 19), none, .op (.mv (.t 18))⟩,
  ⟨(some 20), some (19, false), .op (.fad 3 (.t 3))⟩,
  ⟨(some 21), some (19, false), .op (.load none (.t 20))⟩,
  ⟨(some 22), some (19, false), .op (.bin .none .geq (.t 21) (.v (.int .i64 0)))⟩,
  ⟨(some 23), some (19, false), .op (.mv (.t 22))⟩,
  ⟨(some 24), some (23, true), .op (.fad 1 (.t 3))⟩,
  ⟨(some 25), some (23, true), .op (.load none (.t 24))⟩,
  ⟨(some 26), some (23, true), .op (.fad 3 (.t 3))⟩,
  ⟨(some 27), some (23, true), .op (.load none (.t 26))⟩,
  ⟨(some 28), some (23, true), .op (.iad none none (.t 25) (.t 27))⟩,
  ⟨(some 29), some (23, true), .op (.load none (.t 28))⟩,
  ⟨(some 30), some (23, true), .op (.bin .none .neq (.t 29) (.v (.int .u8 0)))⟩,
  ⟨(some 31), some (19, false), .op (.pick (.t 23) (.t 30) (.v (.bool false)))⟩,
  ⟨(some 32), none, .op (.pick (.t 19) (.v (.bool true)) (.t 31))⟩] [])
  (.cond (.t 32)
  (.seq (.reg [⟨(some 4), none, .op (.mv (.v (.bool false)))⟩] [])
  .ret)
  .skip))
  (.seq (.seq (.reg [⟨(some 33), none, .op (.fad 4 (.t 3))⟩,
  ⟨(some 34), none, .op (.load none (.t 33))⟩,
  ⟨(some 35), none, .op (.len .sl (.t 34))⟩,
  ⟨(some 36), none, .op (.mv (.v (.int .i64 0)))⟩] [])
  (.block 0 (.loop (.seq (.reg [⟨(some 37), none, .op (.bin .none .lss (.t 36) (.t 35))⟩] [])
  (.seq (.cond (.t 37)
  .skip
  (.exit 0))
  (.seq (.block 1 (.seq (.reg [⟨(some 38), none, .op (.iad none (some 3) (.t 34) (.t 36))⟩,
  ⟨(some 39), none, .op (.load (some 3) (.t 38))⟩,
  ⟨(some 6), none, .op (.new [(.int .u8 0), (.int .i64 0), (.int .u64 0)])⟩,
  ⟨none, none, .op (.store 3 (.t 6) (.t 39))⟩] [])
  (.seq (.reg [⟨(some 40), none, .op (.load (some 1) (.t 2))⟩,
  ⟨(some 41), none, .op (.load (some 5) (.t 3))⟩,
  ⟨(some 42), none, .op (.load (some 3) (.t 6))⟩,
  ⟨(some 43), none, .call 65 [(.t 40), (.t 41), (.t 42)]⟩,
  ⟨(some 44), none, .op (.un .not (.t 43))⟩,
  ⟨(some 45), none, .op (.mv (.t 44))⟩,
  ⟨(some 46), some (45, false), .op (.fad 0 (.t 6))⟩,
  ⟨(some 47), some (45, false), .op (.load none (.t 46))⟩,
  ⟨(some 48), some (45, false), .op (.bin .none .eql (.t 47) (.v (.int .u8 25)))⟩,
  ⟨(some 49), some (45, false), .op (.mv (.t 48))⟩,
  ⟨(some 50), some (49, true), .op (.fad 2 (.t 3))⟩,
  ⟨(some 51), some (49, true), .op (.load none (.t 50))⟩,
  ⟨(some 52), some (45, false), .op (.pick (.t 49) (.t 51) (.v (.bool false)))⟩,
  ⟨(some 53), some (45, false), .op (.mv (.t 52))⟩,
  ⟨(some 54), some (53, true), .op (.fad 3 (.t 3))⟩,
  ⟨(some 55), some (53, true), .op (.load none (.t 54))⟩,
  ⟨(some 56), some (53, true), .op (.bin .none .lss (.t 55) (.v (.int .i64 0)))⟩,
  ⟨(some 57), some (45, false), .op (.pick (.t 53) (.t 56) (.v (.bool false)))⟩,
  ⟨(some 58), none, .op (.pick (.t 45) (.v (.bool true)) (.t 57))⟩] [])
  (.cond (.t 58)
  (.seq (.reg [⟨(some 4), none, .op (.mv (.v (.bool false)))⟩] [])
  .ret)
  .skip))))
  (.reg [⟨(some 59), none, .op (.bin .none .add (.t 36) (.v (.int .i64 1)))⟩,
  ⟨(some 36), none, .op (.mv (.t 59))⟩] [])))))))
  (.seq (.reg [⟨(some 4), none, .op (.mv (.v (.bool true)))⟩] [])
  .ret))))
theorem c39 : codeOf Try.prog 39 = some (60, [(4, none)], fc39) := by kernel_rfl
def fc40 : FC := (.seq (.reg [⟨(some 2), none, .op (.box (.t 0))⟩,
  ⟨(some 3), none, .op (.box (.t 1))⟩,
  ⟨(some 4), none, .op (.mv (.v .nils))⟩,
  ⟨(some 5), none, .op (.mv (.v .nils))⟩,
  ⟨(some 6), none, .op (.mv (.v (.bool false)))⟩,
  ⟨(some 7), none, .op (.mv (.v (.int .i64 0)))⟩] [])
  (.seq (.reg [⟨(some 23), none, .op (.fad 4 (.t 3))⟩,
  ⟨(some 24), none, .op (.load none (.t 23))⟩,
  ⟨(some 25), none, .op (.len .sl (.t 24))⟩,
  ⟨(some 26), none, .op (.mksl none 1 [(.bool false)] (.t 25) (.t 25))⟩,
  ⟨(some 27), none, .op (.fad 4 (.t 3))⟩,
  ⟨(some 28), none, .op (.load none (.t 27))⟩,
  ⟨(some 29), none, .op (.len .sl (.t 28))⟩,
  ⟨(some 30), none, .op (.mksl none 24 [.nils] (.t 29) (.t 29))⟩,
  ⟨(some 8), none, .op (.mv (.t 26))⟩,
  ⟨(some 9), none, .op (.mv (.t 30))⟩] [(3, 5), (1, 7), (3, 7)])
  (.seq (.reg [⟨(some 31), none, .op (.mv (.t 8))⟩,
  ⟨(some 32), none, .op (.iad none none (.t 31) (.v (.int .i64 0)))⟩,
  ⟨none, none, .op (.store 1 (.t 32) (.v (.bool true)))⟩] [])
  (.seq (.reg [⟨(some 10), none, .op (.mv (.v (.bool false)))⟩] [])
  (.seq (.seq (.reg [⟨(some 33), none, .op (.bsl none [(.int .i64 0)] 1 [(0, 1, (.v (.int .i64 0)))])⟩,
  ⟨(some 11), none, .op (.mv (.t 33))⟩] [])
  (.block 0 (.loop (.seq (.seq (.reg [⟨(some 34), none, .op (.mv (.t 11))⟩,
  ⟨(some 35), none, .op (.len .sl (.t 34))⟩,
  ⟨(some 36), none, .op (.bin .none .gtr (.t 35) (.v (.int .i64 0)))⟩] [])
  (.cond (.t 36)
  .skip
  (.exit 0)))
  (.block 1 (.seq (.reg [⟨(some 37), none, .op (.mv (.t 11))⟩,
  ⟨(some 38), none, .op (.mv (.t 11))⟩,
  ⟨(some 39), none, .op (.len .sl (.t 38))⟩,
  ⟨(some 40), none, .op (.bin .none .sub (.t 39) (.v (.int .i64 1)))⟩,
  ⟨(some 41), none, .op (.iad none none (.t 37) (.t 40))⟩,
  ⟨(some 42), none, .op (.load none (.t 41))⟩,
  ⟨(some 12), none, .op (.mv (.t 42))⟩] [])
  (.seq (.reg [⟨(some 43), none, .op (.mv (.t 11))⟩,
  ⟨(some 44), none, .op (.mv (.t 11))⟩,
  ⟨(some 45), none, .op (.len .sl (.t 44))⟩,
  ⟨(some 46), none, .op (.bin .none .sub (.t 45) (.v (.int .i64 1)))⟩,
  ⟨(some 47), none, .op (.slc none (.t 43) none (some (.t 46)) none)⟩,
  ⟨(some 11), none, .op (.mv (.t 47))⟩] [])
  (.seq (.reg [⟨(some 48), none, .op (.mv (.t 9))⟩,
  ⟨(some 49), none, .op (.mv (.t 12))⟩,
  ⟨(some 50), none, .op (.iad none none (.t 48) (.t 49))⟩,
  ⟨(some 51), none, .op (.load none (.t 50))⟩,
  ⟨(some 52), none, .op (.fad 4 (.t 3))⟩,
  ⟨(some 53), none, .op (.load none (.t 52))⟩,
  ⟨(some 54), none, .op (.mv (.t 12))⟩,
  ⟨(some 55), none, .op (.iad none (some 3) (.t 53) (.t 54))⟩,
  ⟨(some 56), none, .op (.load (some 3) (.t 55))⟩,
  ⟨(some 14), none, .op (.new [(.int .u8 0), (.int .i64 0), (.int .u64 0)])⟩,
  ⟨(some 13), none, .op (.mv (.t 51))⟩,
  ⟨none, none, .op (.store 3 (.t 14) (.t 56))⟩] [(3, 9), (5, 9), (8, 9)])
  (.seq (.reg [⟨(some 15), none, .op (.mv (.v (.int .u8 0)))⟩] [])
  (.seq (.seq (.reg [⟨(some 57), none, .op (.mv (.t 13))⟩,
  ⟨(some 58), none, .op (.len .sl (.t 57))⟩,
  ⟨(some 59), none, .op (.bin .none .gtr (.t 58) (.v (.int .i64 0)))⟩] [])
  (.cond (.t 59)
  (.reg [⟨(some 60), none, .op (.mv (.t 13))⟩,
  ⟨(some 61), none, .op (.mv (.t 13))⟩,
  ⟨(some 62), none, .op (.len .sl (.t 61))⟩,
  ⟨(some 63), none, .op (.bin .none .sub (.t 62) (.v (.int .i64 1)))⟩,
  ⟨(some 64), none, .op (.iad none none (.t 60) (.t 63))⟩,
  ⟨(some 65), none, .op (.load none (.t 64))⟩,
  ⟨(some 15), none, .op (.mv (.t 65))⟩] [])
  .skip))
  (.seq (.reg [⟨(some 67), none, .op (.load (some 1) (.t 2))⟩,
  ⟨(some 68), none, .op (.load (some 5) (.t 3))⟩,
  ⟨(some 69), none, .op (.load (some 3) (.t 14))⟩,
  ⟨(some 70), none, .op (.mv (.t 15))⟩,
  ⟨(some 71), none, .call 66 [(.t 67), (.t 68), (.t 69), (.t 70)]⟩,
  ⟨(some 66), none, .op (.mv (.t 71))⟩,
  ⟨(some 72), none, .op (.ext 0 (.t 66))⟩,
  ⟨(some 73), none, .op (.ext 1 (.t 66))⟩,
  ⟨(some 16), none, .op (.mv (.t 72))⟩,
  ⟨(some 17), none, .op (.mv (.t 73))⟩] [])
  (.seq (.reg [⟨(some 74), none, .op (.mv (.t 13))⟩,
  ⟨(some 75), none, .op (.len .sl (.t 74))⟩,
  ⟨(some 76), none, .op (.mv (.t 16))⟩,
  ⟨(some 77), none, .op (.len .sl (.t 76))⟩,
  ⟨(some 78), none, .op (.bin .none .sub (.t 75) (.t 77))⟩,
  ⟨(some 18), none, .op (.mv (.t 78))⟩] [])
  (.seq (.seq (.reg [⟨(some 79), none, .op (.mv (.t 18))⟩,
  ⟨(some 80), none, .op (.bin .none .lss (.t 79) (.v (.int .i64 0)))⟩,
  ⟨(some 81), none, .op (.mv (.t 80))⟩,
  ⟨(some 82), some (81, false), .op (.mv (.t 13))⟩,
  ⟨(some 83), some (81, false), .op (.mv (.t 18))⟩,
  ⟨(some 84), some (81, false), .op (.slc none (.t 82) (some (.t 83)) none none)⟩,
  ⟨(some 85), some (81, false), .op (.mv (.t 16))⟩,
  ⟨(some 86), some (81, false), .call 67 [(.t 84), (.t 85)]⟩,
  ⟨(some 87), some (81, false), .op (.un .not (.t 86))⟩,
  ⟨(some 88), none, .op (.pick (.t 81) (.v (.bool true)) (.t 87))⟩,
  ⟨(some 89), none, .op (.mv (.t 88))⟩,
  ⟨(some 90), some (89, false), .op (.fad 0 (.t 14))⟩,
  ⟨(some 91), some (89, false), .op (.load none (.t 90))⟩,
  ⟨(some 92), some (89, false), .op (.bin .none .eql (.t 91) (.v (.int .u8 24)))⟩,
  ⟨(some 93), some (89, false), .op (.mv (.t 92))⟩,
  ⟨(some 94), some (93, true), .op (.mv (.t 18))⟩,
  ⟨(some 95), some (93, true), .op (.bin .none .gtr (.t 94) (.v (.int .i64 0)))⟩,
  ⟨(some 96), some (89, false), .op (.pick (.t 93) (.t 95) (.v (.bool false)))⟩,
  ⟨(some 97), none, .op (.pick (.t 89) (.v (.bool true)) (.t 96))⟩] [])
  (.cond (.t 97)
  (.seq (.reg [⟨(some 4), none, .op (.mv (.v .nils))⟩,
  ⟨(some 5), none, .op (.mv (.v .nils))⟩,
  ⟨(some 6), none, .op (.mv (.v (.bool false)))⟩,
  ⟨(some 7), none, .op (.mv (.v (.int .i64 50)))⟩] [])
  .ret)
  .skip))
  (.seq (.reg [⟨(some 98), none, .op (.mv (.t 13))⟩,
  ⟨(some 99), none, .op (.mv (.t 18))⟩,
  ⟨(some 100), none, .op (.slc none (.t 98) none (some (.t 99)) none)⟩,
  ⟨(some 101), none, .call 68 [(.t 100)]⟩,
  ⟨(some 102), none, .op (.mv (.t 17))⟩,
  ⟨(some 103), none, .op (.app none 1 (.t 101) (.t 102))⟩,
  ⟨(some 19), none, .op (.mv (.t 103))⟩] [])
  (.seq (.reg [⟨(some 104), none, .op (.mv (.t 10))⟩,
  ⟨(some 105), none, .op (.mv (.t 104))⟩,
  ⟨(some 106), some (105, false), .op (.mv (.t 19))⟩,
  ⟨(some 107), some (105, false), .op (.len .sl (.t 106))⟩,
  ⟨(some 108), some (105, false), .op (.bin .none .gtr (.t 107) (.v (.int .i64 16)))⟩,
  ⟨(some 109), none, .op (.pick (.t 105) (.v (.bool true)) (.t 108))⟩,
  ⟨(some 10), none, .op (.mv (.t 109))⟩] [])
  (.seq (.reg [⟨(some 110), none, .op (.load (some 3) (.t 14))⟩,
  ⟨(some 111), none, .op (.mv (.t 12))⟩,
  ⟨(some 112), none, .call 69 [(.t 110), (.t 111)]⟩,
  ⟨(some 113), none, .op (.len .sl (.t 112))⟩,
  ⟨(some 114), none, .op (.mv (.v (.int .i64 0)))⟩] [])
  (.block 2 (.loop (.seq (.reg [⟨(some 115), none, .op (.bin .none .lss (.t 114) (.t 113))⟩] [])
  (.seq (.cond (.t 115)
  .skip
  (.exit 2))
  (.seq (.block 3 (.seq (.reg [⟨(some 116), none, .op (.iad none none (.t 112) (.t 114))⟩,
  ⟨(some 117), none, .op (.load none (.t 116))⟩,
  ⟨(some 21), none, .op (.mv (.t 117))⟩] [])
  (.block 4 (.seq (.reg [⟨(some 119), none, .op (.mv (.t 21))⟩,
  ⟨(some 120), none, .op (.fad 4 (.t 3))⟩,
  ⟨(some 121), none, .op (.load none (.t 120))⟩,
  ⟨(some 122), none, .op (.len .sl (.t 121))⟩,
  ⟨(some 123), none, .op (.bin .none .geq (.t 119) (.t 122))⟩,
  ⟨(some 118), none, .op (.mv (.t 123))⟩] [])
  (.cond (.t 118)
  (.seq (.reg [⟨(some 4), none, .op (.mv (.v .nils))⟩,
  ⟨(some 5), none, .op (.mv (.v .nils))⟩,
  ⟨(some 6), none, .op (.mv (.v (.bool false)))⟩,
  ⟨(some 7), none, .op (.mv (.v (.int .i64 50)))⟩] [])
  .ret)
  (.seq (.reg [⟨(some 125), none, .op (.mv (.t 8))⟩,
  ⟨(some 126), none, .op (.mv (.t 21))⟩,
  ⟨(some 127), none, .op (.iad none none (.t 125) (.t 126))⟩,
  ⟨(some 128), none, .op (.load none (.t 127))⟩,
  ⟨(some 129), none, .op (.un .not (.t 128))⟩,
  ⟨(some 124), none, .op (.mv (.t 129))⟩] [])
  (.cond (.t 124)
  (.seq (.reg [⟨(some 130), none, .op (.mv (.t 8))⟩,
  ⟨(some 131), none, .op (.mv (.t 21))⟩,
  ⟨(some 132), none, .op (.mv (.t 9))⟩,
  ⟨(some 133), none, .op (.mv (.t 21))⟩,
  ⟨(some 134), none, .op (.mv (.t 19))⟩,
  ⟨(some 135), none, .op (.iad none none (.t 130) (.t 131))⟩,
  ⟨none, none, .op (.store 1 (.t 135) (.v (.bool true)))⟩,
  ⟨(some 136), none, .op (.iad none none (.t 132) (.t 133))⟩,
  ⟨none, none, .op (.store 1 (.t 136) (.t 134))⟩] [])
  (.reg [⟨(some 137), none, .op (.mv (.t 11))⟩,
  ⟨(some 138), none, .op (.mv (.t 21))⟩,
  ⟨(some 139), none, .op (.bsl none [(.int .i64 0)] 1 [(0, 1, (.t 138))])⟩,
  ⟨(some 140), none, .op (.app none 8 (.t 137) (.t 139))⟩,
  ⟨(some 11), none, .op (.mv (.t 140))⟩] []))
  (.seq (.reg [⟨(some 142), none, .op (.mv (.t 9))⟩,
  ⟨(some 143), none, .op (.mv (.t 21))⟩,
  ⟨(some 144), none, .op (.iad none none (.t 142) (.t 143))⟩,
  ⟨(some 145), none, .op (.load none (.t 144))⟩,
  ⟨(some 146), none, .op (.mv (.t 19))⟩,
  ⟨(some 147), none, .call 67 [(.t 145), (.t 146)]⟩,
  ⟨(some 148), none, .op (.un .not (.t 147))⟩,
  ⟨(some 141), none, .op (.mv (.t 148))⟩] [])
  (.cond (.t 141)
  (.seq (.reg [⟨(some 4), none, .op (.mv (.v .nils))⟩,
  ⟨(some 5), none, .op (.mv (.v .nils))⟩,
  ⟨(some 6), none, .op (.mv (.v (.bool false)))⟩,
  ⟨(some 7), none, .op (.mv (.v (.int .i64 50)))⟩] [])
  .ret)
  .skip)))))))))
  (.reg [⟨(some 149), none, .op (.bin .none .add (.t 114) (.v (.int .i64 1)))⟩,
  ⟨(some 114), none, .op (.mv (.t 149))⟩] []))))))))))))))))))))))
  (.seq (.seq (.reg [⟨(some 150), none, .op (.mv (.t 9))⟩,
  ⟨(some 151), none, .op (.len .sl (.t 150))⟩,
  ⟨(some 152), none, .op (.mv (.v (.int .i64 0)))⟩] [])
  (.block 5 (.loop (.seq (.reg [⟨(some 153), none, .op (.bin .none .lss (.t 152) (.t 151))⟩] [])
  (.seq (.cond (.t 153)
  .skip
  (.exit 5))
  (.seq (.block 6 (.seq (.reg [⟨(some 154), none, .op (.mv (.t 152))⟩,
  ⟨(some 22), none, .op (.mv (.t 154))⟩] [])
  (.reg [⟨(some 155), none, .op (.mv (.t 9))⟩,
  ⟨(some 156), none, .op (.mv (.t 22))⟩,
  ⟨(some 157), none, .op (.mv (.t 9))⟩,
  ⟨(some 158), none, .op (.mv (.t 22))⟩,
  ⟨(some 159), none, .op (.iad none none (.t 157) (.t 158))⟩,
  ⟨(some 160), none, .op (.load none (.t 159))⟩,
  ⟨(some 161), none, .call 68 [(.t 160)]⟩,
  ⟨(some 162), none, .op (.iad none none (.t 155) (.t 156))⟩,
  ⟨none, none, .op (.store 1 (.t 162) (.t 161))⟩] [])))
  (.reg [⟨(some 163), none, .op (.bin .none .add (.t 152) (.v (.int .i64 1)))⟩,
  ⟨(some 152), none, .op (.mv (.t 163))⟩] [])))))))
  (.seq (.reg [⟨(some 164), none, .op (.mv (.t 8))⟩,
  ⟨(some 165), none, .op (.mv (.t 9))⟩,
  ⟨(some 166), none, .op (.mv (.t 10))⟩,
  ⟨(some 4), none, .op (.mv (.t 164))⟩,
  ⟨(some 5), none, .op (.mv (.t 165))⟩,
  ⟨(some 6), none, .op (.mv (.t 166))⟩,
  ⟨(some 7), none, .op (.mv (.v (.int .i64 0)))⟩] [])
  .ret)))))))
theorem c40 : codeOf Try.prog 40 = some (167, [(4, none), (5, none), (6, none), (7, none)], fc40) := by kernel_rfl
def fc41 : FC := (.seq (.reg [⟨(some 6), none, .op (.mv (.t 0))⟩,
  ⟨(some 7), none, .op (.mv (.t 0))⟩,
  ⟨(some 8), none, .op (.nchk (.t 7))⟩,
  ⟨(some 9), none, .op (.fad 1 (.t 8))⟩,
  ⟨(some 10), none, .op (.load none (.t 9))⟩,
  ⟨(some 11), none, .op (.nchk (.t 10))⟩,
  ⟨(some 12), none, .op (.fad 1 (.t 11))⟩,
  ⟨(some 13), none, .op (.load none (.t 12))⟩,
  ⟨(some 14), none, .op (.len .sl (.t 13))⟩,
  ⟨(some 15), none, .op (.mksl none 8 [(.int .i64 0)] (.t 14) (.t 14))⟩,
  ⟨(some 16), none, .op (.nchk (.t 6))⟩,
  ⟨(some 17), none, .op (.fad 2 (.t 16))⟩,
  ⟨none, none, .op (.store 1 (.t 17) (.t 15))⟩] [])
  (.seq (.reg [⟨(some 18), none, .op (.mv (.t 0))⟩,
  ⟨(some 19), none, .op (.nchk (.t 18))⟩,
  ⟨(some 20), none, .op (.fad 2 (.t 19))⟩,
  ⟨(some 21), none, .op (.load none (.t 20))⟩,
  ⟨(some 22), none, .op (.len .sl (.t 21))⟩,
  ⟨(some 23), none, .op (.mv (.v (.int .i64 0)))⟩] [])
  (.block 0 (.loop (.seq (.reg [⟨(some 24), none, .op (.bin .none .lss (.t 23) (.t 22))⟩] [])
  (.seq (.cond (.t 24)
  .skip
  (.exit 0))
  (.seq (.block 1 (.seq (.reg [⟨(some 25), none, .op (.mv (.t 23))⟩,
  ⟨(some 2), none, .op (.mv (.t 25))⟩] [])
  (.seq (.reg [⟨(some 26), none, .op (.mv (.t 0))⟩,
  ⟨(some 27), none, .op (.nchk (.t 26))⟩,
  ⟨(some 28), none, .op (.fad 2 (.t 27))⟩,
  ⟨(some 29), none, .op (.load none (.t 28))⟩,
  ⟨(some 30), none, .op (.mv (.t 2))⟩,
  ⟨(some 31), none, .op (.iad none none (.t 29) (.t 30))⟩,
  ⟨none, none, .op (.store 1 (.t 31) (.v (.int .i64 (-1))))⟩] [])
  (.seq (.reg [⟨(some 32), none, .op (.mv (.t 2))⟩,
  ⟨(some 33), none, .op (.mv (.t 0))⟩,
  ⟨(some 34), none, .op (.nchk (.t 33))⟩,
  ⟨(some 35), none, .op (.fad 1 (.t 34))⟩,
  ⟨(some 36), none, .op (.load none (.t 35))⟩,
  ⟨(some 37), none, .op (.nchk (.t 36))⟩,
  ⟨(some 38), none, .op (.fad 3 (.t 37))⟩,
  ⟨(some 39), none, .op (.load none (.t 38))⟩,
  ⟨(some 40), none, .op (.bin .none .eql (.t 32) (.t 39))⟩,
  ⟨(some 3), none, .op (.mv (.t 40))⟩] [])
  (.seq (.seq (.reg [⟨(some 41), none, .op (.mv (.t 0))⟩,
  ⟨(some 42), none, .op (.nchk (.t 41))⟩,
  ⟨(some 43), none, .op (.fad 1 (.t 42))⟩,
  ⟨(some 44), none, .op (.load none (.t 43))⟩,
  ⟨(some 45), none, .op (.nchk (.t 44))⟩,
  ⟨(some 46), none, .op (.fad 4 (.t 45))⟩,
  ⟨(some 47), none, .op (.load none (.t 46))⟩,
  ⟨(some 48), none, .op (.len .sl (.t 47))⟩,
  ⟨(some 49), none, .op (.mv (.v (.int .i64 0)))⟩] [])
  (.block 2 (.loop (.seq (.reg [⟨(some 50), none, .op (.bin .none .lss (.t 49) (.t 48))⟩] [])
  (.seq (.cond (.t 50)
  .skip
  (.exit 2))
  (.seq (.block 3 (.seq (.reg [⟨(some 51), none, .op (.iad none (some 3) (.t 47) (.t 49))⟩,
  ⟨(some 52), none, .op (.load (some 3) (.t 51))⟩,
  ⟨(some 5), none, .op (.new [(.int .u8 0), (.int .i64 0), (.int .u64 0)])⟩,
  ⟨none, none, .op (.store 3 (.t 5) (.t 52))⟩] [])
  (.reg [⟨(some 53), none, .op (.mv (.t 3))⟩,
  ⟨(some 54), none, .op (.mv (.t 53))⟩,
  ⟨(some 55), some (54, false), .op (.fad 0 (.t 5))⟩,
  ⟨(some 56), some (54, false), .op (.load none (.t 55))⟩,
  ⟨(some 57), some (54, false), .op (.bin .none .eql (.t 56) (.v (.int .u8 4)))⟩,
  ⟨(some 58), some (54, false), .op (.mv (.t 57))⟩,
  ⟨(some 59), some (58, true), .op (.fad 1 (.t 5))⟩,
  ⟨(some 60), some (58, true), .op (.load none (.t 59))⟩,
  ⟨(some 61), some (58, true), .op (.mv (.t 2))⟩,
  ⟨(some 62), some (58, true), .op (.bin .none .eql (.t 60) (.t 61))⟩,
  ⟨(some 63), some (54, false), .op (.pick (.t 58) (.t 62) (.v (.bool false)))⟩,
  ⟨(some 64), none, .op (.pick (.t 54) (.v (.bool true)) (.t 63))⟩,
  ⟨(some 3), none, .op (.mv (.t 64))⟩] [])))
  (.reg [⟨(some 65), none, .op (.bin .none .add (.t 49) (.v (.int .i64 1)))⟩,
  ⟨(some 49), none, .op (.mv (.t 65))⟩] [])))))))
  (.seq (.reg [⟨(some 66), none, .op (.mv (.t 3))⟩] [])
  (.cond (.t 66)
  (.seq (.reg [⟨(some 67), none, .op (.mv (.t 0))⟩,
  ⟨(some 68), none, .op (.nchk (.t 67))⟩,
  ⟨(some 69), none, .op (.fad 2 (.t 68))⟩,
  ⟨(some 70), none, .op (.load none (.t 69))⟩,
  ⟨(some 71), none, .op (.mv (.t 2))⟩,
  ⟨(some 72), none, .op (.mv (.t 0))⟩,
  ⟨(some 73), none, .op (.nchk (.t 72))⟩,
  ⟨(some 74), none, .op (.fad 3 (.t 73))⟩,
  ⟨(some 75), none, .op (.fad 2 (.t 74))⟩,
  ⟨(some 76), none, .op (.load none (.t 75))⟩,
  ⟨(some 77), none, .op (.iad none none (.t 70) (.t 71))⟩,
  ⟨none, none, .op (.store 1 (.t 77) (.t 76))⟩] [])
  (.reg [⟨(some 78), none, .op (.mv (.t 0))⟩,
  ⟨(some 79), none, .op (.nchk (.t 78))⟩,
  ⟨(some 80), none, .op (.fad 3 (.t 79))⟩,
  ⟨(some 81), none, .op (.fad 2 (.t 80))⟩,
  ⟨(some 82), none, .op (.load none (.t 81))⟩,
  ⟨(some 83), none, .op (.bin .none .add (.t 82) (.v (.int .i64 1)))⟩,
  ⟨(some 84), none, .op (.nchk (.t 78))⟩,
  ⟨(some 85), none, .op (.fad 3 (.t 84))⟩,
  ⟨(some 86), none, .op (.fad 2 (.t 85))⟩,
  ⟨none, none, .op (.store 1 (.t 86) (.t 83))⟩] []))
  .skip)))))))
  (.reg [⟨(some 87), none, .op (.bin .none .add (.t 23) (.v (.int .i64 1)))⟩,
  ⟨(some 23), none, .op (.mv (.t 87))⟩] []))))))))
theorem c41 : codeOf Try.prog 41 = some (88, [], fc41) := by kernel_rfl
def fc42 : FC := (.seq (.reg [⟨(some 3), none, .op (.box (.t 0))⟩,
  ⟨(some 5), none, .op (.box (.t 2))⟩,
  ⟨(some 6), none, .op (.new [(.int .u8 0), (.int .u8 0), (.int .i64 0), (.int .i64 0), (.int .i64 0), (.int .i64 0), (.int .i64 0), (.int .i64 0), (.int .u64 0), .nils, (.int .i64 0), (.int .i64 0)])⟩] [])
  (.seq (.reg [⟨(some 13), none, .op (.load none (.t 3))⟩,
  ⟨(some 14), none, .op (.nchk (.t 13))⟩,
  ⟨(some 15), none, .op (.fad 1 (.t 14))⟩,
  ⟨(some 16), none, .op (.load none (.t 15))⟩,
  ⟨(some 17), none, .op (.nchk (.t 16))⟩,
  ⟨(some 18), none, .op (.fad 4 (.t 17))⟩,
  ⟨(some 19), none, .op (.load none (.t 18))⟩,
  ⟨(some 20), none, .op (.mv (.t 1))⟩,
  ⟨(some 21), none, .op (.iad none (some 3) (.t 19) (.t 20))⟩,
  ⟨(some 22), none, .op (.load (some 3) (.t 21))⟩,
  ⟨(some 7), none, .op (.new [(.int .u8 0), (.int .i64 0), (.int .u64 0)])⟩,
  ⟨none, none, .op (.store 3 (.t 7) (.t 22))⟩] [])
  (.seq (.reg [⟨(some 23), none, .op (.load none (.t 5))⟩,
  ⟨(some 24), none, .op (.len .sl (.t 23))⟩,
  ⟨(some 8), none, .op (.new [(.int .i64 0)])⟩,
  ⟨none, none, .op (.store 1 (.t 8) (.t 24))⟩] [])
  (.seq (.reg [⟨(some 25), none, .op (.mkf (.func 70) [] [(.t 3), (.t 8), (.t 5)])⟩,
  ⟨(some 9), none, .op (.mv (.t 25))⟩] [])
  (.seq (.reg [⟨(some 26), none, .op (.load none (.t 3))⟩,
  ⟨(some 27), none, .op (.load none (.t 8))⟩,
  ⟨(some 28), none, .call 71 [(.t 26), (.t 27), (.v (.int .u8 0))]⟩,
  ⟨(some 10), none, .op (.mv (.t 28))⟩] [])
  (.seq (.reg [⟨(some 29), none, .op (.build [(.int .u8 0), (.int .u8 0), (.int .i64 0), (.int .i64 0), (.int .i64 0), (.int .i64 0), (.int .i64 0), (.int .i64 0), (.int .u64 0), .nils, (.int .i64 0), (.int .i64 0)] [])⟩,
  ⟨(some 11), none, .op (.new [(.int .u8 0), (.int .u8 0), (.int .i64 0), (.int .i64 0), (.int .i64 0), (.int .i64 0), (.int .i64 0), (.int .i64 0), (.int .u64 0), .nils, (.int .i64 0), (.int .i64 0)])⟩,
  ⟨none, none, .op (.store 12 (.t 11) (.t 29))⟩] [])
  (.seq (.seq (.reg [⟨(some 30), none, .op (.fad 0 (.t 7))⟩,
  ⟨(some 31), none, .op (.load none (.t 30))⟩] [])
  (.block 0 (.seq (.reg [⟨(some 42), none, .op (.bin .none .eql (.t 31) (.v (.int .u8 1)))⟩,
  ⟨(some 41), none, .op (.mv (.t 42))⟩] [])
  (.cond (.t 41)
  (.reg [⟨(some 43), none, .op (.mv (.t 10))⟩,
  ⟨(some 44), none, .op (.fad 2 (.t 7))⟩,
  ⟨(some 45), none, .op (.load none (.t 44))⟩,
  ⟨(some 46), none, .op (.build [(.int .u8 0), (.int .u8 0), (.int .i64 0), (.int .i64 0), (.int .i64 0), (.int .i64 0), (.int .i64 0), (.int .i64 0), (.int .u64 0), .nils, (.int .i64 0), (.int .i64 0)] [(0, 1, (.v (.int .u8 1))), (2, 1, (.t 43)), (8, 1, (.t 45))])⟩,
  ⟨none, none, .op (.store 12 (.t 11) (.t 46))⟩] [])
  (.seq (.reg [⟨(some 48), none, .op (.bin .none .eql (.t 31) (.v (.int .u8 2)))⟩,
  ⟨(some 47), none, .op (.mv (.t 48))⟩] [])
  (.cond (.t 47)
  (.reg [⟨(some 49), none, .op (.load none (.t 3))⟩,
  ⟨(some 50), none, .op (.fad 1 (.t 7))⟩,
  ⟨(some 51), none, .op (.load none (.t 50))⟩,
  ⟨(some 52), none, .op (.load none (.t 3))⟩,
  ⟨(some 53), none, .op (.load none (.t 8))⟩,
  ⟨(some 54), none, .op (.load none (.t 3))⟩,
  ⟨(some 55), none, .op (.nchk (.t 54))⟩,
  ⟨(some 56), none, .op (.fad 1 (.t 55))⟩,
  ⟨(some 57), none, .op (.load none (.t 56))⟩,
  ⟨(some 58), none, .op (.nchk (.t 57))⟩,
  ⟨(some 59), none, .op (.fad 1 (.t 58))⟩,
  ⟨(some 60), none, .op (.load none (.t 59))⟩,
  ⟨(some 61), none, .op (.fad 1 (.t 7))⟩,
  ⟨(some 62), none, .op (.load none (.t 61))⟩,
  ⟨(some 63), none, .op (.iad none none (.t 60) (.t 62))⟩,
  ⟨(some 64), none, .op (.load none (.t 63))⟩,
  ⟨(some 65), none, .call 71 [(.t 52), (.t 53), (.t 64)]⟩,
  ⟨(some 66), none, .call 72 [(.t 49), (.t 51), (.t 65), (.v (.bool false))]⟩,
  ⟨none, none, .op (.store 12 (.t 11) (.t 66))⟩] [(0, 16), (2, 16)])
  (.seq (.reg [⟨(some 68), none, .op (.bin .none .eql (.t 31) (.v (.int .u8 3)))⟩,
  ⟨(some 67), none, .op (.mv (.t 68))⟩] [])
  (.cond (.t 67)
  (.reg [⟨(some 69), none, .op (.load none (.t 3))⟩,
  ⟨(some 70), none, .op (.fad 1 (.t 7))⟩,
  ⟨(some 71), none, .op (.load none (.t 70))⟩,
  ⟨(some 72), none, .op (.mv (.t 9))⟩,
  ⟨(some 73), none, .callv (.t 72) [(.v (.int .i64 1))]⟩,
  ⟨(some 74), none, .call 72 [(.t 69), (.t 71), (.t 73), (.v (.bool true))]⟩,
  ⟨none, none, .op (.store 12 (.t 11) (.t 74))⟩] [(0, 4), (2, 4)])
  (.seq (.reg [⟨(some 76), none, .op (.bin .none .eql (.t 31) (.v (.int .u8 4)))⟩,
  ⟨(some 75), none, .op (.mv (.t 76))⟩] [])
  (.cond (.t 75)
  (.reg [⟨(some 77), none, .op (.load none (.t 3))⟩,
  ⟨(some 78), none, .op (.load none (.t 8))⟩,
  ⟨(some 79), none, .call 71 [(.t 77), (.t 78), (.v (.int .u8 1))]⟩,
  ⟨(some 80), none, .op (.load none (.t 3))⟩,
  ⟨(some 81), none, .op (.nchk (.t 80))⟩,
  ⟨(some 82), none, .op (.fad 2 (.t 81))⟩,
  ⟨(some 83), none, .op (.load none (.t 82))⟩,
  ⟨(some 84), none, .op (.fad 1 (.t 7))⟩,
  ⟨(some 85), none, .op (.load none (.t 84))⟩,
  ⟨(some 86), none, .op (.iad none none (.t 83) (.t 85))⟩,
  ⟨(some 87), none, .op (.load none (.t 86))⟩,
  ⟨(some 88), none, .op (.build [(.int .u8 0), (.int .u8 0), (.int .i64 0), (.int .i64 0), (.int .i64 0), (.int .i64 0), (.int .i64 0), (.int .i64 0), (.int .u64 0), .nils, (.int .i64 0), (.int .i64 0)] [(0, 1, (.v (.int .u8 6))), (2, 1, (.t 79)), (7, 1, (.t 87))])⟩,
  ⟨none, none, .op (.store 12 (.t 11) (.t 88))⟩] [(2, 3), (2, 6), (2, 8), (2, 10)])
  (.seq (.reg [⟨(some 90), none, .op (.bin .none .eql (.t 31) (.v (.int .u8 5)))⟩,
  ⟨(some 89), none, .op (.mv (.t 90))⟩] [])
  (.cond (.t 89)
  (.reg [⟨(some 91), none, .op (.load none (.t 3))⟩,
  ⟨(some 92), none, .op (.load none (.t 8))⟩,
  ⟨(some 93), none, .op (.bin .none .sub (.t 92) (.v (.int .i64 1)))⟩,
  ⟨(some 94), none, .call 71 [(.t 91), (.t 93), (.v (.int .u8 0))]⟩,
  ⟨(some 95), none, .op (.mv (.t 9))⟩,
  ⟨(some 96), none, .callv (.t 95) [(.v (.int .i64 1))]⟩,
  ⟨(some 97), none, .op (.build [(.int .u8 0), (.int .u8 0), (.int .i64 0), (.int .i64 0), (.int .i64 0), (.int .i64 0), (.int .i64 0), (.int .i64 0), (.int .u64 0), .nils, (.int .i64 0), (.int .i64 0)] [(0, 1, (.v (.int .u8 7))), (2, 1, (.t 94)), (4, 1, (.t 96))])⟩,
  ⟨none, none, .op (.store 12 (.t 11) (.t 97))⟩] [])
  (.seq (.reg [⟨(some 99), none, .op (.bin .none .eql (.t 31) (.v (.int .u8 6)))⟩,
  ⟨(some 98), none, .op (.mv (.t 99))⟩] [])
  (.cond (.t 98)
  (.reg [⟨(some 100), none, .op (.mv (.t 9))⟩,
  ⟨(some 101), none, .callv (.t 100) [(.v (.int .i64 2))]⟩,
  ⟨(some 102), none, .op (.mv (.t 9))⟩,
  ⟨(some 103), none, .callv (.t 102) [(.v (.int .i64 1))]⟩,
  ⟨(some 104), none, .op (.build [(.int .u8 0), (.int .u8 0), (.int .i64 0), (.int .i64 0), (.int .i64 0), (.int .i64 0), (.int .i64 0), (.int .i64 0), (.int .u64 0), .nils, (.int .i64 0), (.int .i64 0)] [(0, 1, (.v (.int .u8 8))), (4, 1, (.t 101)), (5, 1, (.t 103))])⟩,
  ⟨none, none, .op (.store 12 (.t 11) (.t 104))⟩] [])
  (.seq (.seq (.reg [⟨(some 106), none, .op (.bin .none .eql (.t 31) (.v (.int .u8 21)))⟩,
  ⟨(some 105), none, .op (.mv (.t 106))⟩] [])
  (.cond (.t 105)
  .skip
  (.reg [⟨(some 107), none, .op (.bin .none .eql (.t 31) (.v (.int .u8 31)))⟩,
  ⟨(some 105), none, .op (.mv (.t 107))⟩] [])))
  (.cond (.t 105)
  (.reg [⟨(some 108), none, .op (.build [(.int .u8 0), (.int .u8 0), (.int .i64 0), (.int .i64 0), (.int .i64 0), (.int .i64 0), (.int .i64 0), (.int .i64 0), (.int .u64 0), .nils, (.int .i64 0), (.int .i64 0)] [(0, 1, (.v (.int .u8 10)))])⟩,
  ⟨none, none, .op (.store 12 (.t 11) (.t 108))⟩] [])
  (.seq (.reg [⟨(some 110), none, .op (.bin .none .eql (.t 31) (.v (.int .u8 22)))⟩,
  ⟨(some 109), none, .op (.mv (.t 110))⟩] [])
  (.cond (.t 109)
  (.reg [⟨(some 111), none, .op (.mv (.t 9))⟩,
  ⟨(some 112), none, .callv (.t 111) [(.v (.int .i64 1))]⟩,
  ⟨(some 113), none, .op (.fad 1 (.t 7))⟩,
  ⟨(some 114), none, .op (.load none (.t 113))⟩,
  ⟨(some 115), none, .op (.build [(.int .u8 0), (.int .u8 0), (.int .i64 0), (.int .i64 0), (.int .i64 0), (.int .i64 0), (.int .i64 0), (.int .i64 0), (.int .u64 0), .nils, (.int .i64 0), (.int .i64 0)] [(0, 1, (.v (.int .u8 9))), (4, 1, (.t 112)), (11, 1, (.t 114))])⟩,
  ⟨none, none, .op (.store 12 (.t 11) (.t 115))⟩] [(1, 3)])
  (.seq (.reg [⟨(some 117), none, .op (.bin .none .eql (.t 31) (.v (.int .u8 23)))⟩,
  ⟨(some 116), none, .op (.mv (.t 117))⟩] [])
  (.cond (.t 116)
  (.seq (.reg [⟨(some 118), none, .op (.load none (.t 3))⟩,
  ⟨(some 119), none, .op (.nchk (.t 118))⟩,
  ⟨(some 120), none, .op (.fad 0 (.t 119))⟩,
  ⟨(some 121), none, .op (.load none (.t 120))⟩,
  ⟨(some 122), none, .op (.nchk (.t 121))⟩,
  ⟨(some 123), none, .op (.fad 0 (.t 122))⟩,
  ⟨(some 124), none, .op (.load none (.t 123))⟩,
  ⟨(some 125), none, .op (.fad 1 (.t 7))⟩,
  ⟨(some 126), none, .op (.load none (.t 125))⟩,
  ⟨(some 127), none, .op (.iad none (some 5) (.t 124) (.t 126))⟩,
  ⟨(some 128), none, .op (.load (some 5) (.t 127))⟩,
  ⟨(some 12), none, .op (.new [(.int .i64 0), .nils, (.bool false), (.int .i64 0), .nils])⟩,
  ⟨none, none, .op (.store 5 (.t 12) (.t 128))⟩] [(0, 11), (3, 11), (6, 11), (8, 11), (10, 11)])
  (.seq (.reg [⟨(some 129), none, .op (.fad 1 (.t 7))⟩,
  ⟨(some 130), none, .op (.load none (.t 129))⟩,
  ⟨(some 131), none, .op (.load none (.t 3))⟩,
  ⟨(some 132), none, .op (.load none (.t 5))⟩,
  ⟨(some 133), none, .op (.fad 1 (.t 7))⟩,
  ⟨(some 134), none, .op (.load none (.t 133))⟩,
  ⟨(some 135), none, .call 73 [(.t 131), (.t 132), (.t 134)]⟩,
  ⟨(some 136), none, .op (.build [(.int .u8 0), (.int .u8 0), (.int .i64 0), (.int .i64 0), (.int .i64 0), (.int .i64 0), (.int .i64 0), (.int .i64 0), (.int .u64 0), .nils, (.int .i64 0), (.int .i64 0)] [(0, 1, (.v (.int .u8 11))), (6, 1, (.t 130)), (9, 1, (.t 135)), (2, 1, (.v (.int .i64 (-1))))])⟩,
  ⟨none, none, .op (.store 12 (.t 11) (.t 136))⟩] [(1, 6)])
  (.seq (.reg [⟨(some 137), none, .op (.fad 2 (.t 12))⟩,
  ⟨(some 138), none, .op (.load none (.t 137))⟩] [])
  (.cond (.t 138)
  (.reg [⟨(some 139), none, .op (.load none (.t 3))⟩,
  ⟨(some 140), none, .op (.load none (.t 8))⟩,
  ⟨(some 141), none, .op (.fad 0 (.t 12))⟩,
  ⟨(some 142), none, .op (.load none (.t 141))⟩,
  ⟨(some 143), none, .op (.bin .none .sub (.t 140) (.t 142))⟩,
  ⟨(some 144), none, .call 71 [(.t 139), (.t 143), (.v (.int .u8 0))]⟩,
  ⟨(some 145), none, .op (.fad 2 (.t 11))⟩,
  ⟨none, none, .op (.store 1 (.t 145) (.t 144))⟩] [])
  .skip))))
  (.seq (.reg [⟨(some 147), none, .op (.bin .none .eql (.t 31) (.v (.int .u8 25)))⟩,
  ⟨(some 146), none, .op (.mv (.t 147))⟩] [])
  (.cond (.t 146)
  (.reg [⟨(some 148), none, .op (.fad 1 (.t 7))⟩,
  ⟨(some 149), none, .op (.load none (.t 148))⟩,
  ⟨(some 150), none, .op (.load none (.t 3))⟩,
  ⟨(some 151), none, .op (.load none (.t 5))⟩,
  ⟨(some 152), none, .op (.fad 1 (.t 7))⟩,
  ⟨(some 153), none, .op (.load none (.t 152))⟩,
  ⟨(some 154), none, .call 73 [(.t 150), (.t 151), (.t 153)]⟩,
  ⟨(some 155), none, .op (.build [(.int .u8 0), (.int .u8 0), (.int .i64 0), (.int .i64 0), (.int .i64 0), (.int .i64 0), (.int .i64 0), (.int .i64 0), (.int .u64 0), .nils, (.int .i64 0), (.int .i64 0)] [(0, 1, (.v (.int .u8 13))), (6, 1, (.t 149)), (9, 1, (.t 154))])⟩,
  ⟨none, none, .op (.store 12 (.t 11) (.t 155))⟩] [(1, 6)])
  (.seq (.reg [⟨(some 157), none, .op (.bin .none .eql (.t 31) (.v (.int .u8 24)))⟩,
  ⟨(some 156), none, .op (.mv (.t 157))⟩] [])
  (.cond (.t 156)
  (.seq (.reg [⟨(some 158), none, .op (.build [(.int .u8 0), (.int .u8 0), (.int .i64 0), (.int .i64 0), (.int .i64 0), (.int .i64 0), (.int .i64 0), (.int .i64 0), (.int .u64 0), .nils, (.int .i64 0), (.int .i64 0)] [(0, 1, (.v (.int .u8 12))), (4, 1, (.v (.int .i64 (-1))))])⟩,
  ⟨none, none, .op (.store 12 (.t 11) (.t 158))⟩] [])
  (.seq (.reg [⟨(some 159), none, .op (.load none (.t 3))⟩,
  ⟨(some 160), none, .op (.nchk (.t 159))⟩,
  ⟨(some 161), none, .op (.fad 1 (.t 160))⟩,
  ⟨(some 162), none, .op (.load none (.t 161))⟩,
  ⟨(some 163), none, .op (.nchk (.t 162))⟩,
  ⟨(some 164), none, .op (.fad 2 (.t 163))⟩,
  ⟨(some 165), none, .op (.load none (.t 164))⟩] [])
  (.cond (.t 165)
  (.reg [⟨(some 166), none, .op (.mv (.t 9))⟩,
  ⟨(some 167), none, .callv (.t 166) [(.v (.int .i64 1))]⟩,
  ⟨(some 168), none, .op (.fad 4 (.t 11))⟩,
  ⟨none, none, .op (.store 1 (.t 168) (.t 167))⟩] [])
  .skip)))
  (.seq (.reg [⟨(some 170), none, .op (.bin .none .eql (.t 31) (.v (.int .u8 26)))⟩,
  ⟨(some 169), none, .op (.mv (.t 170))⟩] [])
  (.cond (.t 169)
  (.reg [⟨(some 171), none, .op (.mv (.t 9))⟩,
  ⟨(some 172), none, .callv (.t 171) [(.v (.int .i64 1))]⟩,
  ⟨(some 173), none, .op (.build [(.int .u8 0), (.int .u8 0), (.int .i64 0), (.int .i64 0), (.int .i64 0), (.int .i64 0), (.int .i64 0), (.int .i64 0), (.int .u64 0), .nils, (.int .i64 0), (.int .i64 0)] [(0, 1, (.v (.int .u8 14))), (4, 1, (.t 172))])⟩,
  ⟨none, none, .op (.store 12 (.t 11) (.t 173))⟩] [])
  (.seq (.reg [⟨(some 175), none, .op (.bin .none .eql (.t 31) (.v (.int .u8 27)))⟩,
  ⟨(some 174), none, .op (.mv (.t 175))⟩] [])
  (.cond (.t 174)
  (.reg [⟨(some 176), none, .op (.mv (.t 10))⟩,
  ⟨(some 177), none, .op (.load none (.t 3))⟩,
  ⟨(some 178), none, .op (.load none (.t 8))⟩,
  ⟨(some 179), none, .op (.bin .none .add (.t 178) (.v (.int .i64 1)))⟩,
  ⟨(some 180), none, .call 71 [(.t 177), (.t 179), (.v (.int .u8 0))]⟩,
  ⟨(some 181), none, .op (.build [(.int .u8 0), (.int .u8 0), (.int .i64 0), (.int .i64 0), (.int .i64 0), (.int .i64 0), (.int .i64 0), (.int .i64 0), (.int .u64 0), .nils, (.int .i64 0), (.int .i64 0)] [(0, 1, (.v (.int .u8 15))), (2, 1, (.t 176)), (3, 1, (.t 180))])⟩,
  ⟨none, none, .op (.store 12 (.t 11) (.t 181))⟩] [])
  (.seq (.reg [⟨(some 183), none, .op (.bin .none .eql (.t 31) (.v (.int .u8 28)))⟩,
  ⟨(some 182), none, .op (.mv (.t 183))⟩] [])
  (.cond (.t 182)
  (.reg [⟨(some 184), none, .op (.mv (.t 10))⟩,
  ⟨(some 185), none, .op (.build [(.int .u8 0), (.int .u8 0), (.int .i64 0), (.int .i64 0), (.int .i64 0), (.int .i64 0), (.int .i64 0), (.int .i64 0), (.int .u64 0), .nils, (.int .i64 0), (.int .i64 0)] [(0, 1, (.v (.int .u8 16))), (2, 1, (.t 184))])⟩,
  ⟨none, none, .op (.store 12 (.t 11) (.t 185))⟩] [])
  (.seq (.reg [⟨(some 187), none, .op (.bin .none .eql (.t 31) (.v (.int .u8 29)))⟩,
  ⟨(some 186), none, .op (.mv (.t 187))⟩] [])
  (.cond (.t 186)
  (.reg [⟨(some 188), none, .op (.mv (.t 9))⟩,
  ⟨(some 189), none, .callv (.t 188) [(.v (.int .i64 1))]⟩,
  ⟨(some 190), none, .op (.build [(.int .u8 0), (.int .u8 0), (.int .i64 0), (.int .i64 0), (.int .i64 0), (.int .i64 0), (.int .i64 0), (.int .i64 0), (.int .u64 0), .nils, (.int .i64 0), (.int .i64 0)] [(0, 1, (.v (.int .u8 17))), (4, 1, (.t 189))])⟩,
  ⟨none, none, .op (.store 12 (.t 11) (.t 190))⟩] [])
  (.seq (.reg [⟨(some 192), none, .op (.bin .none .eql (.t 31) (.v (.int .u8 30)))⟩,
  ⟨(some 191), none, .op (.mv (.t 192))⟩] [])
  (.cond (.t 191)
  (.reg [⟨(some 193), none, .op (.mv (.t 9))⟩,
  ⟨(some 194), none, .callv (.t 193) [(.v (.int .i64 1))]⟩,
  ⟨(some 195), none, .op (.build [(.int .u8 0), (.int .u8 0), (.int .i64 0), (.int .i64 0), (.int .i64 0), (.int .i64 0), (.int .i64 0), (.int .i64 0), (.int .u64 0), .nils, (.int .i64 0), (.int .i64 0)] [(0, 1, (.v (.int .u8 18))), (4, 1, (.t 194))])⟩,
  ⟨none, none, .op (.store 12 (.t 11) (.t 195))⟩] [])
  (.seq (.reg [⟨(some 197), none, .op (.bin .none .eql (.t 31) (.v (.int .u8 32)))⟩,
  ⟨(some 196), none, .op (.mv (.t 197))⟩] [])
  (.cond (.t 196)
  (.reg [⟨(some 198), none, .op (.load none (.t 3))⟩,
  ⟨(some 199), none, .op (.load none (.t 8))⟩,
  ⟨(some 200), none, .op (.load none (.t 5))⟩,
  ⟨(some 201), none, .op (.load none (.t 8))⟩,
  ⟨(some 202), none, .op (.bin .none .sub (.t 201) (.v (.int .i64 1)))⟩,
  ⟨(some 203), none, .op (.iad none none (.t 200) (.t 202))⟩,
  ⟨(some 204), none, .op (.load none (.t 203))⟩,
  ⟨(some 205), none, .call 71 [(.t 198), (.t 199), (.t 204)]⟩,
  ⟨(some 206), none, .op (.mv (.t 9))⟩,
  ⟨(some 207), none, .callv (.t 206) [(.v (.int .i64 1))]⟩,
  ⟨(some 208), none, .op (.build [(.int .u8 0), (.int .u8 0), (.int .i64 0), (.int .i64 0), (.int .i64 0), (.int .i64 0), (.int .i64 0), (.int .i64 0), (.int .u64 0), .nils, (.int .i64 0), (.int .i64 0)] [(0, 1, (.v (.int .u8 2))), (2, 1, (.t 205)), (4, 1, (.t 207))])⟩,
  ⟨none, none, .op (.store 12 (.t 11) (.t 208))⟩] [])
  (.reg [⟨(some 32), none, .op (.fad 0 (.t 7))⟩,
  ⟨(some 33), none, .op (.load none (.t 32))⟩,
  ⟨(some 34), none, .op (.mv (.t 9))⟩,
  ⟨(some 35), none, .callv (.t 34) [(.v (.int .i64 2))]⟩,
  ⟨(some 36), none, .op (.mv (.t 9))⟩,
  ⟨(some 37), none, .callv (.t 36) [(.v (.int .i64 2))]⟩,
  ⟨(some 38), none, .op (.mv (.t 9))⟩,
  ⟨(some 39), none, .callv (.t 38) [(.v (.int .i64 1))]⟩,
  ⟨(some 40), none, .op (.build [(.int .u8 0), (.int .u8 0), (.int .i64 0), (.int .i64 0), (.int .i64 0), (.int .i64 0), (.int .i64 0), (.int .i64 0), (.int .u64 0), .nils, (.int .i64 0), (.int .i64 0)] [(0, 1, (.v (.int .u8 3))), (1, 1, (.t 33)), (2, 1, (.t 35)), (4, 1, (.t 37)), (5, 1, (.t 39))])⟩,
  ⟨none, none, .op (.store 12 (.t 11) (.t 40))⟩] [(1, 3), (1, 5), (1, 7)])))))))))))))))))))))))))))))))))))))
  (.seq (.reg [⟨(some 209), none, .op (.mv (.t 1))⟩,
  ⟨(some 210), none, .op (.bin .none .add (.t 209) (.v (.int .i64 1)))⟩,
  ⟨(some 211), none, .op (.load none (.t 3))⟩,
  ⟨(some 212), none, .op (.nchk (.t 211))⟩,
  ⟨(some 213), none, .op (.fad 1 (.t 212))⟩,
  ⟨(some 214), none, .op (.load none (.t 213))⟩,
  ⟨(some 215), none, .op (.nchk (.t 214))⟩,
  ⟨(some 216), none, .op (.fad 4 (.t 215))⟩,
  ⟨(some 217), none, .op (.load none (.t 216))⟩,
  ⟨(some 218), none, .op (.len .sl (.t 217))⟩,
  ⟨(some 219), none, .op (.bin .none .sub (.t 218) (.v (.int .i64 1)))⟩,
  ⟨(some 220), none, .op (.mn false (.t 210) (.t 219))⟩,
  ⟨(some 221), none, .op (.fad 10 (.t 11))⟩,
  ⟨none, none, .op (.store 1 (.t 221) (.t 220))⟩] [])
  (.seq (.seq (.reg [⟨(some 222), none, .op (.fad 0 (.t 7))⟩,
  ⟨(some 223), none, .op (.load none (.t 222))⟩,
  ⟨(some 224), none, .op (.bin .none .eql (.t 223) (.v (.int .u8 21)))⟩] [])
  (.cond (.t 224)
  (.reg [⟨(some 225), none, .op (.fad 1 (.t 7))⟩,
  ⟨(some 226), none, .op (.load none (.t 225))⟩,
  ⟨(some 227), none, .op (.fad 10 (.t 11))⟩,
  ⟨none, none, .op (.store 1 (.t 227) (.t 226))⟩] [])
  .skip))
  (.seq (.reg [⟨(some 228), none, .op (.load (some 12) (.t 11))⟩,
  ⟨none, none, .op (.store 12 (.t 6) (.t 228))⟩] [])
  .ret))))))))))
theorem c42 : codeOf Try.prog 42 = some (229, [(6, (some (some 12)))], fc42) := by kernel_rfl
def fc44 : FC := (.seq (.reg [⟨(some 4), none, .op (.box (.t 0))⟩,
  ⟨(some 8), none, .op (.mv (.v (.bool false)))⟩] [])
  (.seq (.reg [⟨(some 9), none, .op (.mv (.t 2))⟩,
  ⟨(some 10), none, .op (.bin .none .geq (.t 9) (.v (.int .i64 0)))⟩,
  ⟨(some 11), none, .op (.mv (.t 10))⟩,
  ⟨(some 12), some (11, true), .op (.mv (.t 2))⟩,
  ⟨(some 13), some (11, true), .op (.fad 1 (.t 4))⟩,
  ⟨(some 14), some (11, true), .op (.load none (.t 13))⟩,
  ⟨(some 15), some (11, true), .op (.len .sl (.t 14))⟩,
  ⟨(some 16), some (11, true), .op (.bin .none .lss (.t 12) (.t 15))⟩,
  ⟨(some 17), none, .op (.pick (.t 11) (.t 16) (.v (.bool false)))⟩,
  ⟨(some 18), none, .op (.mv (.t 17))⟩,
  ⟨(some 19), some (18, true), .op (.mv (.t 1))⟩,
  ⟨(some 20), some (18, true), .op (.mv (.t 19))⟩,
  ⟨(some 21), some (20, false), .op (.fad 1 (.t 4))⟩,
  ⟨(some 22), some (20, false), .op (.load none (.t 21))⟩,
  ⟨(some 23), some (20, false), .op (.mv (.t 2))⟩,
  ⟨(some 24), some (20, false), .op (.iad none none (.t 22) (.t 23))⟩,
  ⟨(some 25), some (20, false), .op (.load none (.t 24))⟩,
  ⟨(some 26), some (20, false), .op (.mv (.t 3))⟩,
  ⟨(some 27), some (20, false), .op (.bin .none .eql (.t 25) (.t 26))⟩,
  ⟨(some 28), some (18, true), .op (.pick (.t 20) (.v (.bool true)) (.t 27))⟩,
  ⟨(some 29), none, .op (.pick (.t 18) (.t 28) (.v (.bool false)))⟩,
  ⟨(some 8), none, .op (.mv (.t 29))⟩] [])
  .ret))
theorem c44 : codeOf Try.prog 44 = some (30, [(8, none)], fc44) := by kernel_rfl
def fc45 : FC := (.seq (.reg [⟨(some 1), none, .op (.box (.t 0))⟩,
  ⟨(some 2), none, .op (.mv (.v .nils))⟩] [])
  (.seq (.seq (.reg [⟨(some 3), none, .op (.fad 0 (.t 1))⟩,
  ⟨(some 4), none, .op (.load none (.t 3))⟩,
  ⟨(some 5), none, .op (.bin .none .lss (.t 4) (.v (.int .u8 1)))⟩,
  ⟨(some 6), none, .op (.mv (.t 5))⟩,
  ⟨(some 7), some (6, false), .op (.fad 0 (.t 1))⟩,
  ⟨(some 8), some (6, false), .op (.load none (.t 7))⟩,
  ⟨(some 9), some (6, false), .op (.bin .none .gtr (.t 8) (.v (.int .u8 18)))⟩,
  ⟨(some 10), none, .op (.pick (.t 6) (.v (.bool true)) (.t 9))⟩,
  ⟨(some 11), none, .op (.mv (.t 10))⟩,
  ⟨(some 12), some (11, false), .op (.fad 0 (.t 1))⟩,
  ⟨(some 13), some (11, false), .op (.load none (.t 12))⟩,
  ⟨(some 14), some (11, false), .op (.bin .none .eql (.t 13) (.v (.int .u8 12)))⟩,
  ⟨(some 15), none, .op (.pick (.t 11) (.v (.bool true)) (.t 14))⟩,
  ⟨(some 16), none, .op (.mv (.t 15))⟩,
  ⟨(some 17), some (16, false), .op (.fad 0 (.t 1))⟩,
  ⟨(some 18), some (16, false), .op (.load none (.t 17))⟩,
  ⟨(some 19), some (16, false), .op (.bin .none .eql (.t 18) (.v (.int .u8 14)))⟩,
  ⟨(some 20), none, .op (.pick (.t 16) (.v (.bool true)) (.t 19))⟩,
  ⟨(some 21), none, .op (.mv (.t 20))⟩,
  ⟨(some 22), some (21, false), .op (.fad 0 (.t 1))⟩,
  ⟨(some 23), some (21, false), .op (.load none (.t 22))⟩,
  ⟨(some 24), some (21, false), .op (.bin .none .eql (.t 23) (.v (.int .u8 18)))⟩,
  ⟨(some 25), none, .op (.pick (.t 21) (.v (.bool true)) (.t 24))⟩] [])
  (.cond (.t 25)
  (.seq (.reg [⟨(some 2), none, .op (.mv (.v .nils))⟩] [])
  .ret)
  .skip))
  (.seq (.seq (.reg [⟨(some 26), none, .op (.fad 0 (.t 1))⟩,
  ⟨(some 27), none, .op (.load none (.t 26))⟩,
  ⟨(some 28), none, .op (.bin .none .eql (.t 27) (.v (.int .u8 9)))⟩,
  ⟨(some 29), none, .op (.mv (.t 28))⟩,
  ⟨(some 30), some (29, true), .op (.fad 11 (.t 1))⟩,
  ⟨(some 31), some (29, true), .op (.load none (.t 30))⟩,
  ⟨(some 32), some (29, true), .op (.fad 10 (.t 1))⟩,
  ⟨(some 33), some (29, true), .op (.load none (.t 32))⟩,
  ⟨(some 34), some (29, true), .op (.bin .none .neq (.t 31) (.t 33))⟩,
  ⟨(some 35), none, .op (.pick (.t 29) (.t 34) (.v (.bool false)))⟩] [])
  (.cond (.t 35)
  (.seq (.reg [⟨(some 36), none, .op (.fad 10 (.t 1))⟩,
  ⟨(some 37), none, .op (.load none (.t 36))⟩,
  ⟨(some 38), none, .op (.fad 11 (.t 1))⟩,
  ⟨(some 39), none, .op (.load none (.t 38))⟩,
  ⟨(some 40), none, .op (.bsl none [(.int .i64 0)] 2 [(0, 1, (.t 37)), (1, 1, (.t 39))])⟩,
  ⟨(some 2), none, .op (.mv (.t 40))⟩] [])
  .ret)
  .skip))
  (.seq (.reg [⟨(some 41), none, .op (.fad 10 (.t 1))⟩,
  ⟨(some 42), none, .op (.load none (.t 41))⟩,
  ⟨(some 43), none, .op (.bsl none [(.int .i64 0)] 1 [(0, 1, (.t 42))])⟩,
  ⟨(some 2), none, .op (.mv (.t 43))⟩] [])
  .ret))))
theorem c45 : codeOf Try.prog 45 = some (44, [(2, none)], fc45) := by kernel_rfl
def fc46 : FC := (.seq (.reg [⟨(some 2), none, .op (.mv (.v (.str (ByteArray.mk #[]))))⟩] [])
  (.seq (.reg [⟨(some 3), none, .op (.bsl none [(.str (ByteArray.mk #[]))] 18 [(0, 1, (.v (.str (ByteArray.mk #[110, 45, 45, 45])))), (1, 1, (.v (.str (ByteArray.mk #[61, 45, 61, 45])))), (2, 1, (.v (.str (ByteArray.mk #[110, 45, 110, 110])))), (3, 1, (.v (.str (ByteArray.mk #[110, 45, 45, 45])))), (4, 1, (.v (.str (ByteArray.mk #[45, 45, 110, 45])))), (5, 1, (.v (.str (ByteArray.mk #[112, 45, 45, 45])))), (6, 1, (.v (.str (ByteArray.mk #[110, 45, 112, 45])))), (7, 1, (.v (.str (ByteArray.mk #[45, 45, 112, 110])))), (8, 1, (.v (.str (ByteArray.mk #[45, 45, 110, 45])))), (9, 1, (.v (.str (ByteArray.mk #[45, 45, 45, 45])))), (10, 1, (.v (.str (ByteArray.mk #[45, 45, 45, 45])))), (11, 1, (.v (.str (ByteArray.mk #[45, 45, 45, 45])))), (12, 1, (.v (.str (ByteArray.mk #[45, 45, 45, 45])))), (13, 1, (.v (.str (ByteArray.mk #[45, 45, 110, 45])))), (14, 1, (.v (.str (ByteArray.mk #[110, 110, 45, 45])))), (15, 1, (.v (.str (ByteArray.mk #[110, 45, 45, 45])))), (16, 1, (.v (.str (ByteArray.mk #[45, 45, 110, 45])))), (17, 1, (.v (.str (ByteArray.mk #[45, 45, 110, 45]))))])⟩,
  ⟨(some 4), none, .op (.mv (.t 0))⟩,
  ⟨(some 5), none, .op (.bin .none .sub (.t 4) (.v (.int .u8 1)))⟩,
  ⟨(some 6), none, .op (.iad none none (.t 3) (.t 5))⟩,
  ⟨(some 7), none, .op (.load none (.t 6))⟩,
  ⟨(some 2), none, .op (.mv (.t 7))⟩] [])
  .ret))
theorem c46 : codeOf Try.prog 46 = some (8, [(2, none)], fc46) := by kernel_rfl
def fc47 : FC := (.seq (.seq (.reg [⟨(some 6), none, .op (.mv (.t 1))⟩,
  ⟨(some 7), none, .op (.bin .none .lss (.t 6) (.v (.int .i64 0)))⟩] [])
  (.cond (.t 7)
  .ret
  .skip))
  (.seq (.seq (.reg [⟨(some 8), none, .op (.mv (.t 0))⟩,
  ⟨(some 9), none, .op (.nchk (.t 8))⟩,
  ⟨(some 10), none, .op (.fad 1 (.t 9))⟩,
  ⟨(some 11), none, .op (.load none (.t 10))⟩,
  ⟨(some 12), none, .op (.mv (.t 11))⟩,
  ⟨(some 13), some (12, true), .op (.mv (.t 1))⟩,
  ⟨(some 14), some (12, true), .op (.bin .none .lss (.t 13) (.v (.int .i64 16)))⟩,
  ⟨(some 15), none, .op (.pick (.t 12) (.t 14) (.v (.bool false)))⟩] [])
  (.cond (.t 15)
  (.seq (.reg [⟨(some 16), none, .op (.mv (.t 0))⟩,
  ⟨(some 17), none, .op (.nchk (.t 16))⟩,
  ⟨(some 18), none, .op (.fad 2 (.t 17))⟩,
  ⟨(some 19), none, .op (.load none (.t 18))⟩,
  ⟨(some 20), none, .op (.mv (.t 1))⟩,
  ⟨(some 21), none, .op (.mv (.t 2))⟩,
  ⟨(some 22), none, .op (.iad none none (.t 19) (.t 20))⟩,
  ⟨none, none, .op (.store 1 (.t 22) (.t 21))⟩] [])
  .ret)
  .skip))
  (.reg [⟨(some 23), none, .op (.mv (.t 0))⟩,
  ⟨(some 24), none, .op (.nchk (.t 23))⟩,
  ⟨(some 25), none, .op (.fad 3 (.t 24))⟩,
  ⟨(some 26), none, .op (.load none (.t 25))⟩,
  ⟨(some 27), none, .op (.mv (.t 0))⟩,
  ⟨(some 28), none, .op (.nchk (.t 27))⟩,
  ⟨(some 29), none, .op (.fad 3 (.t 28))⟩,
  ⟨(some 30), none, .op (.load none (.t 29))⟩,
  ⟨(some 31), none, .op (.len .sl (.t 30))⟩,
  ⟨(some 32), none, .op (.bin .none .sub (.t 31) (.v (.int .i64 1)))⟩,
  ⟨(some 33), none, .op (.iad none (some 9) (.t 26) (.t 32))⟩,
  ⟨(some 34), none, .op (.fad 3 (.t 33))⟩,
  ⟨(some 35), none, .op (.load none (.t 34))⟩,
  ⟨(some 36), none, .op (.mv (.t 1))⟩,
  ⟨(some 37), none, .op (.mv (.t 2))⟩,
  ⟨(some 38), none, .op (.iad none none (.t 35) (.t 36))⟩,
  ⟨none, none, .op (.store 1 (.t 38) (.t 37))⟩] [])))
theorem c47 : codeOf Try.prog 47 = some (39, [], fc47) := by kernel_rfl
def fc48 : FC := (.seq (.reg [⟨(some 4), none, .op (.mv (.v (.int .u64 0)))⟩] [])
  (.seq (.seq (.reg [⟨(some 5), none, .op (.mv (.t 0))⟩,
  ⟨(some 6), none, .op (.nchk (.t 5))⟩,
  ⟨(some 7), none, .op (.fad 1 (.t 6))⟩,
  ⟨(some 8), none, .op (.load none (.t 7))⟩,
  ⟨(some 9), none, .op (.mv (.t 8))⟩,
  ⟨(some 10), some (9, true), .op (.mv (.t 1))⟩,
  ⟨(some 11), some (9, true), .op (.bin .none .lss (.t 10) (.v (.int .i64 16)))⟩,
  ⟨(some 12), none, .op (.pick (.t 9) (.t 11) (.v (.bool false)))⟩] [])
  (.cond (.t 12)
  (.seq (.reg [⟨(some 13), none, .op (.mv (.t 0))⟩,
  ⟨(some 14), none, .op (.nchk (.t 13))⟩,
  ⟨(some 15), none, .op (.fad 2 (.t 14))⟩,
  ⟨(some 16), none, .op (.load none (.t 15))⟩,
  ⟨(some 17), none, .op (.mv (.t 1))⟩,
  ⟨(some 18), none, .op (.iad none none (.t 16) (.t 17))⟩,
  ⟨(some 19), none, .op (.load none (.t 18))⟩,
  ⟨(some 4), none, .op (.mv (.t 19))⟩] [])
  .ret)
  .skip))
  (.seq (.reg [⟨(some 20), none, .op (.mv (.t 0))⟩,
  ⟨(some 21), none, .op (.nchk (.t 20))⟩,
  ⟨(some 22), none, .op (.fad 3 (.t 21))⟩,
  ⟨(some 23), none, .op (.load none (.t 22))⟩,
  ⟨(some 24), none, .op (.mv (.t 0))⟩,
  ⟨(some 25), none, .op (.nchk (.t 24))⟩,
  ⟨(some 26), none, .op (.fad 3 (.t 25))⟩,
  ⟨(some 27), none, .op (.load none (.t 26))⟩,
  ⟨(some 28), none, .op (.len .sl (.t 27))⟩,
  ⟨(some 29), none, .op (.bin .none .sub (.t 28) (.v (.int .i64 1)))⟩,
  ⟨(some 30), none, .op (.iad none (some 9) (.t 23) (.t 29))⟩,
  ⟨(some 31), none, .op (.fad 3 (.t 30))⟩,
  ⟨(some 32), none, .op (.load none (.t 31))⟩,
  ⟨(some 33), none, .op (.mv (.t 1))⟩,
  ⟨(some 34), none, .op (.iad none none (.t 32) (.t 33))⟩,
  ⟨(some 35), none, .op (.load none (.t 34))⟩,
  ⟨(some 4), none, .op (.mv (.t 35))⟩] [])
  .ret)))
theorem c48 : codeOf Try.prog 48 = some (36, [(4, none)], fc48) := by kernel_rfl
def fc53 : FC := (.block 0 (.loop (.seq (.seq (.reg [⟨(some 6), none, .op (.mv (.t 0))⟩,
  ⟨(some 7), none, .op (.nchk (.t 6))⟩,
  ⟨(some 8), none, .op (.fad 7 (.t 7))⟩,
  ⟨(some 9), none, .op (.fad 0 (.t 8))⟩,
  ⟨(some 10), none, .op (.load none (.t 9))⟩,
  ⟨(some 11), none, .op (.bin .none .eql (.t 10) (.v (.int .i64 0)))⟩,
  ⟨(some 12), none, .op (.mv (.t 11))⟩,
  ⟨(some 13), some (12, true), .op (.mv (.t 0))⟩,
  ⟨(some 14), some (12, true), .op (.nchk (.t 13))⟩,
  ⟨(some 15), some (12, true), .op (.fad 3 (.t 14))⟩,
  ⟨(some 16), some (12, true), .op (.load none (.t 15))⟩,
  ⟨(some 17), some (12, true), .op (.mv (.t 0))⟩,
  ⟨(some 18), some (12, true), .op (.nchk (.t 17))⟩,
  ⟨(some 19), some (12, true), .op (.fad 3 (.t 18))⟩,
  ⟨(some 20), some (12, true), .op (.load none (.t 19))⟩,
  ⟨(some 21), some (12, true), .op (.len .sl (.t 20))⟩,
  ⟨(some 22), some (12, true), .op (.bin .none .sub (.t 21) (.v (.int .i64 1)))⟩,
  ⟨(some 23), some (12, true), .op (.iad none (some 9) (.t 16) (.t 22))⟩,
  ⟨(some 24), some (12, true), .op (.fad 6 (.t 23))⟩,
  ⟨(some 25), some (12, true), .op (.load none (.t 24))⟩,
  ⟨(some 26), none, .op (.pick (.t 12) (.t 25) (.v (.bool false)))⟩] [])
  (.cond (.t 26)
  .skip
  (.exit 0)))
  (.block 1 (.seq (.seq (.reg [⟨(some 27), none, .op (.mv (.t 0))⟩,
  ⟨(some 28), none, .call 79 [(.t 27), (.v (.int .i64 1))]⟩] [])
  (.cond (.t 28)
  .ret
  .skip))
  (.seq (.reg [⟨(some 29), none, .op (.mv (.t 0))⟩,
  ⟨(some 30), none, .op (.nchk (.t 29))⟩,
  ⟨(some 31), none, .op (.fad 3 (.t 30))⟩,
  ⟨(some 32), none, .op (.load none (.t 31))⟩,
  ⟨(some 33), none, .op (.mv (.t 0))⟩,
  ⟨(some 34), none, .op (.nchk (.t 33))⟩,
  ⟨(some 35), none, .op (.fad 3 (.t 34))⟩,
  ⟨(some 36), none, .op (.load none (.t 35))⟩,
  ⟨(some 37), none, .op (.len .sl (.t 36))⟩,
  ⟨(some 38), none, .op (.bin .none .sub (.t 37) (.v (.int .i64 1)))⟩,
  ⟨(some 39), none, .op (.iad none (some 9) (.t 32) (.t 38))⟩,
  ⟨(some 40), none, .op (.load (some 9) (.t 39))⟩,
  ⟨(some 2), none, .op (.new [(.int .i64 0), (.int .i64 0), (.int .i64 0), .nils, .nils, .nils, (.bool false), (.int .u64 0), .nils])⟩,
  ⟨none, none, .op (.store 9 (.t 2) (.t 40))⟩] [(3, 12), (7, 12), (11, 12)])
  (.seq (.reg [⟨(some 41), none, .op (.mv (.t 0))⟩,
  ⟨(some 42), none, .op (.mv (.t 0))⟩,
  ⟨(some 43), none, .op (.nchk (.t 42))⟩,
  ⟨(some 44), none, .op (.fad 3 (.t 43))⟩,
  ⟨(some 45), none, .op (.load none (.t 44))⟩,
  ⟨(some 46), none, .op (.mv (.t 0))⟩,
  ⟨(some 47), none, .op (.nchk (.t 46))⟩,
  ⟨(some 48), none, .op (.fad 3 (.t 47))⟩,
  ⟨(some 49), none, .op (.load none (.t 48))⟩,
  ⟨(some 50), none, .op (.len .sl (.t 49))⟩,
  ⟨(some 51), none, .op (.bin .none .sub (.t 50) (.v (.int .i64 1)))⟩,
  ⟨(some 52), none, .op (.slc (some 9) (.t 45) none (some (.t 51)) none)⟩,
  ⟨(some 53), none, .op (.nchk (.t 41))⟩,
  ⟨(some 54), none, .op (.fad 3 (.t 53))⟩,
  ⟨none, none, .op (.store 1 (.t 54) (.t 52))⟩] [])
  (.seq (.seq (.reg [⟨(some 55), none, .op (.mv (.t 0))⟩,
  ⟨(some 56), none, .op (.nchk (.t 55))⟩,
  ⟨(some 57), none, .op (.fad 3 (.t 56))⟩,
  ⟨(some 58), none, .op (.load none (.t 57))⟩,
  ⟨(some 59), none, .op (.len .sl (.t 58))⟩,
  ⟨(some 60), none, .op (.bin .none .eql (.t 59) (.v (.int .i64 0)))⟩] [])
  (.cond (.t 60)
  (.seq (.reg [⟨(some 61), none, .op (.mv (.t 0))⟩,
  ⟨(some 62), none, .op (.build [(.int .i64 0), (.int .u64 0)] [(0, 1, (.v (.int .i64 1)))])⟩,
  ⟨(some 63), none, .op (.nchk (.t 61))⟩,
  ⟨(some 64), none, .op (.fad 7 (.t 63))⟩,
  ⟨none, none, .op (.store 2 (.t 64) (.t 62))⟩] [])
  .ret)
  .skip))
  (.seq (.reg [⟨(some 65), none, .op (.mv (.t 0))⟩,
  ⟨(some 66), none, .op (.nchk (.t 65))⟩,
  ⟨(some 67), none, .op (.fad 3 (.t 66))⟩,
  ⟨(some 68), none, .op (.load none (.t 67))⟩,
  ⟨(some 69), none, .op (.mv (.t 0))⟩,
  ⟨(some 70), none, .op (.nchk (.t 69))⟩,
  ⟨(some 71), none, .op (.fad 3 (.t 70))⟩,
  ⟨(some 72), none, .op (.load none (.t 71))⟩,
  ⟨(some 73), none, .op (.len .sl (.t 72))⟩,
  ⟨(some 74), none, .op (.bin .none .sub (.t 73) (.v (.int .i64 1)))⟩,
  ⟨(some 75), none, .op (.iad none (some 9) (.t 68) (.t 74))⟩,
  ⟨(some 3), none, .op (.mv (.t 75))⟩] [])
  (.seq (.reg [⟨(some 76), none, .op (.fad 2 (.t 2))⟩,
  ⟨(some 77), none, .op (.load none (.t 76))⟩] [])
  (.block 2 (.seq (.reg [⟨(some 79), none, .op (.bin .none .eql (.t 77) (.v (.int .i64 0)))⟩,
  ⟨(some 78), none, .op (.mv (.t 79))⟩] [])
  (.cond (.t 78)
  (.reg [⟨(some 80), none, .op (.mv (.t 0))⟩,
  ⟨(some 81), none, .op (.fad 7 (.t 2))⟩,
  ⟨(some 82), none, .op (.load none (.t 81))⟩,
  ⟨(some 83), none, .call 80 [(.t 80), (.t 82)]⟩] [])
  (.seq (.reg [⟨(some 85), none, .op (.bin .none .eql (.t 77) (.v (.int .i64 2)))⟩,
  ⟨(some 84), none, .op (.mv (.t 85))⟩] [])
  (.cond (.t 84)
  (.seq (.reg [⟨(some 86), none, .op (.mv (.t 0))⟩,
  ⟨(some 87), none, .op (.nchk (.t 86))⟩,
  ⟨(some 88), none, .op (.fad 4 (.t 87))⟩,
  ⟨(some 89), none, .op (.load none (.t 88))⟩,
  ⟨(some 90), none, .op (.len .sl (.t 89))⟩,
  ⟨(some 91), none, .op (.bin .none .sub (.t 90) (.v (.int .i64 1)))⟩,
  ⟨(some 4), none, .op (.mv (.t 91))⟩] [])
  (.seq (.seq (.reg [⟨(some 92), none, .op (.mv (.t 0))⟩,
  ⟨(some 93), none, .op (.nchk (.t 92))⟩,
  ⟨(some 94), none, .op (.fad 4 (.t 93))⟩,
  ⟨(some 95), none, .op (.load none (.t 94))⟩,
  ⟨(some 96), none, .op (.mv (.t 4))⟩,
  ⟨(some 97), none, .op (.iad none (some 2) (.t 95) (.t 96))⟩,
  ⟨(some 98), none, .op (.fad 1 (.t 97))⟩,
  ⟨(some 99), none, .op (.load none (.t 98))⟩,
  ⟨(some 100), none, .op (.un .not (.t 99))⟩] [])
  (.cond (.t 100)
  (.seq (.reg [⟨(some 101), none, .op (.mv (.t 0))⟩,
  ⟨(some 102), none, .call 78 [(.t 101)]⟩] [])
  .ret)
  .skip))
  (.seq (.reg [⟨(some 103), none, .op (.mv (.t 0))⟩,
  ⟨(some 104), none, .op (.mv (.t 0))⟩,
  ⟨(some 105), none, .op (.nchk (.t 104))⟩,
  ⟨(some 106), none, .op (.fad 4 (.t 105))⟩,
  ⟨(some 107), none, .op (.load none (.t 106))⟩,
  ⟨(some 108), none, .op (.mv (.t 4))⟩,
  ⟨(some 109), none, .op (.slc (some 2) (.t 107) none (some (.t 108)) none)⟩,
  ⟨(some 110), none, .op (.nchk (.t 103))⟩,
  ⟨(some 111), none, .op (.fad 4 (.t 110))⟩,
  ⟨none, none, .op (.store 1 (.t 111) (.t 109))⟩] [])
  (.seq (.reg [⟨(some 112), none, .op (.mv (.t 3))⟩,
  ⟨(some 113), none, .op (.nchk (.t 112))⟩,
  ⟨(some 114), none, .op (.fad 6 (.t 113))⟩,
  ⟨none, none, .op (.store 1 (.t 114) (.v (.bool true)))⟩] [])
  (.seq (.reg [⟨(some 115), none, .op (.mv (.t 3))⟩,
  ⟨(some 116), none, .op (.nchk (.t 115))⟩,
  ⟨(some 117), none, .op (.fad 7 (.t 116))⟩,
  ⟨none, none, .op (.store 1 (.t 117) (.v (.int .u64 0)))⟩] [])
  (.seq (.reg [⟨(some 118), none, .op (.mv (.t 0))⟩,
  ⟨(some 119), none, .op (.nchk (.t 118))⟩,
  ⟨(some 120), none, .op (.fad 0 (.t 119))⟩,
  ⟨(some 121), none, .op (.fad 0 (.t 120))⟩,
  ⟨(some 122), none, .op (.load none (.t 121))⟩,
  ⟨(some 123), none, .op (.mv (.t 3))⟩,
  ⟨(some 124), none, .op (.nchk (.t 123))⟩,
  ⟨(some 125), none, .op (.fad 0 (.t 124))⟩,
  ⟨(some 126), none, .op (.load none (.t 125))⟩,
  ⟨(some 127), none, .op (.iad none (some 8) (.t 122) (.t 126))⟩,
  ⟨(some 128), none, .op (.fad 5 (.t 127))⟩,
  ⟨(some 129), none, .op (.load none (.t 128))⟩,
  ⟨(some 5), none, .op (.mv (.t 129))⟩] [])
  (.seq (.reg [⟨(some 130), none, .op (.mv (.t 5))⟩,
  ⟨(some 131), none, .op (.bin .none .geq (.t 130) (.v (.int .i64 0)))⟩] [])
  (.cond (.t 131)
  (.reg [⟨(some 132), none, .op (.mv (.t 3))⟩,
  ⟨(some 133), none, .op (.mv (.t 3))⟩,
  ⟨(some 134), none, .op (.nchk (.t 133))⟩,
  ⟨(some 135), none, .op (.fad 4 (.t 134))⟩,
  ⟨(some 136), none, .op (.load none (.t 135))⟩,
  ⟨(some 137), none, .op (.mv (.t 5))⟩,
  ⟨(some 138), none, .op (.iad none none (.t 136) (.t 137))⟩,
  ⟨(some 139), none, .op (.load none (.t 138))⟩,
  ⟨(some 140), none, .op (.nchk (.t 132))⟩,
  ⟨(some 141), none, .op (.fad 7 (.t 140))⟩,
  ⟨none, none, .op (.store 1 (.t 141) (.t 139))⟩] [])
  .skip))))))))
  .skip)))))))))))))))
theorem c53 : codeOf Try.prog 53 = some (142, [], fc53) := by kernel_rfl
def fc64 : FC := (.seq (.reg [⟨(some 3), none, .op (.box (.t 1))⟩,
  ⟨(some 4), none, .op (.mv (.v .nils))⟩,
  ⟨(some 5), none, .op (.mv (.v (.bool false)))⟩] [])
  (.seq (.seq (.reg [⟨(some 12), none, .op (.fad 0 (.t 3))⟩,
  ⟨(some 13), none, .op (.load none (.t 12))⟩,
  ⟨(some 14), none, .op (.bin .none .lss (.t 13) (.v (.int .i64 0)))⟩,
  ⟨(some 15), none, .op (.mv (.t 14))⟩,
  ⟨(some 16), some (15, false), .op (.fad 0 (.t 3))⟩,
  ⟨(some 17), some (15, false), .op (.load none (.t 16))⟩,
  ⟨(some 18), some (15, false), .op (.fad 1 (.t 3))⟩,
  ⟨(some 19), some (15, false), .op (.load none (.t 18))⟩,
  ⟨(some 20), some (15, false), .op (.len .sl (.t 19))⟩,
  ⟨(some 21), some (15, false), .op (.bin .none .gtr (.t 17) (.t 20))⟩,
  ⟨(some 22), none, .op (.pick (.t 15) (.v (.bool true)) (.t 21))⟩,
  ⟨(some 23), none, .op (.mv (.t 22))⟩,
  ⟨(some 24), some (23, false), .op (.fad 1 (.t 3))⟩,
  ⟨(some 25), some (23, false), .op (.load none (.t 24))⟩,
  ⟨(some 26), some (23, false), .op (.len .sl (.t 25))⟩,
  ⟨(some 27), some (23, false), .op (.bin .none .gtr (.t 26) (.v (.int .i64 255)))⟩,
  ⟨(some 28), none, .op (.pick (.t 23) (.v (.bool true)) (.t 27))⟩,
  ⟨(some 29), none, .op (.mv (.t 28))⟩,
  ⟨(some 30), some (29, false), .op (.fad 3 (.t 3))⟩,
  ⟨(some 31), some (29, false), .op (.load none (.t 30))⟩,
  ⟨(some 32), some (29, false), .op (.bin .none .lss (.t 31) (.v (.int .i64 (-1))))⟩,
  ⟨(some 33), none, .op (.pick (.t 29) (.v (.bool true)) (.t 32))⟩,
  ⟨(some 34), none, .op (.mv (.t 33))⟩,
  ⟨(some 35), some (34, false), .op (.fad 3 (.t 3))⟩,
  ⟨(some 36), some (34, false), .op (.load none (.t 35))⟩,
  ⟨(some 37), some (34, false), .op (.bin .none .gtr (.t 36) (.v (.int .i64 254)))⟩,
  ⟨(some 38), none, .op (.pick (.t 34) (.v (.bool true)) (.t 37))⟩,
  ⟨(some 39), none, .op (.mv (.t 38))⟩,
  ⟨(some 40), some (39, false), .op (.fad 4 (.t 3))⟩,
  ⟨(some 41), some (39, false), .op (.load none (.t 40))⟩,
  ⟨(some 42), some (39, false), .op (.len .sl (.t 41))⟩,
  ⟨(some 43), some (39, false), .op (.bin .none .gtr (.t 42) (.v (.int .i64 65535)))⟩,
  ⟨(some 44), none, .op (.pick (.t 39) (.v (.bool true)) (.t 43))⟩] [])
  (.cond (.t 44)
  (.seq (.reg [⟨(some 4), none, .op (.mv (.v .nils))⟩,
  ⟨(some 5), none, .op (.mv (.v (.bool false)))⟩] [])
  .ret)
  .skip))
  (.seq (.reg [⟨(some 45), none, .op (.mv (.t 0))⟩,
  ⟨(some 46), none, .op (.fad 0 (.t 3))⟩,
  ⟨(some 47), none, .op (.load none (.t 46))⟩,
  ⟨(some 48), none, .op (.cint .u8 (.t 47))⟩,
  ⟨(some 49), none, .op (.fad 1 (.t 3))⟩,
  ⟨(some 50), none, .op (.load none (.t 49))⟩,
  ⟨(some 51), none, .op (.len .sl (.t 50))⟩,
  ⟨(some 52), none, .op (.cint .u8 (.t 51))⟩,
  ⟨(some 53), none, .op (.bsl none [(.int .u8 0)] 2 [(0, 1, (.t 48)), (1, 1, (.t 52))])⟩,
  ⟨(some 54), none, .op (.app none 1 (.t 45) (.t 53))⟩,
  ⟨(some 0), none, .op (.mv (.t 54))⟩] [])
  (.seq (.seq (.reg [⟨(some 55), none, .op (.fad 1 (.t 3))⟩,
  ⟨(some 56), none, .op (.load none (.t 55))⟩,
  ⟨(some 57), none, .op (.len .sl (.t 56))⟩,
  ⟨(some 58), none, .op (.mv (.v (.int .i64 0)))⟩] [])
  (.block 0 (.loop (.seq (.reg [⟨(some 59), none, .op (.bin .none .lss (.t 58) (.t 57))⟩] [])
  (.seq (.cond (.t 59)
  .skip
  (.exit 0))
  (.seq (.block 1 (.seq (.reg [⟨(some 60), none, .op (.iad none none (.t 56) (.t 58))⟩,
  ⟨(some 61), none, .op (.load none (.t 60))⟩,
  ⟨(some 7), none, .op (.mv (.t 61))⟩] [])
  (.seq (.seq (.reg [⟨(some 62), none, .op (.mv (.t 7))⟩,
  ⟨(some 63), none, .op (.bin .none .gtr (.t 62) (.v (.int .u8 1)))⟩] [])
  (.cond (.t 63)
  (.seq (.reg [⟨(some 4), none, .op (.mv (.v .nils))⟩,
  ⟨(some 5), none, .op (.mv (.v (.bool false)))⟩] [])
  .ret)
  .skip))
  (.reg [⟨(some 64), none, .op (.mv (.t 0))⟩,
  ⟨(some 65), none, .op (.mv (.t 7))⟩,
  ⟨(some 66), none, .op (.bsl none [(.int .u8 0)] 1 [(0, 1, (.t 65))])⟩,
  ⟨(some 67), none, .op (.app none 1 (.t 64) (.t 66))⟩,
  ⟨(some 0), none, .op (.mv (.t 67))⟩] []))))
  (.reg [⟨(some 68), none, .op (.bin .none .add (.t 58) (.v (.int .i64 1)))⟩,
  ⟨(some 58), none, .op (.mv (.t 68))⟩] [])))))))
  (.seq (.reg [⟨(some 8), none, .op (.mv (.v (.int .u8 0)))⟩] [])
  (.seq (.seq (.reg [⟨(some 69), none, .op (.fad 2 (.t 3))⟩,
  ⟨(some 70), none, .op (.load none (.t 69))⟩] [])
  (.cond (.t 70)
  (.reg [⟨(some 8), none, .op (.mv (.v (.int .u8 1)))⟩] [])
  .skip))
  (.seq (.reg [⟨(some 71), none, .op (.mv (.t 0))⟩,
  ⟨(some 72), none, .op (.mv (.t 8))⟩,
  ⟨(some 73), none, .op (.fad 3 (.t 3))⟩,
  ⟨(some 74), none, .op (.load none (.t 73))⟩,
  ⟨(some 75), none, .op (.cint .u8 (.t 74))⟩,
  ⟨(some 76), none, .op (.bsl none [(.int .u8 0)] 2 [(0, 1, (.t 72)), (1, 1, (.t 75))])⟩,
  ⟨(some 77), none, .op (.app none 1 (.t 71) (.t 76))⟩,
  ⟨(some 78), none, .op (.fad 4 (.t 3))⟩,
  ⟨(some 79), none, .op (.load none (.t 78))⟩,
  ⟨(some 80), none, .op (.len .sl (.t 79))⟩,
  ⟨(some 81), none, .op (.cint .u64 (.t 80))⟩,
  ⟨(some 82), none, .call 83 [(.t 77), (.t 81), (.v (.int .i64 2))]⟩,
  ⟨(some 0), none, .op (.mv (.t 82))⟩] [(5, 8), (6, 8)])
  (.seq (.seq (.reg [⟨(some 83), none, .op (.fad 4 (.t 3))⟩,
  ⟨(some 84), none, .op (.load none (.t 83))⟩,
  ⟨(some 85), none, .op (.len .sl (.t 84))⟩,
  ⟨(some 86), none, .op (.mv (.v (.int .i64 0)))⟩] [])
  (.block 2 (.loop (.seq (.reg [⟨(some 87), none, .op (.bin .none .lss (.t 86) (.t 85))⟩] [])
  (.seq (.cond (.t 87)
  .skip
  (.exit 2))
  (.seq (.block 3 (.seq (.reg [⟨(some 88), none, .op (.iad none (some 3) (.t 84) (.t 86))⟩,
  ⟨(some 89), none, .op (.load (some 3) (.t 88))⟩,
  ⟨(some 10), none, .op (.new [(.int .u8 0), (.int .i64 0), (.int .u64 0)])⟩,
  ⟨none, none, .op (.store 3 (.t 10) (.t 89))⟩] [])
  (.seq (.reg [⟨(some 11), none, .op (.mv (.v (.bool false)))⟩] [])
  (.seq (.reg [⟨(some 91), none, .op (.mv (.t 0))⟩,
  ⟨(some 92), none, .op (.load (some 3) (.t 10))⟩,
  ⟨(some 93), none, .call 84 [(.t 91), (.t 92)]⟩,
  ⟨(some 90), none, .op (.mv (.t 93))⟩,
  ⟨(some 94), none, .op (.ext 0 (.t 90))⟩,
  ⟨(some 95), none, .op (.ext 1 (.t 90))⟩,
  ⟨(some 0), none, .op (.mv (.t 94))⟩,
  ⟨(some 11), none, .op (.mv (.t 95))⟩] [])
  (.seq (.reg [⟨(some 96), none, .op (.mv (.t 11))⟩,
  ⟨(some 97), none, .op (.un .not (.t 96))⟩] [])
  (.cond (.t 97)
  (.seq (.reg [⟨(some 4), none, .op (.mv (.v .nils))⟩,
  ⟨(some 5), none, .op (.mv (.v (.bool false)))⟩] [])
  .ret)
  .skip))))))
  (.reg [⟨(some 98), none, .op (.bin .none .add (.t 86) (.v (.int .i64 1)))⟩,
  ⟨(some 86), none, .op (.mv (.t 98))⟩] [])))))))
  (.seq (.reg [⟨(some 99), none, .op (.mv (.t 0))⟩,
  ⟨(some 4), none, .op (.mv (.t 99))⟩,
  ⟨(some 5), none, .op (.mv (.v (.bool true)))⟩] [])
  .ret)))))))))
theorem c64 : codeOf Try.prog 64 = some (100, [(4, none), (5, none)], fc64) := by kernel_rfl
def fc65 : FC := (.seq (.reg [⟨(some 3), none, .op (.box (.t 0))⟩,
  ⟨(some 4), none, .op (.box (.t 1))⟩,
  ⟨(some 5), none, .op (.box (.t 2))⟩,
  ⟨(some 6), none, .op (.mv (.v (.bool false)))⟩] [])
  (.seq (.seq (.reg [⟨(some 7), none, .op (.fad 0 (.t 5))⟩,
  ⟨(some 8), none, .op (.load none (.t 7))⟩] [])
  (.block 0 (.seq (.seq (.reg [⟨(some 10), none, .op (.bin .none .eql (.t 8) (.v (.int .u8 2)))⟩,
  ⟨(some 9), none, .op (.mv (.t 10))⟩] [])
  (.cond (.t 9)
  .skip
  (.reg [⟨(some 11), none, .op (.bin .none .eql (.t 8) (.v (.int .u8 3)))⟩,
  ⟨(some 9), none, .op (.mv (.t 11))⟩] [])))
  (.cond (.t 9)
  (.seq (.reg [⟨(some 12), none, .op (.fad 1 (.t 5))⟩,
  ⟨(some 13), none, .op (.load none (.t 12))⟩,
  ⟨(some 14), none, .op (.fad 1 (.t 4))⟩,
  ⟨(some 15), none, .op (.load none (.t 14))⟩,
  ⟨(some 16), none, .op (.len .sl (.t 15))⟩,
  ⟨(some 17), none, .op (.bin .none .lss (.t 13) (.t 16))⟩,
  ⟨(some 6), none, .op (.mv (.t 17))⟩] [])
  .ret)
  (.seq (.reg [⟨(some 19), none, .op (.bin .none .eql (.t 8) (.v (.int .u8 4)))⟩,
  ⟨(some 18), none, .op (.mv (.t 19))⟩] [])
  (.cond (.t 18)
  (.seq (.reg [⟨(some 20), none, .op (.fad 1 (.t 5))⟩,
  ⟨(some 21), none, .op (.load none (.t 20))⟩,
  ⟨(some 22), none, .op (.fad 1 (.t 4))⟩,
  ⟨(some 23), none, .op (.load none (.t 22))⟩,
  ⟨(some 24), none, .op (.len .sl (.t 23))⟩,
  ⟨(some 25), none, .op (.bin .none .lss (.t 21) (.t 24))⟩,
  ⟨(some 26), none, .op (.mv (.t 25))⟩,
  ⟨(some 27), some (26, true), .op (.fad 1 (.t 4))⟩,
  ⟨(some 28), some (26, true), .op (.load none (.t 27))⟩,
  ⟨(some 29), some (26, true), .op (.fad 1 (.t 5))⟩,
  ⟨(some 30), some (26, true), .op (.load none (.t 29))⟩,
  ⟨(some 31), some (26, true), .op (.iad none none (.t 28) (.t 30))⟩,
  ⟨(some 32), some (26, true), .op (.load none (.t 31))⟩,
  ⟨(some 33), some (26, true), .op (.bin .none .eql (.t 32) (.v (.int .u8 0)))⟩,
  ⟨(some 34), none, .op (.pick (.t 26) (.t 33) (.v (.bool false)))⟩,
  ⟨(some 6), none, .op (.mv (.t 34))⟩] [])
  .ret)
  (.seq (.seq (.reg [⟨(some 36), none, .op (.bin .none .eql (.t 8) (.v (.int .u8 23)))⟩,
  ⟨(some 35), none, .op (.mv (.t 36))⟩] [])
  (.cond (.t 35)
  .skip
  (.reg [⟨(some 37), none, .op (.bin .none .eql (.t 8) (.v (.int .u8 25)))⟩,
  ⟨(some 35), none, .op (.mv (.t 37))⟩] [])))
  (.cond (.t 35)
  (.seq (.reg [⟨(some 38), none, .op (.fad 1 (.t 5))⟩,
  ⟨(some 39), none, .op (.load none (.t 38))⟩,
  ⟨(some 40), none, .op (.fad 0 (.t 3))⟩,
  ⟨(some 41), none, .op (.load none (.t 40))⟩,
  ⟨(some 42), none, .op (.len .sl (.t 41))⟩,
  ⟨(some 43), none, .op (.bin .none .lss (.t 39) (.t 42))⟩,
  ⟨(some 6), none, .op (.mv (.t 43))⟩] [])
  .ret)
  (.seq (.seq (.reg [⟨(some 45), none, .op (.bin .none .eql (.t 8) (.v (.int .u8 21)))⟩,
  ⟨(some 44), none, .op (.mv (.t 45))⟩] [])
  (.cond (.t 44)
  .skip
  (.reg [⟨(some 46), none, .op (.bin .none .eql (.t 8) (.v (.int .u8 22)))⟩,
  ⟨(some 44), none, .op (.mv (.t 46))⟩] [])))
  (.cond (.t 44)
  (.seq (.reg [⟨(some 47), none, .op (.fad 1 (.t 5))⟩,
  ⟨(some 48), none, .op (.load none (.t 47))⟩,
  ⟨(some 49), none, .op (.fad 4 (.t 4))⟩,
  ⟨(some 50), none, .op (.load none (.t 49))⟩,
  ⟨(some 51), none, .op (.len .sl (.t 50))⟩,
  ⟨(some 52), none, .op (.bin .none .lss (.t 48) (.t 51))⟩,
  ⟨(some 6), none, .op (.mv (.t 52))⟩] [])
  .ret)
  .skip))))))))))
  (.seq (.reg [⟨(some 6), none, .op (.mv (.v (.bool true)))⟩] [])
  .ret)))
theorem c65 : codeOf Try.prog 65 = some (53, [(6, none)], fc65) := by kernel_rfl
def fc66 : FC := (.seq (.reg [⟨(some 4), none, .op (.box (.t 0))⟩,
  ⟨(some 5), none, .op (.box (.t 1))⟩,
  ⟨(some 6), none, .op (.box (.t 2))⟩,
  ⟨(some 8), none, .op (.mv (.v .nils))⟩,
  ⟨(some 9), none, .op (.mv (.v .nils))⟩] [])
  (.seq (.reg [⟨(some 12), none, .op (.bsl none [(.int .u8 0)] 1 [(0, 1, (.v (.int .u8 0)))])⟩,
  ⟨(some 10), none, .op (.mv (.t 12))⟩] [])
  (.seq (.seq (.reg [⟨(some 13), none, .op (.fad 0 (.t 6))⟩,
  ⟨(some 14), none, .op (.load none (.t 13))⟩] [])
  (.block 0 (.seq (.seq (.reg [⟨(some 16), none, .op (.bin .none .eql (.t 14) (.v (.int .u8 1)))⟩,
  ⟨(some 15), none, .op (.mv (.t 16))⟩] [])
  (.cond (.t 15)
  .skip
  (.reg [⟨(some 17), none, .op (.bin .none .eql (.t 14) (.v (.int .u8 28)))⟩,
  ⟨(some 15), none, .op (.mv (.t 17))⟩] [])))
  (.cond (.t 15)
  (.seq (.reg [⟨(some 18), none, .op (.mv (.t 10))⟩,
  ⟨(some 8), none, .op (.mv (.v .nils))⟩,
  ⟨(some 9), none, .op (.mv (.t 18))⟩] [])
  .ret)
  (.seq (.reg [⟨(some 20), none, .op (.bin .none .eql (.t 14) (.v (.int .u8 2)))⟩,
  ⟨(some 19), none, .op (.mv (.t 20))⟩] [])
  (.cond (.t 19)
  (.seq (.reg [⟨(some 21), none, .op (.fad 1 (.t 5))⟩,
  ⟨(some 22), none, .op (.load none (.t 21))⟩,
  ⟨(some 23), none, .op (.fad 1 (.t 6))⟩,
  ⟨(some 24), none, .op (.load none (.t 23))⟩,
  ⟨(some 25), none, .op (.fad 1 (.t 6))⟩,
  ⟨(some 26), none, .op (.load none (.t 25))⟩,
  ⟨(some 27), none, .op (.bin .none .add (.t 26) (.v (.int .i64 1)))⟩,
  ⟨(some 28), none, .op (.slc none (.t 22) (some (.t 24)) (some (.t 27)) none)⟩,
  ⟨(some 8), none, .op (.mv (.v .nils))⟩,
  ⟨(some 9), none, .op (.mv (.t 28))⟩] [])
  .ret)
  (.seq (.reg [⟨(some 30), none, .op (.bin .none .eql (.t 14) (.v (.int .u8 3)))⟩,
  ⟨(some 29), none, .op (.mv (.t 30))⟩] [])
  (.cond (.t 29)
  (.seq (.reg [⟨(some 31), none, .op (.fad 1 (.t 5))⟩,
  ⟨(some 32), none, .op (.load none (.t 31))⟩,
  ⟨(some 33), none, .op (.fad 1 (.t 6))⟩,
  ⟨(some 34), none, .op (.load none (.t 33))⟩,
  ⟨(some 35), none, .op (.fad 1 (.t 6))⟩,
  ⟨(some 36), none, .op (.load none (.t 35))⟩,
  ⟨(some 37), none, .op (.bin .none .add (.t 36) (.v (.int .i64 1)))⟩,
  ⟨(some 38), none, .op (.slc none (.t 32) (some (.t 34)) (some (.t 37)) none)⟩,
  ⟨(some 8), none, .op (.mv (.t 38))⟩,
  ⟨(some 9), none, .op (.mv (.v .nils))⟩] [])
  .ret)
  (.seq (.reg [⟨(some 40), none, .op (.bin .none .eql (.t 14) (.v (.int .u8 4)))⟩,
  ⟨(some 39), none, .op (.mv (.t 40))⟩] [])
  (.cond (.t 39)
  (.seq (.reg [⟨(some 41), none, .op (.bsl none [(.int .u8 0)] 1 [(0, 1, (.v (.int .u8 1)))])⟩,
  ⟨(some 8), none, .op (.mv (.v .nils))⟩,
  ⟨(some 9), none, .op (.mv (.t 41))⟩] [])
  .ret)
  (.seq (.reg [⟨(some 43), none, .op (.bin .none .eql (.t 14) (.v (.int .u8 5)))⟩,
  ⟨(some 42), none, .op (.mv (.t 43))⟩] [])
  (.cond (.t 42)
  (.seq (.reg [⟨(some 44), none, .op (.bsl none [(.int .u8 0)] 1 [(0, 1, (.v (.int .u8 1)))])⟩,
  ⟨(some 45), none, .op (.mv (.t 10))⟩,
  ⟨(some 8), none, .op (.mv (.t 44))⟩,
  ⟨(some 9), none, .op (.mv (.t 45))⟩] [])
  .ret)
  (.seq (.reg [⟨(some 47), none, .op (.bin .none .eql (.t 14) (.v (.int .u8 6)))⟩,
  ⟨(some 46), none, .op (.mv (.t 47))⟩] [])
  (.cond (.t 46)
  (.seq (.reg [⟨(some 48), none, .op (.bsl none [(.int .u8 0)] 2 [(0, 1, (.v (.int .u8 1))), (1, 1, (.v (.int .u8 0)))])⟩,
  ⟨(some 8), none, .op (.mv (.t 48))⟩,
  ⟨(some 9), none, .op (.mv (.v .nils))⟩] [])
  .ret)
  (.seq (.reg [⟨(some 50), none, .op (.bin .none .eql (.t 14) (.v (.int .u8 21)))⟩,
  ⟨(some 49), none, .op (.mv (.t 50))⟩] [])
  (.cond (.t 49)
  (.seq (.reg [⟨(some 8), none, .op (.mv (.v .nils))⟩,
  ⟨(some 9), none, .op (.mv (.v .nils))⟩] [])
  .ret)
  (.seq (.seq (.reg [⟨(some 52), none, .op (.bin .none .eql (.t 14) (.v (.int .u8 22)))⟩,
  ⟨(some 51), none, .op (.mv (.t 52))⟩] [])
  (.cond (.t 51)
  .skip
  (.seq (.reg [⟨(some 53), none, .op (.bin .none .eql (.t 14) (.v (.int .u8 26)))⟩,
  ⟨(some 51), none, .op (.mv (.t 53))⟩] [])
  (.cond (.t 51)
  .skip
  (.seq (.reg [⟨(some 54), none, .op (.bin .none .eql (.t 14) (.v (.int .u8 29)))⟩,
  ⟨(some 51), none, .op (.mv (.t 54))⟩] [])
  (.cond (.t 51)
  .skip
  (.reg [⟨(some 55), none, .op (.bin .none .eql (.t 14) (.v (.int .u8 30)))⟩,
  ⟨(some 51), none, .op (.mv (.t 55))⟩] [])))))))
  (.cond (.t 51)
  (.seq (.reg [⟨(some 56), none, .op (.mv (.t 10))⟩,
  ⟨(some 8), none, .op (.mv (.t 56))⟩,
  ⟨(some 9), none, .op (.mv (.v .nils))⟩] [])
  .ret)
  (.seq (.seq (.reg [⟨(some 58), none, .op (.bin .none .eql (.t 14) (.v (.int .u8 23)))⟩,
  ⟨(some 57), none, .op (.mv (.t 58))⟩] [])
  (.cond (.t 57)
  .skip
  (.reg [⟨(some 59), none, .op (.bin .none .eql (.t 14) (.v (.int .u8 25)))⟩,
  ⟨(some 57), none, .op (.mv (.t 59))⟩] [])))
  (.cond (.t 57)
  (.seq (.reg [⟨(some 60), none, .op (.fad 0 (.t 4))⟩,
  ⟨(some 61), none, .op (.load none (.t 60))⟩,
  ⟨(some 62), none, .op (.fad 1 (.t 6))⟩,
  ⟨(some 63), none, .op (.load none (.t 62))⟩,
  ⟨(some 64), none, .op (.iad none (some 5) (.t 61) (.t 63))⟩,
  ⟨(some 65), none, .op (.load (some 5) (.t 64))⟩,
  ⟨(some 11), none, .op (.new [(.int .i64 0), .nils, (.bool false), (.int .i64 0), .nils])⟩,
  ⟨none, none, .op (.store 5 (.t 11) (.t 65))⟩] [])
  (.seq (.seq (.reg [⟨(some 66), none, .op (.fad 0 (.t 6))⟩,
  ⟨(some 67), none, .op (.load none (.t 66))⟩,
  ⟨(some 68), none, .op (.bin .none .eql (.t 67) (.v (.int .u8 23)))⟩,
  ⟨(some 69), none, .op (.mv (.t 68))⟩,
  ⟨(some 70), some (69, true), .op (.fad 2 (.t 11))⟩,
  ⟨(some 71), some (69, true), .op (.load none (.t 70))⟩,
  ⟨(some 72), none, .op (.pick (.t 69) (.t 71) (.v (.bool false)))⟩] [])
  (.cond (.t 72)
  (.seq (.reg [⟨(some 73), none, .op (.fad 1 (.t 11))⟩,
  ⟨(some 74), none, .op (.load none (.t 73))⟩,
  ⟨(some 75), none, .op (.fad 0 (.t 11))⟩,
  ⟨(some 76), none, .op (.load none (.t 75))⟩,
  ⟨(some 77), none, .op (.slc none (.t 74) none (some (.t 76)) none)⟩,
  ⟨(some 78), none, .op (.mv (.t 10))⟩,
  ⟨(some 8), none, .op (.mv (.t 77))⟩,
  ⟨(some 9), none, .op (.mv (.t 78))⟩] [])
  .ret)
  .skip))
  (.seq (.reg [⟨(some 79), none, .op (.fad 1 (.t 11))⟩,
  ⟨(some 80), none, .op (.load none (.t 79))⟩,
  ⟨(some 81), none, .op (.fad 0 (.t 11))⟩,
  ⟨(some 82), none, .op (.load none (.t 81))⟩,
  ⟨(some 83), none, .op (.slc none (.t 80) none (some (.t 82)) none)⟩,
  ⟨(some 8), none, .op (.mv (.t 83))⟩,
  ⟨(some 9), none, .op (.mv (.v .nils))⟩] [])
  .ret)))
  (.seq (.reg [⟨(some 85), none, .op (.bin .none .eql (.t 14) (.v (.int .u8 24)))⟩,
  ⟨(some 84), none, .op (.mv (.t 85))⟩] [])
  (.cond (.t 84)
  (.seq (.seq (.reg [⟨(some 86), none, .op (.fad 2 (.t 5))⟩,
  ⟨(some 87), none, .op (.load none (.t 86))⟩] [])
  (.cond (.t 87)
  (.seq (.reg [⟨(some 88), none, .op (.mv (.t 10))⟩,
  ⟨(some 8), none, .op (.mv (.t 88))⟩,
  ⟨(some 9), none, .op (.mv (.v .nils))⟩] [])
  .ret)
  .skip))
  (.seq (.reg [⟨(some 8), none, .op (.mv (.v .nils))⟩,
  ⟨(some 9), none, .op (.mv (.v .nils))⟩] [])
  .ret))
  (.seq (.reg [⟨(some 90), none, .op (.bin .none .eql (.t 14) (.v (.int .u8 27)))⟩,
  ⟨(some 89), none, .op (.mv (.t 90))⟩] [])
  (.cond (.t 89)
  (.seq (.reg [⟨(some 91), none, .op (.bsl none [(.int .u8 0)] 2 [(0, 1, (.v (.int .u8 0))), (1, 1, (.v (.int .u8 0)))])⟩,
  ⟨(some 8), none, .op (.mv (.v .nils))⟩,
  ⟨(some 9), none, .op (.mv (.t 91))⟩] [])
  .ret)
  (.seq (.reg [⟨(some 93), none, .op (.bin .none .eql (.t 14) (.v (.int .u8 31)))⟩,
  ⟨(some 92), none, .op (.mv (.t 93))⟩] [])
  (.cond (.t 92)
  (.seq (.reg [⟨(some 94), none, .op (.mv (.t 3))⟩,
  ⟨(some 95), none, .op (.bsl none [(.int .u8 0)] 1 [(0, 1, (.t 94))])⟩,
  ⟨(some 8), none, .op (.mv (.t 95))⟩,
  ⟨(some 9), none, .op (.mv (.v .nils))⟩] [])
  .ret)
  (.seq (.reg [⟨(some 97), none, .op (.bin .none .eql (.t 14) (.v (.int .u8 32)))⟩,
  ⟨(some 96), none, .op (.mv (.t 97))⟩] [])
  (.cond (.t 96)
  (.seq (.reg [⟨(some 98), none, .op (.mv (.t 3))⟩,
  ⟨(some 99), none, .op (.bsl none [(.int .u8 0)] 1 [(0, 1, (.t 98))])⟩,
  ⟨(some 100), none, .op (.mv (.t 3))⟩,
  ⟨(some 101), none, .op (.mv (.t 3))⟩,
  ⟨(some 102), none, .op (.bsl none [(.int .u8 0)] 2 [(0, 1, (.t 100)), (1, 1, (.t 101))])⟩,
  ⟨(some 8), none, .op (.mv (.t 99))⟩,
  ⟨(some 9), none, .op (.mv (.t 102))⟩] [])
  .ret)
  .skip))))))))))))))))))))))))))))
  (.seq (.reg [⟨(some 103), none, .op (.bsl none [(.int .u8 0)] 2 [(0, 1, (.v (.int .u8 0))), (1, 1, (.v (.int .u8 0)))])⟩,
  ⟨(some 104), none, .op (.mv (.t 10))⟩,
  ⟨(some 8), none, .op (.mv (.t 103))⟩,
  ⟨(some 9), none, .op (.mv (.t 104))⟩] [])
  .ret))))
theorem c66 : codeOf Try.prog 66 = some (105, [(8, none), (9, none)], fc66) := by kernel_rfl
def fc67 : FC := (.seq (.reg [⟨(some 4), none, .op (.mv (.v (.bool false)))⟩] [])
  (.seq (.seq (.reg [⟨(some 6), none, .op (.mv (.t 0))⟩,
  ⟨(some 7), none, .op (.len .sl (.t 6))⟩,
  ⟨(some 8), none, .op (.mv (.t 1))⟩,
  ⟨(some 9), none, .op (.len .sl (.t 8))⟩,
  ⟨(some 10), none, .op (.bin .none .neq (.t 7) (.t 9))⟩] [])
  (.cond (.t 10)
  (.seq (.reg [⟨(some 4), none, .op (.mv (.v (.bool false)))⟩] [])
  .ret)
  .skip))
  (.seq (.seq (.reg [⟨(some 11), none, .op (.mv (.t 0))⟩,
  ⟨(some 12), none, .op (.len .sl (.t 11))⟩,
  ⟨(some 13), none, .op (.mv (.v (.int .i64 0)))⟩] [])
  (.block 0 (.loop (.seq (.reg [⟨(some 14), none, .op (.bin .none .lss (.t 13) (.t 12))⟩] [])
  (.seq (.cond (.t 14)
  .skip
  (.exit 0))
  (.seq (.block 1 (.seq (.reg [⟨(some 15), none, .op (.mv (.t 13))⟩,
  ⟨(some 5), none, .op (.mv (.t 15))⟩] [])
  (.seq (.reg [⟨(some 16), none, .op (.mv (.t 0))⟩,
  ⟨(some 17), none, .op (.mv (.t 5))⟩,
  ⟨(some 18), none, .op (.iad none none (.t 16) (.t 17))⟩,
  ⟨(some 19), none, .op (.load none (.t 18))⟩,
  ⟨(some 20), none, .op (.mv (.t 1))⟩,
  ⟨(some 21), none, .op (.mv (.t 5))⟩,
  ⟨(some 22), none, .op (.iad none none (.t 20) (.t 21))⟩,
  ⟨(some 23), none, .op (.load none (.t 22))⟩,
  ⟨(some 24), none, .op (.bin .none .neq (.t 19) (.t 23))⟩] [])
  (.cond (.t 24)
  (.seq (.reg [⟨(some 4), none, .op (.mv (.v (.bool false)))⟩] [])
  .ret)
  .skip))))
  (.reg [⟨(some 25), none, .op (.bin .none .add (.t 13) (.v (.int .i64 1)))⟩,
  ⟨(some 13), none, .op (.mv (.t 25))⟩] [])))))))
  (.seq (.reg [⟨(some 4), none, .op (.mv (.v (.bool true)))⟩] [])
  .ret))))
theorem c67 : codeOf Try.prog 67 = some (26, [(4, none)], fc67) := by kernel_rfl
def fc68 : FC := (.seq (.reg [⟨(some 2), none, .op (.mv (.v .nils))⟩] [])
  (.seq (.seq (.reg [⟨(some 3), none, .op (.mv (.t 0))⟩,
  ⟨(some 4), none, .op (.bin .flat .eql (.t 3) (.v .nils))⟩] [])
  (.cond (.t 4)
  (.seq (.reg [⟨(some 2), none, .op (.mv (.v .nils))⟩] [])
  .ret)
  .skip))
  (.seq (.reg [⟨(some 5), none, .op (.bsl none [(.int .u8 0)] 0 [])⟩,
  ⟨(some 6), none, .op (.mv (.t 0))⟩,
  ⟨(some 7), none, .op (.app none 1 (.t 5) (.t 6))⟩,
  ⟨(some 2), none, .op (.mv (.t 7))⟩] [])
  .ret)))
theorem c68 : codeOf Try.prog 68 = some (8, [(2, none)], fc68) := by kernel_rfl
def fc69 : FC := (.seq (.reg [⟨(some 2), none, .op (.box (.t 0))⟩,
  ⟨(some 4), none, .op (.mv (.v .nils))⟩] [])
  (.seq (.seq (.reg [⟨(some 5), none, .op (.fad 0 (.t 2))⟩,
  ⟨(some 6), none, .op (.load none (.t 5))⟩] [])
  (.block 0 (.seq (.reg [⟨(some 8), none, .op (.bin .none .eql (.t 6) (.v (.int .u8 21)))⟩,
  ⟨(some 7), none, .op (.mv (.t 8))⟩] [])
  (.cond (.t 7)
  (.seq (.reg [⟨(some 9), none, .op (.fad 1 (.t 2))⟩,
  ⟨(some 10), none, .op (.load none (.t 9))⟩,
  ⟨(some 11), none, .op (.bsl none [(.int .i64 0)] 1 [(0, 1, (.t 10))])⟩,
  ⟨(some 4), none, .op (.mv (.t 11))⟩] [])
  .ret)
  (.seq (.reg [⟨(some 13), none, .op (.bin .none .eql (.t 6) (.v (.int .u8 22)))⟩,
  ⟨(some 12), none, .op (.mv (.t 13))⟩] [])
  (.cond (.t 12)
  (.seq (.reg [⟨(some 14), none, .op (.mv (.t 1))⟩,
  ⟨(some 15), none, .op (.bin .none .add (.t 14) (.v (.int .i64 1)))⟩,
  ⟨(some 16), none, .op (.fad 1 (.t 2))⟩,
  ⟨(some 17), none, .op (.load none (.t 16))⟩,
  ⟨(some 18), none, .op (.bsl none [(.int .i64 0)] 2 [(0, 1, (.t 15)), (1, 1, (.t 17))])⟩,
  ⟨(some 4), none, .op (.mv (.t 18))⟩] [])
  .ret)
  (.seq (.seq (.reg [⟨(some 20), none, .op (.bin .none .eql (.t 6) (.v (.int .u8 24)))⟩,
  ⟨(some 19), none, .op (.mv (.t 20))⟩] [])
  (.cond (.t 19)
  .skip
  (.seq (.reg [⟨(some 21), none, .op (.bin .none .eql (.t 6) (.v (.int .u8 26)))⟩,
  ⟨(some 19), none, .op (.mv (.t 21))⟩] [])
  (.cond (.t 19)
  .skip
  (.reg [⟨(some 22), none, .op (.bin .none .eql (.t 6) (.v (.int .u8 30)))⟩,
  ⟨(some 19), none, .op (.mv (.t 22))⟩] [])))))
  (.cond (.t 19)
  (.seq (.reg [⟨(some 4), none, .op (.mv (.v .nils))⟩] [])
  .ret)
  .skip))))))))
  (.seq (.reg [⟨(some 23), none, .op (.mv (.t 1))⟩,
  ⟨(some 24), none, .op (.bin .none .add (.t 23) (.v (.int .i64 1)))⟩,
  ⟨(some 25), none, .op (.bsl none [(.int .i64 0)] 1 [(0, 1, (.t 24))])⟩,
  ⟨(some 4), none, .op (.mv (.t 25))⟩] [])
  .ret)))
theorem c69 : codeOf Try.prog 69 = some (26, [(4, none)], fc69) := by kernel_rfl
def fc70 : FC := (.seq (.reg [⟨(some 5), none, .op (.mv (.v (.int .i64 0)))⟩] [])
  (.seq (.reg [⟨(some 6), none, .op (.load none (.t 1))⟩,
  ⟨(some 7), none, .op (.load none (.t 2))⟩,
  ⟨(some 8), none, .op (.mv (.t 0))⟩,
  ⟨(some 9), none, .op (.bin .none .sub (.t 7) (.t 8))⟩,
  ⟨(some 10), none, .op (.load none (.t 3))⟩,
  ⟨(some 11), none, .op (.load none (.t 2))⟩,
  ⟨(some 12), none, .op (.mv (.t 0))⟩,
  ⟨(some 13), none, .op (.bin .none .sub (.t 11) (.t 12))⟩,
  ⟨(some 14), none, .op (.iad none none (.t 10) (.t 13))⟩,
  ⟨(some 15), none, .op (.load none (.t 14))⟩,
  ⟨(some 16), none, .call 71 [(.t 6), (.t 9), (.t 15)]⟩,
  ⟨(some 5), none, .op (.mv (.t 16))⟩] [])
  .ret))
theorem c70 : codeOf Try.prog 70 = some (17, [(5, none)], fc70) := by kernel_rfl
def fc71 : FC := (.seq (.reg [⟨(some 6), none, .op (.mv (.v (.int .i64 0)))⟩] [])
  (.seq (.reg [⟨(some 7), none, .op (.mv (.t 0))⟩,
  ⟨(some 8), none, .op (.nchk (.t 7))⟩,
  ⟨(some 9), none, .op (.fad 1 (.t 8))⟩,
  ⟨(some 10), none, .op (.load none (.t 9))⟩,
  ⟨(some 11), none, .op (.nchk (.t 10))⟩,
  ⟨(some 12), none, .op (.fad 1 (.t 11))⟩,
  ⟨(some 13), none, .op (.load none (.t 12))⟩,
  ⟨(some 14), none, .op (.len .sl (.t 13))⟩,
  ⟨(some 15), none, .op (.mv (.t 1))⟩,
  ⟨(some 16), none, .op (.bin .none .mul (.v (.int .i64 2)) (.t 15))⟩,
  ⟨(some 17), none, .op (.bin .none .add (.t 14) (.t 16))⟩,
  ⟨(some 18), none, .op (.mv (.t 2))⟩,
  ⟨(some 19), none, .op (.cint .i64 (.t 18))⟩,
  ⟨(some 20), none, .op (.bin .none .add (.t 17) (.t 19))⟩,
  ⟨(some 6), none, .op (.mv (.t 20))⟩] [])
  .ret))
theorem c71 : codeOf Try.prog 71 = some (21, [(6, none)], fc71) := by kernel_rfl
def fc79 : FC := (.seq (.reg [⟨(some 4), none, .op (.mv (.v (.bool false)))⟩] [])
  (.seq (.reg [⟨(some 8), none, .op (.mv (.t 0))⟩,
  ⟨(some 9), none, .op (.nchk (.t 8))⟩,
  ⟨(some 10), none, .op (.fad 3 (.t 9))⟩,
  ⟨(some 11), none, .op (.load none (.t 10))⟩,
  ⟨(some 12), none, .op (.mv (.t 0))⟩,
  ⟨(some 13), none, .op (.nchk (.t 12))⟩,
  ⟨(some 14), none, .op (.fad 3 (.t 13))⟩,
  ⟨(some 15), none, .op (.load none (.t 14))⟩,
  ⟨(some 16), none, .op (.len .sl (.t 15))⟩,
  ⟨(some 17), none, .op (.bin .none .sub (.t 16) (.v (.int .i64 1)))⟩,
  ⟨(some 18), none, .op (.iad none (some 9) (.t 11) (.t 17))⟩,
  ⟨(some 5), none, .op (.mv (.t 18))⟩] [])
  (.seq (.reg [⟨(some 19), none, .op (.mv (.t 5))⟩,
  ⟨(some 20), none, .op (.nchk (.t 19))⟩,
  ⟨(some 21), none, .op (.fad 5 (.t 20))⟩,
  ⟨(some 22), none, .op (.load none (.t 21))⟩,
  ⟨(some 23), none, .op (.len .sl (.t 22))⟩,
  ⟨(some 6), none, .op (.mv (.t 23))⟩] [])
  (.seq (.seq (.reg [⟨(some 24), none, .op (.mv (.t 6))⟩,
  ⟨(some 25), none, .op (.bin .none .eql (.t 24) (.v (.int .i64 0)))⟩] [])
  (.cond (.t 25)
  (.seq (.reg [⟨(some 4), none, .op (.mv (.v (.bool false)))⟩] [])
  .ret)
  .skip))
  (.seq (.reg [⟨(some 26), none, .op (.mv (.t 5))⟩,
  ⟨(some 27), none, .op (.nchk (.t 26))⟩,
  ⟨(some 28), none, .op (.fad 5 (.t 27))⟩,
  ⟨(some 29), none, .op (.load none (.t 28))⟩,
  ⟨(some 30), none, .op (.mv (.t 6))⟩,
  ⟨(some 31), none, .op (.bin .none .sub (.t 30) (.v (.int .i64 1)))⟩,
  ⟨(some 32), none, .op (.iad none (some 2) (.t 29) (.t 31))⟩,
  ⟨(some 33), none, .op (.load (some 2) (.t 32))⟩,
  ⟨(some 7), none, .op (.new [(.int .i64 0), .nils])⟩,
  ⟨none, none, .op (.store 2 (.t 7) (.t 33))⟩] [])
  (.seq (.reg [⟨(some 34), none, .op (.mv (.t 5))⟩,
  ⟨(some 35), none, .op (.mv (.t 5))⟩,
  ⟨(some 36), none, .op (.nchk (.t 35))⟩,
  ⟨(some 37), none, .op (.fad 5 (.t 36))⟩,
  ⟨(some 38), none, .op (.load none (.t 37))⟩,
  ⟨(some 39), none, .op (.mv (.t 6))⟩,
  ⟨(some 40), none, .op (.bin .none .sub (.t 39) (.v (.int .i64 1)))⟩,
  ⟨(some 41), none, .op (.slc (some 2) (.t 38) none (some (.t 40)) none)⟩,
  ⟨(some 42), none, .op (.nchk (.t 34))⟩,
  ⟨(some 43), none, .op (.fad 5 (.t 42))⟩,
  ⟨none, none, .op (.store 1 (.t 43) (.t 41))⟩] [])
  (.seq (.reg [⟨(some 44), none, .op (.mv (.t 0))⟩,
  ⟨(some 45), none, .op (.fad 0 (.t 7))⟩,
  ⟨(some 46), none, .op (.load none (.t 45))⟩,
  ⟨(some 47), none, .op (.fad 1 (.t 7))⟩,
  ⟨(some 48), none, .op (.load none (.t 47))⟩,
  ⟨(some 49), none, .op (.mv (.t 1))⟩,
  ⟨(some 50), none, .call 29 [(.t 44), (.t 46), (.t 48), (.t 49)]⟩] [])
  (.seq (.reg [⟨(some 4), none, .op (.mv (.v (.bool true)))⟩] [])
  .ret))))))))
theorem c79 : codeOf Try.prog 79 = some (51, [(4, none)], fc79) := by kernel_rfl
def fc83 : FC := (.seq (.reg [⟨(some 6), none, .op (.mv (.v .nils))⟩] [])
  (.seq (.seq (.reg [⟨(some 8), none, .op (.mv (.t 2))⟩,
  ⟨(some 9), none, .op (.mv (.v (.int .i64 0)))⟩] [])
  (.block 0 (.loop (.seq (.reg [⟨(some 10), none, .op (.bin .none .lss (.t 9) (.t 8))⟩] [])
  (.seq (.cond (.t 10)
  .skip
  (.exit 0))
  (.seq (.block 1 (.seq (.reg [⟨(some 11), none, .op (.mv (.t 9))⟩,
  ⟨(some 7), none, .op (.mv (.t 11))⟩] [])
  (.reg [⟨(some 12), none, .op (.mv (.t 0))⟩,
  ⟨(some 13), none, .op (.mv (.t 1))⟩,
  ⟨(some 14), none, .op (.mv (.t 7))⟩,
  ⟨(some 15), none, .op (.bin .none .mul (.v (.int .i64 8)) (.t 14))⟩,
  ⟨(some 16), none, .op (.cint .u64 (.t 15))⟩,
  ⟨(some 17), none, .op (.bin .none .shr (.t 13) (.t 16))⟩,
  ⟨(some 18), none, .op (.cint .u8 (.t 17))⟩,
  ⟨(some 19), none, .op (.bsl none [(.int .u8 0)] 1 [(0, 1, (.t 18))])⟩,
  ⟨(some 20), none, .op (.app none 1 (.t 12) (.t 19))⟩,
  ⟨(some 0), none, .op (.mv (.t 20))⟩] [])))
  (.reg [⟨(some 21), none, .op (.bin .none .add (.t 9) (.v (.int .i64 1)))⟩,
  ⟨(some 9), none, .op (.mv (.t 21))⟩] [])))))))
  (.seq (.reg [⟨(some 22), none, .op (.mv (.t 0))⟩,
  ⟨(some 6), none, .op (.mv (.t 22))⟩] [])
  .ret)))
theorem c83 : codeOf Try.prog 83 = some (23, [(6, none)], fc83) := by kernel_rfl
def fc84 : FC := (.seq (.reg [⟨(some 3), none, .op (.box (.t 1))⟩,
  ⟨(some 4), none, .op (.mv (.v .nils))⟩,
  ⟨(some 5), none, .op (.mv (.v (.bool false)))⟩] [])
  (.seq (.reg [⟨(some 7), none, .op (.fad 0 (.t 3))⟩,
  ⟨(some 8), none, .op (.load none (.t 7))⟩,
  ⟨(some 9), none, .call 85 [(.t 8)]⟩,
  ⟨(some 6), none, .op (.mv (.t 9))⟩] [])
  (.seq (.seq (.reg [⟨(some 10), none, .op (.mv (.t 6))⟩,
  ⟨(some 11), none, .op (.bin .none .lss (.t 10) (.v (.int .i64 0)))⟩,
  ⟨(some 12), none, .op (.mv (.t 11))⟩,
  ⟨(some 13), some (12, false), .op (.mv (.t 6))⟩,
  ⟨(some 14), some (12, false), .op (.bin .none .neq (.t 13) (.v (.int .i64 8)))⟩,
  ⟨(some 15), some (12, false), .op (.mv (.t 14))⟩,
  ⟨(some 16), some (15, true), .op (.fad 2 (.t 3))⟩,
  ⟨(some 17), some (15, true), .op (.load none (.t 16))⟩,
  ⟨(some 18), some (15, true), .op (.bin .none .neq (.t 17) (.v (.int .u64 0)))⟩,
  ⟨(some 19), some (12, false), .op (.pick (.t 15) (.t 18) (.v (.bool false)))⟩,
  ⟨(some 20), none, .op (.pick (.t 12) (.v (.bool true)) (.t 19))⟩] [])
  (.cond (.t 20)
  (.seq (.reg [⟨(some 4), none, .op (.mv (.v .nils))⟩,
  ⟨(some 5), none, .op (.mv (.v (.bool false)))⟩] [])
  .ret)
  .skip))
  (.seq (.reg [⟨(some 21), none, .op (.mv (.t 0))⟩,
  ⟨(some 22), none, .op (.fad 0 (.t 3))⟩,
  ⟨(some 23), none, .op (.load none (.t 22))⟩,
  ⟨(some 24), none, .op (.bsl none [(.int .u8 0)] 1 [(0, 1, (.t 23))])⟩,
  ⟨(some 25), none, .op (.app none 1 (.t 21) (.t 24))⟩,
  ⟨(some 0), none, .op (.mv (.t 25))⟩] [])
  (.seq (.seq (.reg [⟨(some 26), none, .op (.mv (.t 6))⟩,
  ⟨(some 27), none, .op (.bin .none .eql (.t 26) (.v (.int .i64 8)))⟩] [])
  (.cond (.t 27)
  (.seq (.reg [⟨(some 28), none, .op (.mv (.t 0))⟩,
  ⟨(some 29), none, .op (.fad 2 (.t 3))⟩,
  ⟨(some 30), none, .op (.load none (.t 29))⟩,
  ⟨(some 31), none, .call 83 [(.t 28), (.t 30), (.v (.int .i64 8))]⟩,
  ⟨(some 32), none, .op (.fad 1 (.t 3))⟩,
  ⟨(some 33), none, .op (.load none (.t 32))⟩,
  ⟨(some 34), none, .op (.bin .none .eql (.t 33) (.v (.int .i64 0)))⟩,
  ⟨(some 4), none, .op (.mv (.t 31))⟩,
  ⟨(some 5), none, .op (.mv (.t 34))⟩] [(3, 5)])
  .ret)
  .skip))
  (.seq (.reg [⟨(some 35), none, .op (.mv (.t 0))⟩,
  ⟨(some 36), none, .op (.fad 1 (.t 3))⟩,
  ⟨(some 37), none, .op (.load none (.t 36))⟩,
  ⟨(some 38), none, .op (.cint .u64 (.t 37))⟩,
  ⟨(some 39), none, .op (.mv (.t 6))⟩,
  ⟨(some 40), none, .call 83 [(.t 35), (.t 38), (.t 39)]⟩,
  ⟨(some 41), none, .op (.fad 1 (.t 3))⟩,
  ⟨(some 42), none, .op (.load none (.t 41))⟩,
  ⟨(some 43), none, .op (.bin .none .geq (.t 42) (.v (.int .i64 0)))⟩,
  ⟨(some 44), none, .op (.mv (.t 43))⟩,
  ⟨(some 45), some (44, true), .op (.fad 1 (.t 3))⟩,
  ⟨(some 46), some (44, true), .op (.load none (.t 45))⟩,
  ⟨(some 47), some (44, true), .op (.mv (.t 6))⟩,
  ⟨(some 48), some (44, true), .op (.bin .none .mul (.v (.int .i64 8)) (.t 47))⟩,
  ⟨(some 49), some (44, true), .op (.cint .u64 (.t 48))⟩,
  ⟨(some 50), some (44, true), .op (.bin .none .shl (.v (.int .i64 1)) (.t 49))⟩,
  ⟨(some 51), some (44, true), .op (.bin .none .lss (.t 46) (.t 50))⟩,
  ⟨(some 52), none, .op (.pick (.t 44) (.t 51) (.v (.bool false)))⟩,
  ⟨(some 4), none, .op (.mv (.t 40))⟩,
  ⟨(some 5), none, .op (.mv (.t 52))⟩] [(5, 7)])
  .ret))))))
theorem c84 : codeOf Try.prog 84 = some (53, [(4, none), (5, none)], fc84) := by kernel_rfl
def fc85 : FC := (.seq (.reg [⟨(some 2), none, .op (.mv (.v (.int .i64 0)))⟩] [])
  (.seq (.seq (.reg [⟨(some 3), none, .op (.mv (.t 0))⟩] [])
  (.block 0 (.seq (.reg [⟨(some 5), none, .op (.bin .none .eql (.t 3) (.v (.int .u8 1)))⟩,
  ⟨(some 4), none, .op (.mv (.t 5))⟩] [])
  (.cond (.t 4)
  (.seq (.reg [⟨(some 2), none, .op (.mv (.v (.int .i64 8)))⟩] [])
  .ret)
  (.seq (.seq (.reg [⟨(some 7), none, .op (.bin .none .eql (.t 3) (.v (.int .u8 2)))⟩,
  ⟨(some 6), none, .op (.mv (.t 7))⟩] [])
  (.cond (.t 6)
  .skip
  (.seq (.reg [⟨(some 8), none, .op (.bin .none .eql (.t 3) (.v (.int .u8 3)))⟩,
  ⟨(some 6), none, .op (.mv (.t 8))⟩] [])
  (.cond (.t 6)
  .skip
  (.seq (.reg [⟨(some 9), none, .op (.bin .none .eql (.t 3) (.v (.int .u8 4)))⟩,
  ⟨(some 6), none, .op (.mv (.t 9))⟩] [])
  (.cond (.t 6)
  .skip
  (.seq (.reg [⟨(some 10), none, .op (.bin .none .eql (.t 3) (.v (.int .u8 23)))⟩,
  ⟨(some 6), none, .op (.mv (.t 10))⟩] [])
  (.cond (.t 6)
  .skip
  (.reg [⟨(some 11), none, .op (.bin .none .eql (.t 3) (.v (.int .u8 25)))⟩,
  ⟨(some 6), none, .op (.mv (.t 11))⟩] [])))))))))
  (.cond (.t 6)
  (.seq (.reg [⟨(some 2), none, .op (.mv (.v (.int .i64 1)))⟩] [])
  .ret)
  (.seq (.seq (.reg [⟨(some 13), none, .op (.bin .none .eql (.t 3) (.v (.int .u8 21)))⟩,
  ⟨(some 12), none, .op (.mv (.t 13))⟩] [])
  (.cond (.t 12)
  .skip
  (.reg [⟨(some 14), none, .op (.bin .none .eql (.t 3) (.v (.int .u8 22)))⟩,
  ⟨(some 12), none, .op (.mv (.t 14))⟩] [])))
  (.cond (.t 12)
  (.seq (.reg [⟨(some 2), none, .op (.mv (.v (.int .i64 2)))⟩] [])
  .ret)
  .skip))))))))
  (.seq (.seq (.reg [⟨(some 15), none, .op (.mv (.t 0))⟩,
  ⟨(some 16), none, .op (.bin .none .lss (.t 15) (.v (.int .u8 1)))⟩,
  ⟨(some 17), none, .op (.mv (.t 16))⟩,
  ⟨(some 18), some (17, false), .op (.mv (.t 0))⟩,
  ⟨(some 19), some (17, false), .op (.bin .none .gtr (.t 18) (.v (.int .u8 32)))⟩,
  ⟨(some 20), none, .op (.pick (.t 17) (.v (.bool true)) (.t 19))⟩] [])
  (.cond (.t 20)
  (.seq (.reg [⟨(some 2), none, .op (.mv (.v (.int .i64 (-1))))⟩] [])
  .ret)
  .skip))
  (.seq (.reg [⟨(some 2), none, .op (.mv (.v (.int .i64 0)))⟩] [])
  .ret))))
theorem c85 : codeOf Try.prog 85 = some (21, [(2, none)], fc85) := by kernel_rfl
def tabL : List (Nat × (Nat × List RS × FC)) := [(8, 102, [(2, none)], fc8), (14, 31, [(0, none)], fc14), (15, 49, [(2, (some (some 1))), (3, none)], fc15), (16, 72, [(4, none)], fc16), (17, 40, [(8, none)], fc17), (23, 99, [(2, none), (3, none)], fc23), (26, 144, [(8, (some (some 8)))], fc26), (27, 157, [(4, none)], fc27), (28, 249, [(8, none)], fc28), (29, 103, [], fc29), (30, 398, [], fc30), (37, 40, [(2, none), (3, none)], fc37), (38, 32, [(2, none)], fc38), (39, 60, [(4, none)], fc39), (40, 167, [(4, none), (5, none), (6, none), (7, none)], fc40), (41, 88, [], fc41), (42, 229, [(6, (some (some 12)))], fc42), (44, 30, [(8, none)], fc44), (45, 44, [(2, none)], fc45), (46, 8, [(2, none)], fc46), (47, 39, [], fc47), (48, 36, [(4, none)], fc48), (53, 142, [], fc53), (64, 100, [(4, none), (5, none)], fc64), (65, 53, [(6, none)], fc65), (66, 105, [(8, none), (9, none)], fc66), (67, 26, [(4, none)], fc67), (68, 8, [(2, none)], fc68), (69, 26, [(4, none)], fc69), (70, 17, [(5, none)], fc70), (71, 21, [(6, none)], fc71), (79, 51, [(4, none)], fc79), (83, 23, [(6, none)], fc83), (84, 53, [(4, none), (5, none)], fc84), (85, 21, [(2, none)], fc85)]
theorem tabL_ok : allC Try.prog tabL := ⟨c8, c14, c15, c16, c17, c23, c26, c27, c28, c29, c30, c37, c38, c39, c40, c41, c42, c44, c45, c46, c47, c48, c53, c64, c65, c66, c67, c68, c69, c70, c71, c79, c83, c84, c85, trivial⟩
theorem mixed : Try.prog.follows .mixedOrders = true := by kernel_rfl
end Go.Proofs.Ytjgdppgagihejaa
