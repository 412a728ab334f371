/- The code of the functions that are met, resolved: read off the program's own text while this is built. Printed by a program. -/
import Derived.Test.YtcicbbceknhkfaaGreatDoorWlL2
import Derived.Test.YtcicbbceknhkfaaGreatDoorRows
namespace Go.Proofs.YtcicbbceknhkfaaGreatDoor
set_option linter.constructorNameAsVariable false
set_option linter.unusedSimpArgs false
set_option linter.unusedVariables false
open Go Go.Ab Go.RowKit
set_option maxRecDepth 100000
set_option maxHeartbeats 4000000
set_option linter.unusedVariables false
def c3 : {x // codeOf Tryz.prog 3 = x} := ⟨_, by conv => lhs; reduce⟩
def c4 : {x // codeOf Tryz.prog 4 = x} := ⟨some (31, [(0, none)], (.seq (.reg [⟨(some 0), none, .op (.mv (.v (.bool false)))⟩] [])
  (.seq (.reg [⟨(some 4), none, .op (.bsl none [(.int .u8 0)] 20 [(0, 1, (.v (.int .u8 87))), (1, 1, (.v (.int .u8 76))), (2, 1, (.v (.int .u8 1))), (3, 1, (.v (.int .u8 0))), (4, 1, (.v (.int .u8 0))), (5, 1, (.v (.int .u8 0))), (6, 1, (.v (.int .u8 255))), (7, 1, (.v (.int .u8 3))), (8, 1, (.v (.int .u8 0))), (9, 1, (.v (.int .u8 1))), (10, 1, (.v (.int .u8 7))), (11, 1, (.v (.int .u8 0))), (12, 1, (.v (.int .u8 0))), (13, 1, (.v (.int .u8 0))), (14, 1, (.v (.int .u8 0))), (15, 1, (.v (.int .u8 0))), (16, 1, (.v (.int .u8 0))), (17, 1, (.v (.int .u8 0))), (18, 1, (.v (.int .u8 29))), (19, 1, (.v (.int .u8 24)))])⟩,
  ⟨(some 5), none, .op (.build [(.int .i64 0), (.int .i64 0), .nils] [(0, 1, (.v (.int .i64 200))), (1, 1, (.v (.int .i64 512)))])⟩,
  ⟨(some 6), none, .call 9 [(.t 4), (.v .nils), (.t 5)]⟩,
  ⟨(some 3), none, .op (.mv (.t 6))⟩,
  ⟨(some 7), none, .op (.ext 0 (.t 3))⟩,
  ⟨(some 8), none, .op (.ext 1 (.t 3))⟩,
  ⟨(some 1), none, .op (.new [.nils, (.int .i64 0), (.int .u64 0), (.int .i64 0), (.int .i64 0), (.int .i64 0)])⟩,
  ⟨none, none, .op (.store 6 (.t 1) (.t 7))⟩,
  ⟨(some 2), none, .op (.mv (.t 8))⟩] [])
  (.seq (.reg [⟨(some 9), none, .op (.mv (.t 2))⟩,
  ⟨(some 10), none, .op (.bin .none .eql (.t 9) (.v (.int .i64 0)))⟩,
  ⟨(some 11), none, .op (.mv (.t 10))⟩,
  ⟨(some 12), some (11, true), .op (.fad 1 (.t 1))⟩,
  ⟨(some 13), some (11, true), .op (.load (some 2) (.t 12))⟩,
  ⟨(some 14), some (11, true), .op (.build [(.int .i64 0), (.int .u64 0)] [(0, 1, (.v (.int .i64 1)))])⟩,
  ⟨(some 15), some (11, true), .op (.eqs [.int, .int] .eql (.t 13) (.t 14))⟩,
  ⟨(some 16), none, .op (.pick (.t 11) (.t 15) (.v (.bool false)))⟩,
  ⟨(some 17), none, .op (.mv (.t 16))⟩,
  ⟨(some 18), some (17, true), .op (.fad 0 (.t 1))⟩,
  ⟨(some 19), some (17, true), .op (.load none (.t 18))⟩,
  ⟨(some 20), some (17, true), .op (.len .sl (.t 19))⟩,
  ⟨(some 21), some (17, true), .op (.bin .none .eql (.t 20) (.v (.int .i64 1)))⟩,
  ⟨(some 22), none, .op (.pick (.t 17) (.t 21) (.v (.bool false)))⟩,
  ⟨(some 23), none, .op (.mv (.t 22))⟩,
  ⟨(some 24), some (23, true), .op (.fad 0 (.t 1))⟩,
  ⟨(some 25), some (23, true), .op (.load none (.t 24))⟩,
  ⟨(some 26), some (23, true), .op (.iad none (some 2) (.t 25) (.v (.int .i64 0)))⟩,
  ⟨(some 27), some (23, true), .op (.load (some 2) (.t 26))⟩,
  ⟨(some 28), some (23, true), .op (.build [(.int .i64 0), (.int .u64 0)] [(0, 1, (.v (.int .i64 1))), (1, 1, (.v (.int .u64 7)))])⟩,
  ⟨(some 29), some (23, true), .op (.eqs [.int, .int] .eql (.t 27) (.t 28))⟩,
  ⟨(some 30), none, .op (.pick (.t 23) (.t 29) (.v (.bool false)))⟩,
  ⟨(some 0), none, .op (.mv (.t 30))⟩] [])
  .ret)))), by kernel_rfl⟩
def c6 : {x // codeOf Tryz.prog 6 = x} := ⟨some (134, [(10, none)], (.seq (.reg [⟨(some 5), none, .op (.box (.t 0))⟩,
  ⟨(some 7), none, .op (.box (.t 2))⟩,
  ⟨(some 9), none, .op (.box (.t 4))⟩,
  ⟨(some 10), none, .op (.mv (.v (.bool false)))⟩] [])
  (.seq (.reg [⟨(some 25), none, .op (.load (some 1) (.t 5))⟩,
  ⟨(some 26), none, .call 10 [(.t 25)]⟩,
  ⟨(some 24), none, .op (.mv (.t 26))⟩,
  ⟨(some 27), none, .op (.ext 0 (.t 24))⟩,
  ⟨(some 28), none, .op (.ext 1 (.t 24))⟩,
  ⟨(some 11), none, .op (.new [.nils, .nils, .nils])⟩,
  ⟨none, none, .op (.store 3 (.t 11) (.t 27))⟩,
  ⟨(some 12), none, .op (.mv (.t 28))⟩] [])
  (.seq (.seq (.reg [⟨(some 29), none, .op (.mv (.t 12))⟩,
  ⟨(some 30), none, .op (.un .not (.t 29))⟩] [])
  (.cond (.t 30)
  (.seq (.reg [⟨(some 10), none, .op (.mv (.v (.bool false)))⟩] [])
  .ret)
  .skip))
  (.seq (.reg [⟨(some 32), none, .op (.load (some 1) (.t 5))⟩,
  ⟨(some 33), none, .op (.mv (.t 1))⟩,
  ⟨(some 34), none, .call 11 [(.t 32), (.t 33), (.v (.int .i64 1048576))]⟩,
  ⟨(some 31), none, .op (.mv (.t 34))⟩,
  ⟨(some 35), none, .op (.ext 0 (.t 31))⟩,
  ⟨(some 36), none, .op (.ext 1 (.t 31))⟩,
  ⟨(some 13), none, .op (.new [.nils, (.int .i64 0), (.int .u64 0), (.int .i64 0), (.int .i64 0), (.int .i64 0), (.int .i64 0)])⟩,
  ⟨none, none, .op (.store 7 (.t 13) (.t 35))⟩,
  ⟨(some 14), none, .op (.mv (.t 36))⟩] [])
  (.seq (.reg [⟨(some 15), none, .op (.mv (.v (.int .i64 0)))⟩] [])
  (.seq (.seq (.reg [⟨(some 37), none, .op (.fad 1 (.t 11))⟩,
  ⟨(some 38), none, .op (.fad 0 (.t 37))⟩,
  ⟨(some 39), none, .op (.load none (.t 38))⟩,
  ⟨(some 40), none, .op (.len .sl (.t 39))⟩,
  ⟨(some 41), none, .op (.mv (.v (.int .i64 0)))⟩] [])
  (.block 0 (.loop (.seq (.reg [⟨(some 42), none, .op (.bin .none .lss (.t 41) (.t 40))⟩] [])
  (.seq (.cond (.t 42)
  .skip
  (.exit 0))
  (.seq (.block 1 (.seq (.reg [⟨(some 43), none, .op (.iad none (some 6) (.t 39) (.t 41))⟩,
  ⟨(some 44), none, .op (.load (some 6) (.t 43))⟩,
  ⟨(some 17), none, .op (.new [(.int .i64 0), (.int .i64 0), (.int .i64 0), .nils, .nils, (.int .i64 0)])⟩,
  ⟨none, none, .op (.store 6 (.t 17) (.t 44))⟩] [])
  (.reg [⟨(some 45), none, .op (.mv (.t 15))⟩,
  ⟨(some 46), none, .op (.fad 2 (.t 17))⟩,
  ⟨(some 47), none, .op (.load none (.t 46))⟩,
  ⟨(some 48), none, .op (.mn true (.t 45) (.t 47))⟩,
  ⟨(some 15), none, .op (.mv (.t 48))⟩] [])))
  (.reg [⟨(some 49), none, .op (.bin .none .add (.t 41) (.v (.int .i64 1)))⟩,
  ⟨(some 41), none, .op (.mv (.t 49))⟩] [])))))))
  (.seq (.seq (.reg [⟨(some 50), none, .op (.mv (.t 15))⟩,
  ⟨(some 51), none, .op (.bin .none .add (.t 50) (.v (.int .i64 16)))⟩,
  ⟨(some 52), none, .op (.fad 4 (.t 13))⟩,
  ⟨(some 53), none, .op (.load none (.t 52))⟩,
  ⟨(some 54), none, .op (.bin .none .add (.t 53) (.v (.int .i64 2)))⟩,
  ⟨(some 55), none, .op (.bin .none .mul (.t 51) (.t 54))⟩,
  ⟨(some 56), none, .op (.bin .none .gtr (.t 55) (.v (.int .i64 65536)))⟩,
  ⟨(some 57), none, .op (.mv (.t 56))⟩,
  ⟨(some 58), some (57, false), .op (.fad 3 (.t 13))⟩,
  ⟨(some 59), some (57, false), .op (.load none (.t 58))⟩,
  ⟨(some 60), some (57, false), .op (.bin .none .add (.t 59) (.v (.int .i64 1)))⟩,
  ⟨(some 61), some (57, false), .op (.bin .none .mul (.v (.int .i64 400)) (.t 60))⟩,
  ⟨(some 62), some (57, false), .op (.bin .none .gtr (.t 61) (.v (.int .i64 1048576)))⟩,
  ⟨(some 63), none, .op (.pick (.t 57) (.v (.bool true)) (.t 62))⟩] [])
  (.cond (.t 63)
  (.seq (.reg [⟨(some 10), none, .op (.mv (.v (.bool true)))⟩] [])
  .ret)
  .skip))
  (.seq (.reg [⟨(some 65), none, .op (.load (some 3) (.t 11))⟩,
  ⟨(some 66), none, .op (.mv (.t 1))⟩,
  ⟨(some 67), none, .op (.load (some 2) (.t 7))⟩,
  ⟨(some 68), none, .call 13 [(.t 67)]⟩,
  ⟨(some 69), none, .call 12 [(.t 65), (.t 66), (.t 68)]⟩,
  ⟨(some 64), none, .op (.mv (.t 69))⟩,
  ⟨(some 70), none, .op (.ext 0 (.t 64))⟩,
  ⟨(some 71), none, .op (.ext 1 (.t 64))⟩,
  ⟨(some 18), none, .op (.new [.nils, (.int .i64 0), (.int .u64 0), (.int .i64 0), (.int .i64 0), (.int .i64 0)])⟩,
  ⟨none, none, .op (.store 6 (.t 18) (.t 70))⟩,
  ⟨(some 19), none, .op (.mv (.t 71))⟩] [(0, 3), (0, 8), (2, 8), (3, 8), (4, 8)])
  (.seq (.seq (.reg [⟨(some 72), none, .op (.mv (.t 19))⟩,
  ⟨(some 73), none, .op (.bin .none .neq (.t 72) (.v (.int .i64 0)))⟩,
  ⟨(some 74), none, .op (.mv (.t 73))⟩,
  ⟨(some 75), some (74, false), .op (.mv (.t 14))⟩,
  ⟨(some 76), some (74, false), .op (.bin .none .neq (.t 75) (.v (.int .i64 0)))⟩,
  ⟨(some 77), none, .op (.pick (.t 74) (.v (.bool true)) (.t 76))⟩,
  ⟨(some 78), none, .op (.mv (.t 77))⟩,
  ⟨(some 79), some (78, false), .op (.fad 1 (.t 18))⟩,
  ⟨(some 80), some (78, false), .op (.load (some 2) (.t 79))⟩,
  ⟨(some 81), some (78, false), .op (.load (some 2) (.t 9))⟩,
  ⟨(some 82), some (78, false), .op (.eqs [.int, .int] .neq (.t 80) (.t 81))⟩,
  ⟨(some 83), none, .op (.pick (.t 78) (.v (.bool true)) (.t 82))⟩,
  ⟨(some 84), none, .op (.mv (.t 83))⟩,
  ⟨(some 85), some (84, false), .op (.fad 1 (.t 13))⟩,
  ⟨(some 86), some (84, false), .op (.load (some 2) (.t 85))⟩,
  ⟨(some 87), some (84, false), .op (.load (some 2) (.t 9))⟩,
  ⟨(some 88), some (84, false), .op (.eqs [.int, .int] .neq (.t 86) (.t 87))⟩,
  ⟨(some 89), none, .op (.pick (.t 84) (.v (.bool true)) (.t 88))⟩,
  ⟨(some 90), none, .op (.mv (.t 89))⟩,
  ⟨(some 91), some (90, false), .op (.fad 0 (.t 18))⟩,
  ⟨(some 92), some (90, false), .op (.load none (.t 91))⟩,
  ⟨(some 93), some (90, false), .op (.fad 0 (.t 13))⟩,
  ⟨(some 94), some (90, false), .op (.load none (.t 93))⟩,
  ⟨(some 95), some (90, false), .call 14 [(.t 92), (.t 94)]⟩,
  ⟨(some 96), some (90, false), .op (.un .not (.t 95))⟩,
  ⟨(some 97), none, .op (.pick (.t 90) (.v (.bool true)) (.t 96))⟩] [])
  (.cond (.t 97)
  (.seq (.reg [⟨(some 10), none, .op (.mv (.v (.bool false)))⟩] [])
  .ret)
  .skip))
  (.seq (.reg [⟨(some 20), none, .op (.mv (.v .nils))⟩] [])
  (.seq (.seq (.reg [⟨(some 98), none, .op (.fad 0 (.t 18))⟩,
  ⟨(some 99), none, .op (.load none (.t 98))⟩,
  ⟨(some 100), none, .op (.len .sl (.t 99))⟩,
  ⟨(some 101), none, .op (.mv (.v (.int .i64 0)))⟩] [])
  (.block 2 (.loop (.seq (.reg [⟨(some 102), none, .op (.bin .none .lss (.t 101) (.t 100))⟩] [])
  (.seq (.cond (.t 102)
  .skip
  (.exit 2))
  (.seq (.block 3 (.seq (.reg [⟨(some 103), none, .op (.iad none (some 2) (.t 99) (.t 101))⟩,
  ⟨(some 104), none, .op (.load (some 2) (.t 103))⟩,
  ⟨(some 22), none, .op (.new [(.int .i64 0), (.int .u64 0)])⟩,
  ⟨none, none, .op (.store 2 (.t 22) (.t 104))⟩] [])
  (.seq (.reg [⟨(some 105), none, .op (.fad 0 (.t 22))⟩,
  ⟨(some 106), none, .op (.load none (.t 105))⟩,
  ⟨(some 107), none, .op (.bin .none .eql (.t 106) (.v (.int .i64 1)))⟩] [])
  (.cond (.t 107)
  (.reg [⟨(some 108), none, .op (.mv (.t 20))⟩,
  ⟨(some 109), none, .op (.fad 1 (.t 22))⟩,
  ⟨(some 110), none, .op (.load none (.t 109))⟩,
  ⟨(some 111), none, .op (.bsl none [(.int .u64 0)] 1 [(0, 1, (.t 110))])⟩,
  ⟨(some 112), none, .op (.app none 8 (.t 108) (.t 111))⟩,
  ⟨(some 20), none, .op (.mv (.t 112))⟩] [])
  .skip))))
  (.reg [⟨(some 113), none, .op (.bin .none .add (.t 101) (.v (.int .i64 1)))⟩,
  ⟨(some 101), none, .op (.mv (.t 113))⟩] [])))))))
  (.seq (.seq (.reg [⟨(some 114), none, .op (.mv (.t 20))⟩,
  ⟨(some 115), none, .op (.len .sl (.t 114))⟩,
  ⟨(some 116), none, .op (.mv (.t 3))⟩,
  ⟨(some 117), none, .op (.len .sl (.t 116))⟩,
  ⟨(some 118), none, .op (.bin .none .neq (.t 115) (.t 117))⟩] [])
  (.cond (.t 118)
  (.seq (.reg [⟨(some 10), none, .op (.mv (.v (.bool false)))⟩] [])
  .ret)
  .skip))
  (.seq (.seq (.reg [⟨(some 119), none, .op (.mv (.t 20))⟩,
  ⟨(some 120), none, .op (.len .sl (.t 119))⟩,
  ⟨(some 121), none, .op (.mv (.v (.int .i64 0)))⟩] [])
  (.block 4 (.loop (.seq (.reg [⟨(some 122), none, .op (.bin .none .lss (.t 121) (.t 120))⟩] [])
  (.seq (.cond (.t 122)
  .skip
  (.exit 4))
  (.seq (.block 5 (.seq (.reg [⟨(some 123), none, .op (.mv (.t 121))⟩,
  ⟨(some 23), none, .op (.mv (.t 123))⟩] [])
  (.seq (.reg [⟨(some 124), none, .op (.mv (.t 20))⟩,
  ⟨(some 125), none, .op (.mv (.t 23))⟩,
  ⟨(some 126), none, .op (.iad none none (.t 124) (.t 125))⟩,
  ⟨(some 127), none, .op (.load none (.t 126))⟩,
  ⟨(some 128), none, .op (.mv (.t 3))⟩,
  ⟨(some 129), none, .op (.mv (.t 23))⟩,
  ⟨(some 130), none, .op (.iad none none (.t 128) (.t 129))⟩,
  ⟨(some 131), none, .op (.load none (.t 130))⟩,
  ⟨(some 132), none, .op (.bin .none .neq (.t 127) (.t 131))⟩] [])
  (.cond (.t 132)
  (.seq (.reg [⟨(some 10), none, .op (.mv (.v (.bool false)))⟩] [])
  .ret)
  .skip))))
  (.reg [⟨(some 133), none, .op (.bin .none .add (.t 121) (.v (.int .i64 1)))⟩,
  ⟨(some 121), none, .op (.mv (.t 133))⟩] [])))))))
  (.seq (.reg [⟨(some 10), none, .op (.mv (.v (.bool true)))⟩] [])
  .ret))))))))))))))), by kernel_rfl⟩
def c10 : {x // codeOf Tryz.prog 10 = x} := ⟨_, by conv => lhs; reduce⟩
def c14 : {x // codeOf Tryz.prog 14 = x} := ⟨_, by conv => lhs; reduce⟩
def c18 : {x // codeOf Tryz.prog 18 = x} := ⟨_, by conv => lhs; reduce⟩
def c21 : {x // codeOf Tryz.prog 21 = x} := ⟨_, by conv => lhs; reduce⟩
def c25 : {x // codeOf Tryz.prog 25 = x} := ⟨_, by conv => lhs; reduce⟩
def c32 : {x // codeOf Tryz.prog 32 = x} := ⟨_, by conv => lhs; reduce⟩
def c33 : {x // codeOf Tryz.prog 33 = x} := ⟨_, by conv => lhs; reduce⟩
def c37 : {x // codeOf Tryz.prog 37 = x} := ⟨_, by conv => lhs; reduce⟩
def c38 : {x // codeOf Tryz.prog 38 = x} := ⟨_, by conv => lhs; reduce⟩
def c41 : {x // codeOf Tryz.prog 41 = x} := ⟨_, by conv => lhs; reduce⟩
def c43 : {x // codeOf Tryz.prog 43 = x} := ⟨_, by conv => lhs; reduce⟩
def c52 : {x // codeOf Tryz.prog 52 = x} := ⟨_, by conv => lhs; reduce⟩
def c61 : {x // codeOf Tryz.prog 61 = x} := ⟨_, by conv => lhs; reduce⟩
def c72 : {x // codeOf Tryz.prog 72 = x} := ⟨_, by conv => lhs; reduce⟩
def c79 : {x // codeOf Tryz.prog 79 = x} := ⟨_, by conv => lhs; reduce⟩
def c83 : {x // codeOf Tryz.prog 83 = x} := ⟨_, by conv => lhs; reduce⟩
def c88 : {x // codeOf Tryz.prog 88 = x} := ⟨_, by conv => lhs; reduce⟩
def c95 : {x // codeOf Tryz.prog 95 = x} := ⟨_, by conv => lhs; reduce⟩
def c98 : {x // codeOf Tryz.prog 98 = x} := ⟨_, by conv => lhs; reduce⟩
def c104 : {x // codeOf Tryz.prog 104 = x} := ⟨_, by conv => lhs; reduce⟩
def c106 : {x // codeOf Tryz.prog 106 = x} := ⟨_, by conv => lhs; reduce⟩
def c107 : {x // codeOf Tryz.prog 107 = x} := ⟨_, by conv => lhs; reduce⟩
def c111 : {x // codeOf Tryz.prog 111 = x} := ⟨_, by conv => lhs; reduce⟩
def c119 : {x // codeOf Tryz.prog 119 = x} := ⟨_, by conv => lhs; reduce⟩
def c123 : {x // codeOf Tryz.prog 123 = x} := ⟨_, by conv => lhs; reduce⟩
def c128 : {x // codeOf Tryz.prog 128 = x} := ⟨_, by conv => lhs; reduce⟩
def c130 : {x // codeOf Tryz.prog 130 = x} := ⟨_, by conv => lhs; reduce⟩
def c135 : {x // codeOf Tryz.prog 135 = x} := ⟨_, by conv => lhs; reduce⟩
def c136 : {x // codeOf Tryz.prog 136 = x} := ⟨_, by conv => lhs; reduce⟩
def c143 : {x // codeOf Tryz.prog 143 = x} := ⟨_, by conv => lhs; reduce⟩
def c144 : {x // codeOf Tryz.prog 144 = x} := ⟨_, by conv => lhs; reduce⟩
def c146 : {x // codeOf Tryz.prog 146 = x} := ⟨_, by conv => lhs; reduce⟩
def c157 : {x // codeOf Tryz.prog 157 = x} := ⟨_, by conv => lhs; reduce⟩
def c161 : {x // codeOf Tryz.prog 161 = x} := ⟨_, by conv => lhs; reduce⟩
def c162 : {x // codeOf Tryz.prog 162 = x} := ⟨_, by conv => lhs; reduce⟩
def c169 : {x // codeOf Tryz.prog 169 = x} := ⟨_, by conv => lhs; reduce⟩
def c171 : {x // codeOf Tryz.prog 171 = x} := ⟨_, by conv => lhs; reduce⟩
def c183 : {x // codeOf Tryz.prog 183 = x} := ⟨_, by conv => lhs; reduce⟩
def c185 : {x // codeOf Tryz.prog 185 = x} := ⟨_, by conv => lhs; reduce⟩
def c193 : {x // codeOf Tryz.prog 193 = x} := ⟨_, by conv => lhs; reduce⟩
def c194 : {x // codeOf Tryz.prog 194 = x} := ⟨_, by conv => lhs; reduce⟩
def c207 : {x // codeOf Tryz.prog 207 = x} := ⟨_, by conv => lhs; reduce⟩
def c210 : {x // codeOf Tryz.prog 210 = x} := ⟨_, by conv => lhs; reduce⟩
def c213 : {x // codeOf Tryz.prog 213 = x} := ⟨_, by conv => lhs; reduce⟩
def c215 : {x // codeOf Tryz.prog 215 = x} := ⟨_, by conv => lhs; reduce⟩
def c221 : {x // codeOf Tryz.prog 221 = x} := ⟨_, by conv => lhs; reduce⟩
def c225 : {x // codeOf Tryz.prog 225 = x} := ⟨_, by conv => lhs; reduce⟩
def c228 : {x // codeOf Tryz.prog 228 = x} := ⟨_, by conv => lhs; reduce⟩
def c229 : {x // codeOf Tryz.prog 229 = x} := ⟨_, by conv => lhs; reduce⟩
def c230 : {x // codeOf Tryz.prog 230 = x} := ⟨_, by conv => lhs; reduce⟩
def c249 : {x // codeOf Tryz.prog 249 = x} := ⟨_, by conv => lhs; reduce⟩
def c252 : {x // codeOf Tryz.prog 252 = x} := ⟨_, by conv => lhs; reduce⟩
def c259 : {x // codeOf Tryz.prog 259 = x} := ⟨_, by conv => lhs; reduce⟩
def c261 : {x // codeOf Tryz.prog 261 = x} := ⟨_, by conv => lhs; reduce⟩
def c264 : {x // codeOf Tryz.prog 264 = x} := ⟨_, by conv => lhs; reduce⟩
def c266 : {x // codeOf Tryz.prog 266 = x} := ⟨_, by conv => lhs; reduce⟩
def c267 : {x // codeOf Tryz.prog 267 = x} := ⟨_, by conv => lhs; reduce⟩
def c268 : {x // codeOf Tryz.prog 268 = x} := ⟨_, by conv => lhs; reduce⟩
def c269 : {x // codeOf Tryz.prog 269 = x} := ⟨_, by conv => lhs; reduce⟩
end Go.Proofs.YtcicbbceknhkfaaGreatDoor
