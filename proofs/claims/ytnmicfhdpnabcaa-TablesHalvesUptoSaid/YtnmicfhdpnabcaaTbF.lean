/- The code of each function of the tables' layer, resolved (printed by wip/tools/PF.lean). -/
import Derived.Test.YtnmicfhdpnabcaaWlD1
import Derived.Test.YtnmicfhdpnabcaaRows
namespace Go.Proofs.Ytnmicfhdpnabcaa
open Go Go.Ab
set_option maxRecDepth 20000
/- windlass/windlasslaw19.TablesHalves -/
def fc3 : FC := (.seq (.reg [⟨(some 2), none, .op (.mv (.v (.bool false)))⟩] [])
  (.seq (.seq (.reg [⟨(some 16), none, .call 8 []⟩,
    ⟨(some 17), none, .op (.un .not (.t 16))⟩] [])
  (.cond (.t 17)
    (.seq (.reg [⟨(some 2), none, .op (.mv (.v (.bool false)))⟩] [])
    .ret)
    .skip))
  (.seq (.reg [⟨(some 3), none, .op (.new [.nils, .nils])⟩] [])
  (.seq (.reg [⟨(some 4), none, .op (.mv (.v (.int .i64 2)))⟩] [])
  (.seq (.seq (.reg [⟨(some 18), none, .op (.mv (.t 0))⟩,
    ⟨(some 19), none, .op (.len .sl (.t 18))⟩,
    ⟨(some 20), none, .op (.mv (.v (.int .i64 0)))⟩] [])
  (.block 0 (.loop (.seq (.reg [⟨(some 21), none, .op (.bin .none .lss (.t 20) (.t 19))⟩] [])
    (.seq (.cond (.t 21)
      .skip
      (.exit 0))
    (.seq (.block 1 (.seq (.reg [⟨(some 22), none, .op (.mv (.t 20))⟩,
       ⟨(some 23), none, .op (.iad none none (.t 18) (.t 20))⟩,
       ⟨(some 24), none, .op (.load none (.t 23))⟩,
       ⟨(some 5), none, .op (.mv (.t 22))⟩,
       ⟨(some 6), none, .op (.mv (.t 24))⟩] [])
     (.seq (.seq (.reg [⟨(some 25), none, .op (.mv (.t 5))⟩,
       ⟨(some 26), none, .op (.bin .none .geq (.t 25) (.v (.int .i64 16)))⟩] [])
     (.cond (.t 26)
       (.exit 0)
       .skip))
     (.seq (.reg [⟨(some 27), none, .op (.mv (.t 6))⟩,
       ⟨(some 28), none, .op (.cint .u64 (.t 27))⟩,
       ⟨(some 29), none, .op (.bin .none .rem (.t 28) (.v (.int .u64 50)))⟩,
       ⟨(some 30), none, .op (.cint .i64 (.t 29))⟩,
       ⟨(some 31), none, .op (.bin .none .add (.v (.int .i64 1)) (.t 30))⟩,
       ⟨(some 7), none, .op (.mv (.t 31))⟩] [])
     (.seq (.reg [⟨(some 32), none, .op (.fad 0 (.t 3))⟩,
       ⟨(some 33), none, .op (.load none (.t 32))⟩,
       ⟨(some 34), none, .op (.mv (.t 4))⟩,
       ⟨(some 35), none, .op (.mv (.t 4))⟩,
       ⟨(some 36), none, .op (.mv (.t 7))⟩,
       ⟨(some 37), none, .op (.bin .none .add (.t 35) (.t 36))⟩,
       ⟨(some 38), none, .op (.build [(.int .i64 0), (.int .i64 0), (.int .i64 0), .nils, .nils, (.int .i64 0)] [(0, 1, (.t 34)), (1, 1, (.t 37)), (5, 1, (.v (.int .i64 (-1))))])⟩,
       ⟨(some 39), none, .op (.bsl (some 6) [(.int .i64 0), (.int .i64 0), (.int .i64 0), .nils, .nils, (.int .i64 0)] 1 [(0, 6, (.t 38))])⟩,
       ⟨(some 40), none, .op (.app (some 6) 80 (.t 33) (.t 39))⟩,
       ⟨(some 41), none, .op (.fad 0 (.t 3))⟩,
       ⟨none, none, .op (.store 1 (.t 41) (.t 40))⟩] [])
     (.reg [⟨(some 42), none, .op (.mv (.t 4))⟩,
       ⟨(some 43), none, .op (.mv (.t 7))⟩,
       ⟨(some 44), none, .op (.bin .none .add (.t 42) (.t 43))⟩,
       ⟨(some 4), none, .op (.mv (.t 44))⟩] []))))))
    (.reg [⟨(some 45), none, .op (.bin .none .add (.t 20) (.v (.int .i64 1)))⟩,
      ⟨(some 20), none, .op (.mv (.t 45))⟩] [])))))))
  (.seq (.seq (.reg [⟨(some 46), none, .op (.load (some 2) (.t 3))⟩,
    ⟨(some 47), none, .call 9 [(.t 46)]⟩,
    ⟨(some 48), none, .op (.bin .none .neq (.t 47) (.v (.int .i64 0)))⟩] [])
  (.cond (.t 48)
    (.seq (.reg [⟨(some 2), none, .op (.mv (.v (.bool false)))⟩] [])
    .ret)
    .skip))
  (.seq (.reg [⟨(some 8), none, .op (.mv (.v (.int .i64 0)))⟩] [])
  (.seq (.seq (.reg [⟨(some 9), none, .op (.mv (.v (.int .i64 2)))⟩] [])
  (.block 2 (.loop (.seq (.seq (.reg [⟨(some 49), none, .op (.mv (.t 9))⟩,
      ⟨(some 50), none, .op (.mv (.t 4))⟩,
      ⟨(some 51), none, .op (.bin .none .lss (.t 49) (.t 50))⟩] [])
    (.cond (.t 51)
      .skip
      (.exit 2)))
    (.seq (.block 3 (.seq (.block 4 (.loop (.seq (.seq (.reg [⟨(some 54), none, .op (.mv (.t 9))⟩,
         ⟨(some 55), none, .op (.fad 0 (.t 3))⟩,
         ⟨(some 56), none, .op (.load none (.t 55))⟩,
         ⟨(some 57), none, .op (.mv (.t 8))⟩,
         ⟨(some 58), none, .op (.iad none (some 6) (.t 56) (.t 57))⟩,
         ⟨(some 59), none, .op (.fad 1 (.t 58))⟩,
         ⟨(some 60), none, .op (.load none (.t 59))⟩,
         ⟨(some 61), none, .op (.bin .none .geq (.t 54) (.t 60))⟩] [])
       (.cond (.t 61)
         .skip
         (.exit 4)))
       (.block 5 (.reg [⟨(some 62), none, .op (.mv (.t 8))⟩,
          ⟨(some 63), none, .op (.bin .none .add (.t 62) (.v (.int .i64 1)))⟩,
          ⟨(some 8), none, .op (.mv (.t 63))⟩] [])))))
     (.seq (.reg [⟨(some 65), none, .op (.load (some 2) (.t 3))⟩,
       ⟨(some 66), none, .op (.mv (.t 9))⟩,
       ⟨(some 67), none, .call 10 [(.t 65), (.t 66)]⟩,
       ⟨(some 64), none, .op (.mv (.t 67))⟩,
       ⟨(some 68), none, .op (.ext 0 (.t 64))⟩,
       ⟨(some 69), none, .op (.ext 1 (.t 64))⟩,
       ⟨(some 10), none, .op (.mv (.t 68))⟩,
       ⟨(some 11), none, .op (.mv (.t 69))⟩] [])
     (.seq (.reg [⟨(some 70), none, .op (.mv (.t 10))⟩,
       ⟨(some 71), none, .op (.mv (.t 8))⟩,
       ⟨(some 72), none, .op (.bin .none .neq (.t 70) (.t 71))⟩,
       ⟨(some 73), none, .op (.mv (.t 72))⟩,
       ⟨(some 74), some (73, false), .op (.mv (.t 11))⟩,
       ⟨(some 75), some (73, false), .op (.un .not (.t 74))⟩,
       ⟨(some 76), none, .op (.pick (.t 73) (.v (.bool true)) (.t 75))⟩] [])
     (.cond (.t 76)
       (.seq (.reg [⟨(some 2), none, .op (.mv (.v (.bool false)))⟩] [])
       .ret)
       .skip)))))
    (.reg [⟨(some 52), none, .op (.mv (.t 9))⟩,
      ⟨(some 53), none, .op (.bin .none .add (.t 52) (.v (.int .i64 1)))⟩,
      ⟨(some 9), none, .op (.mv (.t 53))⟩] []))))))
  (.seq (.reg [⟨(some 78), none, .op (.load (some 2) (.t 3))⟩,
    ⟨(some 79), none, .call 10 [(.t 78), (.v (.int .i64 1))]⟩,
    ⟨(some 77), none, .op (.mv (.t 79))⟩,
    ⟨(some 80), none, .op (.ext 0 (.t 77))⟩,
    ⟨(some 81), none, .op (.ext 1 (.t 77))⟩,
    ⟨(some 12), none, .op (.mv (.t 80))⟩,
    ⟨(some 13), none, .op (.mv (.t 81))⟩] [])
  (.seq (.reg [⟨(some 83), none, .op (.load (some 2) (.t 3))⟩,
    ⟨(some 84), none, .op (.mv (.t 4))⟩,
    ⟨(some 85), none, .call 10 [(.t 83), (.t 84)]⟩,
    ⟨(some 82), none, .op (.mv (.t 85))⟩,
    ⟨(some 86), none, .op (.ext 0 (.t 82))⟩,
    ⟨(some 87), none, .op (.ext 1 (.t 82))⟩,
    ⟨(some 14), none, .op (.mv (.t 86))⟩,
    ⟨(some 15), none, .op (.mv (.t 87))⟩] [])
  (.seq (.reg [⟨(some 88), none, .op (.mv (.t 13))⟩,
    ⟨(some 89), none, .op (.un .not (.t 88))⟩,
    ⟨(some 90), none, .op (.mv (.t 89))⟩,
    ⟨(some 91), some (90, true), .op (.mv (.t 15))⟩,
    ⟨(some 92), some (90, true), .op (.un .not (.t 91))⟩,
    ⟨(some 93), none, .op (.pick (.t 90) (.t 92) (.v (.bool false)))⟩,
    ⟨(some 2), none, .op (.mv (.t 93))⟩] [])
  .ret)))))))))))
theorem fn3 : Fn2 Try.prog 3 94 [2] fc3 := ⟨_, _, Try.func3, rfl, rfl, rfl, by kernel_rfl⟩
/- windlass/windlasslaw19.TablesFinds -/
def fc4 : FC := (.seq (.reg [⟨(some 2), none, .op (.box (.t 0))⟩,
    ⟨(some 4), none, .op (.mv (.v (.bool false)))⟩] [])
  (.seq (.seq (.reg [⟨(some 19), none, .call 8 []⟩,
    ⟨(some 20), none, .op (.un .not (.t 19))⟩] [])
  (.cond (.t 20)
    (.seq (.reg [⟨(some 4), none, .op (.mv (.v (.bool false)))⟩] [])
    .ret)
    .skip))
  (.seq (.seq (.reg [⟨(some 21), none, .op (.load (some 2) (.t 2))⟩,
    ⟨(some 22), none, .call 11 [(.t 21)]⟩,
    ⟨(some 23), none, .op (.un .not (.t 22))⟩] [])
  (.cond (.t 23)
    (.seq (.reg [⟨(some 24), none, .op (.load (some 2) (.t 2))⟩,
      ⟨(some 25), none, .call 9 [(.t 24)]⟩,
      ⟨(some 26), none, .op (.bin .none .eql (.t 25) (.v (.int .i64 190)))⟩,
      ⟨(some 4), none, .op (.mv (.t 26))⟩] [])
    .ret)
    .skip))
  (.seq (.seq (.reg [⟨(some 27), none, .op (.mv (.t 1))⟩,
    ⟨(some 28), none, .op (.bsl none [(.int .i64 0)] 4 [(0, 1, (.t 27)), (1, 1, (.v (.int .i64 0))), (2, 1, (.v (.int .i64 (-1)))), (3, 1, (.v (.int .i64 1048576)))])⟩,
    ⟨(some 29), none, .op (.len .sl (.t 28))⟩,
    ⟨(some 30), none, .op (.mv (.v (.int .i64 0)))⟩] [])
  (.block 0 (.loop (.seq (.reg [⟨(some 31), none, .op (.bin .none .lss (.t 30) (.t 29))⟩] [])
    (.seq (.cond (.t 31)
      .skip
      (.exit 0))
    (.seq (.block 1 (.seq (.reg [⟨(some 32), none, .op (.iad none none (.t 28) (.t 30))⟩,
       ⟨(some 33), none, .op (.load none (.t 32))⟩,
       ⟨(some 6), none, .op (.mv (.t 33))⟩] [])
     (.seq (.reg [⟨(some 35), none, .op (.load (some 2) (.t 2))⟩,
       ⟨(some 36), none, .op (.mv (.t 6))⟩,
       ⟨(some 37), none, .call 10 [(.t 35), (.t 36)]⟩,
       ⟨(some 34), none, .op (.mv (.t 37))⟩,
       ⟨(some 38), none, .op (.ext 0 (.t 34))⟩,
       ⟨(some 39), none, .op (.ext 1 (.t 34))⟩,
       ⟨(some 7), none, .op (.mv (.t 38))⟩,
       ⟨(some 8), none, .op (.mv (.t 39))⟩] [])
     (.seq (.reg [⟨(some 41), none, .op (.load (some 2) (.t 2))⟩,
       ⟨(some 42), none, .op (.mv (.t 6))⟩,
       ⟨(some 43), none, .call 12 [(.t 41), (.t 42)]⟩,
       ⟨(some 40), none, .op (.mv (.t 43))⟩,
       ⟨(some 44), none, .op (.ext 0 (.t 40))⟩,
       ⟨(some 45), none, .op (.ext 1 (.t 40))⟩,
       ⟨(some 9), none, .op (.mv (.t 44))⟩,
       ⟨(some 10), none, .op (.mv (.t 45))⟩] [])
     (.seq (.reg [⟨(some 47), none, .op (.load (some 2) (.t 2))⟩,
       ⟨(some 48), none, .op (.mv (.t 6))⟩,
       ⟨(some 49), none, .call 13 [(.t 47), (.t 48)]⟩,
       ⟨(some 46), none, .op (.mv (.t 49))⟩,
       ⟨(some 50), none, .op (.ext 0 (.t 46))⟩,
       ⟨(some 51), none, .op (.ext 1 (.t 46))⟩,
       ⟨(some 11), none, .op (.mv (.t 50))⟩,
       ⟨(some 12), none, .op (.mv (.t 51))⟩] [])
     (.seq (.reg [⟨(some 53), none, .op (.load (some 2) (.t 2))⟩,
       ⟨(some 54), none, .op (.mv (.t 6))⟩,
       ⟨(some 55), none, .call 14 [(.t 53), (.t 54)]⟩,
       ⟨(some 52), none, .op (.mv (.t 55))⟩,
       ⟨(some 56), none, .op (.ext 0 (.t 52))⟩,
       ⟨(some 57), none, .op (.ext 1 (.t 52))⟩,
       ⟨(some 13), none, .op (.mv (.t 56))⟩,
       ⟨(some 14), none, .op (.mv (.t 57))⟩] [])
     (.seq (.reg [⟨(some 58), none, .op (.mv (.t 7))⟩,
       ⟨(some 59), none, .op (.mv (.t 9))⟩,
       ⟨(some 60), none, .op (.bin .none .neq (.t 58) (.t 59))⟩,
       ⟨(some 61), none, .op (.mv (.t 60))⟩,
       ⟨(some 62), some (61, false), .op (.mv (.t 8))⟩,
       ⟨(some 63), some (61, false), .op (.mv (.t 10))⟩,
       ⟨(some 64), some (61, false), .op (.bin .bool .neq (.t 62) (.t 63))⟩,
       ⟨(some 65), none, .op (.pick (.t 61) (.v (.bool true)) (.t 64))⟩,
       ⟨(some 66), none, .op (.mv (.t 65))⟩,
       ⟨(some 67), some (66, false), .op (.mv (.t 11))⟩,
       ⟨(some 68), some (66, false), .op (.mv (.t 13))⟩,
       ⟨(some 69), some (66, false), .op (.bin .none .neq (.t 67) (.t 68))⟩,
       ⟨(some 70), none, .op (.pick (.t 66) (.v (.bool true)) (.t 69))⟩,
       ⟨(some 71), none, .op (.mv (.t 70))⟩,
       ⟨(some 72), some (71, false), .op (.mv (.t 12))⟩,
       ⟨(some 73), some (71, false), .op (.mv (.t 14))⟩,
       ⟨(some 74), some (71, false), .op (.bin .bool .neq (.t 72) (.t 73))⟩,
       ⟨(some 75), none, .op (.pick (.t 71) (.v (.bool true)) (.t 74))⟩] [])
     (.cond (.t 75)
       (.seq (.reg [⟨(some 4), none, .op (.mv (.v (.bool false)))⟩] [])
       .ret)
       .skip))))))))
    (.reg [⟨(some 76), none, .op (.bin .none .add (.t 30) (.v (.int .i64 1)))⟩,
      ⟨(some 30), none, .op (.mv (.t 76))⟩] [])))))))
  (.seq (.seq (.reg [⟨(some 77), none, .op (.fad 1 (.t 2))⟩,
    ⟨(some 78), none, .op (.load none (.t 77))⟩,
    ⟨(some 79), none, .op (.len .sl (.t 78))⟩,
    ⟨(some 80), none, .op (.mv (.v (.int .i64 0)))⟩] [])
  (.block 2 (.loop (.seq (.reg [⟨(some 81), none, .op (.bin .none .lss (.t 80) (.t 79))⟩] [])
    (.seq (.cond (.t 81)
      .skip
      (.exit 2))
    (.seq (.block 3 (.seq (.reg [⟨(some 82), none, .op (.mv (.t 80))⟩,
       ⟨(some 83), none, .op (.iad none (some 2) (.t 78) (.t 80))⟩,
       ⟨(some 84), none, .op (.load (some 2) (.t 83))⟩,
       ⟨(some 16), none, .op (.new [(.int .i64 0), .nils])⟩,
       ⟨(some 15), none, .op (.mv (.t 82))⟩,
       ⟨none, none, .op (.store 2 (.t 16) (.t 84))⟩] [])
     (.seq (.reg [⟨(some 86), none, .op (.load (some 2) (.t 2))⟩,
       ⟨(some 87), none, .op (.fad 0 (.t 16))⟩,
       ⟨(some 88), none, .op (.load none (.t 87))⟩,
       ⟨(some 89), none, .call 13 [(.t 86), (.t 88)]⟩,
       ⟨(some 85), none, .op (.mv (.t 89))⟩,
       ⟨(some 90), none, .op (.ext 0 (.t 85))⟩,
       ⟨(some 91), none, .op (.ext 1 (.t 85))⟩,
       ⟨(some 17), none, .op (.mv (.t 90))⟩,
       ⟨(some 18), none, .op (.mv (.t 91))⟩] [])
     (.seq (.reg [⟨(some 92), none, .op (.mv (.t 17))⟩,
       ⟨(some 93), none, .op (.mv (.t 15))⟩,
       ⟨(some 94), none, .op (.bin .none .neq (.t 92) (.t 93))⟩,
       ⟨(some 95), none, .op (.mv (.t 94))⟩,
       ⟨(some 96), some (95, false), .op (.mv (.t 18))⟩,
       ⟨(some 97), some (95, false), .op (.un .not (.t 96))⟩,
       ⟨(some 98), none, .op (.pick (.t 95) (.v (.bool true)) (.t 97))⟩] [])
     (.cond (.t 98)
       (.seq (.reg [⟨(some 4), none, .op (.mv (.v (.bool false)))⟩] [])
       .ret)
       .skip)))))
    (.reg [⟨(some 99), none, .op (.bin .none .add (.t 80) (.v (.int .i64 1)))⟩,
      ⟨(some 80), none, .op (.mv (.t 99))⟩] [])))))))
  (.seq (.reg [⟨(some 4), none, .op (.mv (.v (.bool true)))⟩] [])
  .ret))))))
theorem fn4 : Fn2 Try.prog 4 100 [4] fc4 := ⟨_, _, Try.func4, rfl, rfl, rfl, by kernel_rfl⟩
/- windlass/windlasslaw19.TablesBytes -/
def fc5 : FC := (.seq (.reg [⟨(some 1), none, .op (.box (.t 0))⟩,
    ⟨(some 2), none, .op (.mv (.v (.bool false)))⟩] [])
  (.seq (.seq (.reg [⟨(some 7), none, .call 8 []⟩,
    ⟨(some 8), none, .op (.un .not (.t 7))⟩] [])
  (.cond (.t 8)
    (.seq (.reg [⟨(some 2), none, .op (.mv (.v (.bool false)))⟩] [])
    .ret)
    .skip))
  (.seq (.reg [⟨(some 10), none, .op (.load (some 2) (.t 1))⟩,
    ⟨(some 11), none, .call 15 [(.t 10)]⟩,
    ⟨(some 9), none, .op (.mv (.t 11))⟩,
    ⟨(some 12), none, .op (.ext 0 (.t 9))⟩,
    ⟨(some 13), none, .op (.ext 1 (.t 9))⟩,
    ⟨(some 3), none, .op (.mv (.t 12))⟩,
    ⟨(some 4), none, .op (.mv (.t 13))⟩] [])
  (.seq (.seq (.reg [⟨(some 14), none, .op (.load (some 2) (.t 1))⟩,
    ⟨(some 15), none, .call 11 [(.t 14)]⟩,
    ⟨(some 16), none, .op (.un .not (.t 15))⟩] [])
  (.cond (.t 16)
    (.seq (.reg [⟨(some 17), none, .op (.load (some 2) (.t 1))⟩,
      ⟨(some 18), none, .call 9 [(.t 17)]⟩,
      ⟨(some 19), none, .op (.bin .none .eql (.t 18) (.v (.int .i64 190)))⟩,
      ⟨(some 20), none, .op (.mv (.t 19))⟩,
      ⟨(some 21), some (20, true), .op (.mv (.t 4))⟩,
      ⟨(some 22), some (20, true), .op (.bin .none .eql (.t 21) (.v (.int .i64 190)))⟩,
      ⟨(some 23), none, .op (.pick (.t 20) (.t 22) (.v (.bool false)))⟩,
      ⟨(some 24), none, .op (.mv (.t 23))⟩,
      ⟨(some 25), some (24, true), .op (.mv (.t 3))⟩,
      ⟨(some 26), some (24, true), .op (.len .sl (.t 25))⟩,
      ⟨(some 27), some (24, true), .op (.bin .none .eql (.t 26) (.v (.int .i64 0)))⟩,
      ⟨(some 28), none, .op (.pick (.t 24) (.t 27) (.v (.bool false)))⟩,
      ⟨(some 2), none, .op (.mv (.t 28))⟩] [])
    .ret)
    .skip))
  (.seq (.reg [⟨(some 30), none, .op (.mv (.t 3))⟩,
    ⟨(some 31), none, .call 16 [(.t 30)]⟩,
    ⟨(some 29), none, .op (.mv (.t 31))⟩,
    ⟨(some 32), none, .op (.ext 0 (.t 29))⟩,
    ⟨(some 33), none, .op (.ext 1 (.t 29))⟩,
    ⟨(some 5), none, .op (.new [.nils, .nils])⟩,
    ⟨none, none, .op (.store 2 (.t 5) (.t 32))⟩,
    ⟨(some 6), none, .op (.mv (.t 33))⟩] [])
  (.seq (.reg [⟨(some 34), none, .op (.load (some 2) (.t 1))⟩,
    ⟨(some 35), none, .call 9 [(.t 34)]⟩,
    ⟨(some 36), none, .op (.bin .none .eql (.t 35) (.v (.int .i64 0)))⟩,
    ⟨(some 37), none, .op (.mv (.t 36))⟩,
    ⟨(some 38), some (37, true), .op (.mv (.t 4))⟩,
    ⟨(some 39), some (37, true), .op (.bin .none .eql (.t 38) (.v (.int .i64 0)))⟩,
    ⟨(some 40), none, .op (.pick (.t 37) (.t 39) (.v (.bool false)))⟩,
    ⟨(some 41), none, .op (.mv (.t 40))⟩,
    ⟨(some 42), some (41, true), .op (.mv (.t 3))⟩,
    ⟨(some 43), some (41, true), .op (.b2s (.t 42))⟩,
    ⟨(some 44), some (41, true), .op (.load (some 2) (.t 1))⟩,
    ⟨(some 45), some (41, true), .call 17 [(.t 44)]⟩,
    ⟨(some 46), some (41, true), .op (.b2s (.t 45))⟩,
    ⟨(some 47), some (41, true), .op (.bin .none .eql (.t 43) (.t 46))⟩,
    ⟨(some 48), none, .op (.pick (.t 41) (.t 47) (.v (.bool false)))⟩,
    ⟨(some 49), none, .op (.mv (.t 48))⟩,
    ⟨(some 50), some (49, true), .op (.mv (.t 6))⟩,
    ⟨(some 51), some (49, true), .op (.bin .none .eql (.t 50) (.v (.int .i64 0)))⟩,
    ⟨(some 52), none, .op (.pick (.t 49) (.t 51) (.v (.bool false)))⟩,
    ⟨(some 53), none, .op (.mv (.t 52))⟩,
    ⟨(some 54), some (53, true), .op (.load (some 2) (.t 5))⟩,
    ⟨(some 55), some (53, true), .call 11 [(.t 54)]⟩,
    ⟨(some 56), none, .op (.pick (.t 53) (.t 55) (.v (.bool false)))⟩,
    ⟨(some 57), none, .op (.mv (.t 56))⟩,
    ⟨(some 58), some (57, true), .op (.load (some 2) (.t 5))⟩,
    ⟨(some 59), some (57, true), .call 17 [(.t 58)]⟩,
    ⟨(some 60), some (57, true), .op (.b2s (.t 59))⟩,
    ⟨(some 61), some (57, true), .op (.mv (.t 3))⟩,
    ⟨(some 62), some (57, true), .op (.b2s (.t 61))⟩,
    ⟨(some 63), some (57, true), .op (.bin .none .eql (.t 60) (.t 62))⟩,
    ⟨(some 64), none, .op (.pick (.t 57) (.t 63) (.v (.bool false)))⟩,
    ⟨(some 2), none, .op (.mv (.t 64))⟩] [(9, 11), (25, 28)])
  .ret))))))
theorem fn5 : Fn2 Try.prog 5 65 [2] fc5 := ⟨_, _, Try.func5, rfl, rfl, rfl, by kernel_rfl⟩
/- windlass/windlasslaw19.TablesReads -/
def fc6 : FC := (.seq (.reg [⟨(some 2), none, .op (.mv (.v (.bool false)))⟩] [])
  (.seq (.seq (.reg [⟨(some 8), none, .call 8 []⟩,
    ⟨(some 9), none, .op (.un .not (.t 8))⟩] [])
  (.cond (.t 9)
    (.seq (.reg [⟨(some 2), none, .op (.mv (.v (.bool false)))⟩] [])
    .ret)
    .skip))
  (.seq (.reg [⟨(some 10), none, .op (.mv (.t 0))⟩,
    ⟨(some 11), none, .op (.b2s (.t 10))⟩,
    ⟨(some 3), none, .op (.mv (.t 11))⟩] [])
  (.seq (.reg [⟨(some 13), none, .op (.mv (.t 0))⟩,
    ⟨(some 14), none, .call 16 [(.t 13)]⟩,
    ⟨(some 12), none, .op (.mv (.t 14))⟩,
    ⟨(some 15), none, .op (.ext 0 (.t 12))⟩,
    ⟨(some 16), none, .op (.ext 1 (.t 12))⟩,
    ⟨(some 4), none, .op (.new [.nils, .nils])⟩,
    ⟨none, none, .op (.store 2 (.t 4) (.t 15))⟩,
    ⟨(some 5), none, .op (.mv (.t 16))⟩] [])
  (.seq (.reg [⟨(some 18), none, .op (.mv (.t 3))⟩,
    ⟨(some 19), none, .op (.s2b (.t 18))⟩,
    ⟨(some 20), none, .call 18 [(.t 19)]⟩,
    ⟨(some 17), none, .op (.mv (.t 20))⟩,
    ⟨(some 21), none, .op (.ext 0 (.t 17))⟩,
    ⟨(some 22), none, .op (.ext 1 (.t 17))⟩,
    ⟨(some 6), none, .op (.new [.nils, .nils])⟩,
    ⟨none, none, .op (.store 2 (.t 6) (.t 21))⟩,
    ⟨(some 7), none, .op (.mv (.t 22))⟩] [])
  (.seq (.seq (.reg [⟨(some 23), none, .op (.mv (.t 0))⟩,
    ⟨(some 24), none, .op (.b2s (.t 23))⟩,
    ⟨(some 25), none, .op (.mv (.t 3))⟩,
    ⟨(some 26), none, .op (.bin .none .neq (.t 24) (.t 25))⟩] [])
  (.cond (.t 26)
    (.seq (.reg [⟨(some 2), none, .op (.mv (.v (.bool false)))⟩] [])
    .ret)
    .skip))
  (.seq (.seq (.reg [⟨(some 27), none, .op (.mv (.t 7))⟩,
    ⟨(some 28), none, .op (.un .not (.t 27))⟩] [])
  (.cond (.t 28)
    (.seq (.reg [⟨(some 29), none, .op (.mv (.t 5))⟩,
      ⟨(some 30), none, .op (.bin .none .eql (.t 29) (.v (.int .i64 190)))⟩,
      ⟨(some 31), none, .op (.mv (.t 30))⟩,
      ⟨(some 32), some (31, true), .op (.fad 0 (.t 4))⟩,
      ⟨(some 33), some (31, true), .op (.load none (.t 32))⟩,
      ⟨(some 34), some (31, true), .op (.len .sl (.t 33))⟩,
      ⟨(some 35), some (31, true), .op (.fad 1 (.t 4))⟩,
      ⟨(some 36), some (31, true), .op (.load none (.t 35))⟩,
      ⟨(some 37), some (31, true), .op (.len .sl (.t 36))⟩,
      ⟨(some 38), some (31, true), .op (.bin .none .add (.t 34) (.t 37))⟩,
      ⟨(some 39), some (31, true), .op (.bin .none .eql (.t 38) (.v (.int .i64 0)))⟩,
      ⟨(some 40), none, .op (.pick (.t 31) (.t 39) (.v (.bool false)))⟩,
      ⟨(some 2), none, .op (.mv (.t 40))⟩] [])
    .ret)
    .skip))
  (.seq (.reg [⟨(some 41), none, .op (.mv (.t 5))⟩,
    ⟨(some 42), none, .op (.bin .none .eql (.t 41) (.v (.int .i64 0)))⟩,
    ⟨(some 43), none, .op (.mv (.t 42))⟩,
    ⟨(some 44), some (43, true), .op (.load (some 2) (.t 4))⟩,
    ⟨(some 45), some (43, true), .call 11 [(.t 44)]⟩,
    ⟨(some 46), none, .op (.pick (.t 43) (.t 45) (.v (.bool false)))⟩,
    ⟨(some 47), none, .op (.mv (.t 46))⟩,
    ⟨(some 48), some (47, true), .op (.load (some 2) (.t 4))⟩,
    ⟨(some 49), some (47, true), .call 17 [(.t 48)]⟩,
    ⟨(some 50), some (47, true), .op (.b2s (.t 49))⟩,
    ⟨(some 51), some (47, true), .op (.load (some 2) (.t 6))⟩,
    ⟨(some 52), some (47, true), .call 17 [(.t 51)]⟩,
    ⟨(some 53), some (47, true), .op (.b2s (.t 52))⟩,
    ⟨(some 54), some (47, true), .op (.bin .none .eql (.t 50) (.t 53))⟩,
    ⟨(some 55), none, .op (.pick (.t 47) (.t 54) (.v (.bool false)))⟩,
    ⟨(some 56), none, .op (.mv (.t 55))⟩,
    ⟨(some 57), some (56, true), .op (.load (some 2) (.t 4))⟩,
    ⟨(some 58), some (56, true), .call 17 [(.t 57)]⟩,
    ⟨(some 59), some (56, true), .op (.b2s (.t 58))⟩,
    ⟨(some 60), some (56, true), .op (.mv (.t 3))⟩,
    ⟨(some 61), some (56, true), .op (.bin .none .eql (.t 59) (.t 60))⟩,
    ⟨(some 62), none, .op (.pick (.t 56) (.t 61) (.v (.bool false)))⟩,
    ⟨(some 2), none, .op (.mv (.t 62))⟩] [(8, 10), (9, 11)])
  .ret))))))))
theorem fn6 : Fn2 Try.prog 6 63 [2] fc6 := ⟨_, _, Try.func6, rfl, rfl, rfl, by kernel_rfl⟩
/- windlass/windlasslaw19.TablesSizes -/
def fc7 : FC := (.seq (.reg [⟨(some 2), none, .op (.box (.t 0))⟩,
    ⟨(some 4), none, .op (.mv (.v (.bool false)))⟩] [])
  (.seq (.seq (.reg [⟨(some 16), none, .call 8 []⟩,
    ⟨(some 17), none, .op (.un .not (.t 16))⟩] [])
  (.cond (.t 17)
    (.seq (.reg [⟨(some 4), none, .op (.mv (.v (.bool false)))⟩] [])
    .ret)
    .skip))
  (.seq (.reg [⟨(some 19), none, .op (.load (some 2) (.t 2))⟩,
    ⟨(some 20), none, .call 15 [(.t 19)]⟩,
    ⟨(some 18), none, .op (.mv (.t 20))⟩,
    ⟨(some 21), none, .op (.ext 0 (.t 18))⟩,
    ⟨(some 22), none, .op (.ext 1 (.t 18))⟩,
    ⟨(some 5), none, .op (.mv (.t 21))⟩,
    ⟨(some 6), none, .op (.mv (.t 22))⟩] [])
  (.seq (.seq (.reg [⟨(some 23), none, .op (.mv (.t 6))⟩,
    ⟨(some 24), none, .op (.bin .none .neq (.t 23) (.v (.int .i64 0)))⟩] [])
  (.cond (.t 24)
    (.seq (.reg [⟨(some 25), none, .op (.mv (.t 5))⟩,
      ⟨(some 26), none, .op (.len .sl (.t 25))⟩,
      ⟨(some 27), none, .op (.bin .none .eql (.t 26) (.v (.int .i64 0)))⟩,
      ⟨(some 4), none, .op (.mv (.t 27))⟩] [])
    .ret)
    .skip))
  (.seq (.reg [⟨(some 7), none, .op (.mv (.v (.int .i64 2)))⟩] [])
  (.seq (.seq (.reg [⟨(some 28), none, .op (.fad 0 (.t 2))⟩,
    ⟨(some 29), none, .op (.load none (.t 28))⟩,
    ⟨(some 30), none, .op (.len .sl (.t 29))⟩,
    ⟨(some 31), none, .op (.mv (.v (.int .i64 0)))⟩] [])
  (.block 0 (.loop (.seq (.reg [⟨(some 32), none, .op (.bin .none .lss (.t 31) (.t 30))⟩] [])
    (.seq (.cond (.t 32)
      .skip
      (.exit 0))
    (.seq (.block 1 (.seq (.reg [⟨(some 33), none, .op (.iad none (some 6) (.t 29) (.t 31))⟩,
       ⟨(some 34), none, .op (.load (some 6) (.t 33))⟩,
       ⟨(some 9), none, .op (.new [(.int .i64 0), (.int .i64 0), (.int .i64 0), .nils, .nils, (.int .i64 0)])⟩,
       ⟨none, none, .op (.store 6 (.t 9) (.t 34))⟩] [])
     (.reg [⟨(some 35), none, .op (.mv (.t 7))⟩,
       ⟨(some 36), none, .op (.fad 3 (.t 9))⟩,
       ⟨(some 37), none, .op (.load none (.t 36))⟩,
       ⟨(some 38), none, .op (.len .sl (.t 37))⟩,
       ⟨(some 39), none, .op (.bin .none .add (.v (.int .i64 6)) (.t 38))⟩,
       ⟨(some 40), none, .op (.fad 4 (.t 9))⟩,
       ⟨(some 41), none, .op (.load none (.t 40))⟩,
       ⟨(some 42), none, .op (.len .sl (.t 41))⟩,
       ⟨(some 43), none, .op (.bin .none .mul (.v (.int .i64 2)) (.t 42))⟩,
       ⟨(some 44), none, .op (.bin .none .add (.t 39) (.t 43))⟩,
       ⟨(some 45), none, .op (.bin .none .add (.t 35) (.t 44))⟩,
       ⟨(some 7), none, .op (.mv (.t 45))⟩] [])))
    (.reg [⟨(some 46), none, .op (.bin .none .add (.t 31) (.v (.int .i64 1)))⟩,
      ⟨(some 31), none, .op (.mv (.t 46))⟩] [])))))))
  (.seq (.seq (.reg [⟨(some 47), none, .op (.fad 1 (.t 2))⟩,
    ⟨(some 48), none, .op (.load none (.t 47))⟩,
    ⟨(some 49), none, .op (.len .sl (.t 48))⟩,
    ⟨(some 50), none, .op (.mv (.v (.int .i64 0)))⟩] [])
  (.block 2 (.loop (.seq (.reg [⟨(some 51), none, .op (.bin .none .lss (.t 50) (.t 49))⟩] [])
    (.seq (.cond (.t 51)
      .skip
      (.exit 2))
    (.seq (.block 3 (.seq (.reg [⟨(some 52), none, .op (.iad none (some 2) (.t 48) (.t 50))⟩,
       ⟨(some 53), none, .op (.load (some 2) (.t 52))⟩,
       ⟨(some 11), none, .op (.new [(.int .i64 0), .nils])⟩,
       ⟨none, none, .op (.store 2 (.t 11) (.t 53))⟩] [])
     (.reg [⟨(some 54), none, .op (.mv (.t 7))⟩,
       ⟨(some 55), none, .op (.fad 1 (.t 11))⟩,
       ⟨(some 56), none, .op (.load none (.t 55))⟩,
       ⟨(some 57), none, .op (.len .sl (.t 56))⟩,
       ⟨(some 58), none, .op (.bin .none .add (.v (.int .i64 2)) (.t 57))⟩,
       ⟨(some 59), none, .op (.bin .none .add (.t 54) (.t 58))⟩,
       ⟨(some 7), none, .op (.mv (.t 59))⟩] [])))
    (.reg [⟨(some 60), none, .op (.bin .none .add (.t 50) (.v (.int .i64 1)))⟩,
      ⟨(some 50), none, .op (.mv (.t 60))⟩] [])))))))
  (.seq (.reg [⟨(some 62), none, .op (.mv (.t 5))⟩,
    ⟨(some 63), none, .op (.mv (.t 1))⟩,
    ⟨(some 64), none, .op (.cint .u64 (.t 63))⟩,
    ⟨(some 65), none, .op (.mv (.t 5))⟩,
    ⟨(some 66), none, .op (.len .sl (.t 65))⟩,
    ⟨(some 67), none, .op (.cint .u64 (.t 66))⟩,
    ⟨(some 68), none, .op (.bin .none .rem (.t 64) (.t 67))⟩,
    ⟨(some 69), none, .op (.cint .i64 (.t 68))⟩,
    ⟨(some 70), none, .op (.slc none (.t 62) none (some (.t 69)) none)⟩,
    ⟨(some 71), none, .call 16 [(.t 70)]⟩,
    ⟨(some 61), none, .op (.mv (.t 71))⟩,
    ⟨(some 72), none, .op (.ext 0 (.t 61))⟩,
    ⟨(some 73), none, .op (.ext 1 (.t 61))⟩,
    ⟨(some 12), none, .op (.new [.nils, .nils])⟩,
    ⟨none, none, .op (.store 2 (.t 12) (.t 72))⟩,
    ⟨(some 13), none, .op (.mv (.t 73))⟩] [])
  (.seq (.reg [⟨(some 75), none, .op (.bsl none [(.int .u8 0)] 0 [])⟩,
    ⟨(some 76), none, .op (.mv (.t 5))⟩,
    ⟨(some 77), none, .op (.app none 1 (.t 75) (.t 76))⟩,
    ⟨(some 78), none, .op (.bsl none [(.int .u8 0)] 4 [(0, 1, (.v (.int .u8 0))), (1, 1, (.v (.int .u8 0))), (2, 1, (.v (.int .u8 0))), (3, 1, (.v (.int .u8 0)))])⟩,
    ⟨(some 79), none, .op (.app none 1 (.t 77) (.t 78))⟩,
    ⟨(some 80), none, .call 16 [(.t 79)]⟩,
    ⟨(some 74), none, .op (.mv (.t 80))⟩,
    ⟨(some 81), none, .op (.ext 0 (.t 74))⟩,
    ⟨(some 82), none, .op (.ext 1 (.t 74))⟩,
    ⟨(some 14), none, .op (.new [.nils, .nils])⟩,
    ⟨none, none, .op (.store 2 (.t 14) (.t 81))⟩,
    ⟨(some 15), none, .op (.mv (.t 82))⟩] [])
  (.seq (.reg [⟨(some 83), none, .op (.mv (.t 5))⟩,
    ⟨(some 84), none, .op (.len .sl (.t 83))⟩,
    ⟨(some 85), none, .op (.mv (.t 7))⟩,
    ⟨(some 86), none, .op (.bin .none .mul (.v (.int .i64 4)) (.t 85))⟩,
    ⟨(some 87), none, .op (.bin .none .eql (.t 84) (.t 86))⟩,
    ⟨(some 88), none, .op (.mv (.t 87))⟩,
    ⟨(some 89), some (88, true), .op (.mv (.t 13))⟩,
    ⟨(some 90), some (88, true), .op (.bin .none .eql (.t 89) (.v (.int .i64 190)))⟩,
    ⟨(some 91), none, .op (.pick (.t 88) (.t 90) (.v (.bool false)))⟩,
    ⟨(some 92), none, .op (.mv (.t 91))⟩,
    ⟨(some 93), some (92, true), .op (.mv (.t 15))⟩,
    ⟨(some 94), some (92, true), .op (.bin .none .eql (.t 93) (.v (.int .i64 190)))⟩,
    ⟨(some 95), none, .op (.pick (.t 92) (.t 94) (.v (.bool false)))⟩,
    ⟨(some 4), none, .op (.mv (.t 95))⟩] [])
  .ret))))))))))
theorem fn7 : Fn2 Try.prog 7 96 [4] fc7 := ⟨_, _, Try.func7, rfl, rfl, rfl, by kernel_rfl⟩
/- windlass/windlasslaw19.first -/
def fc8 : FC := (.seq (.reg [⟨(some 0), none, .op (.mv (.v (.bool false)))⟩] [])
  (.seq (.reg [⟨(some 6), none, .op (.build [(.int .i64 0), (.int .i64 0), (.int .i64 0), .nils, .nils, (.int .i64 0)] [(0, 1, (.v (.int .i64 2))), (1, 1, (.v (.int .i64 9))), (5, 1, (.v (.int .i64 (-1))))])⟩,
    ⟨(some 7), none, .op (.bsl (some 6) [(.int .i64 0), (.int .i64 0), (.int .i64 0), .nils, .nils, (.int .i64 0)] 1 [(0, 6, (.t 6))])⟩,
    ⟨(some 8), none, .op (.build [.nils, .nils] [(0, 1, (.t 7))])⟩,
    ⟨(some 1), none, .op (.new [.nils, .nils])⟩,
    ⟨none, none, .op (.store 2 (.t 1) (.t 8))⟩] [])
  (.seq (.reg [⟨(some 10), none, .op (.load (some 2) (.t 1))⟩,
    ⟨(some 11), none, .call 15 [(.t 10)]⟩,
    ⟨(some 9), none, .op (.mv (.t 11))⟩,
    ⟨(some 12), none, .op (.ext 0 (.t 9))⟩,
    ⟨(some 13), none, .op (.ext 1 (.t 9))⟩,
    ⟨(some 2), none, .op (.mv (.t 12))⟩,
    ⟨(some 3), none, .op (.mv (.t 13))⟩] [])
  (.seq (.reg [⟨(some 15), none, .op (.load (some 2) (.t 1))⟩,
    ⟨(some 16), none, .call 10 [(.t 15), (.v (.int .i64 8))]⟩,
    ⟨(some 14), none, .op (.mv (.t 16))⟩,
    ⟨(some 17), none, .op (.ext 0 (.t 14))⟩,
    ⟨(some 18), none, .op (.ext 1 (.t 14))⟩,
    ⟨(some 4), none, .op (.mv (.t 17))⟩,
    ⟨(some 5), none, .op (.mv (.t 18))⟩] [])
  (.seq (.reg [⟨(some 19), none, .op (.mv (.t 3))⟩,
    ⟨(some 20), none, .op (.bin .none .eql (.t 19) (.v (.int .i64 0)))⟩,
    ⟨(some 21), none, .op (.mv (.t 20))⟩,
    ⟨(some 22), some (21, true), .op (.mv (.t 2))⟩,
    ⟨(some 23), some (21, true), .op (.len .sl (.t 22))⟩,
    ⟨(some 24), some (21, true), .op (.bin .none .eql (.t 23) (.v (.int .i64 32)))⟩,
    ⟨(some 25), none, .op (.pick (.t 21) (.t 24) (.v (.bool false)))⟩,
    ⟨(some 26), none, .op (.mv (.t 25))⟩,
    ⟨(some 27), some (26, true), .op (.mv (.t 4))⟩,
    ⟨(some 28), some (26, true), .op (.bin .none .eql (.t 27) (.v (.int .i64 0)))⟩,
    ⟨(some 29), none, .op (.pick (.t 26) (.t 28) (.v (.bool false)))⟩,
    ⟨(some 30), none, .op (.mv (.t 29))⟩,
    ⟨(some 31), some (30, true), .op (.mv (.t 5))⟩,
    ⟨(some 32), none, .op (.pick (.t 30) (.t 31) (.v (.bool false)))⟩,
    ⟨(some 33), none, .op (.mv (.t 32))⟩,
    ⟨(some 34), some (33, true), .op (.load (some 2) (.t 1))⟩,
    ⟨(some 35), some (33, true), .call 9 [(.t 34)]⟩,
    ⟨(some 36), some (33, true), .op (.bin .none .eql (.t 35) (.v (.int .i64 0)))⟩,
    ⟨(some 37), none, .op (.pick (.t 33) (.t 36) (.v (.bool false)))⟩,
    ⟨(some 0), none, .op (.mv (.t 37))⟩] [])
  .ret)))))
theorem fn8 : Fn2 Try.prog 8 38 [0] fc8 := ⟨_, _, Try.func8, rfl, rfl, rfl, by kernel_rfl⟩
/- windlass/tables.Check -/
def fc9 : FC := (.seq (.reg [⟨(some 1), none, .op (.box (.t 0))⟩,
    ⟨(some 2), none, .op (.mv (.v (.int .i64 0)))⟩] [])
  (.seq (.seq (.reg [⟨(some 11), none, .op (.fad 0 (.t 1))⟩,
    ⟨(some 12), none, .op (.load none (.t 11))⟩,
    ⟨(some 13), none, .op (.len .sl (.t 12))⟩,
    ⟨(some 14), none, .op (.bin .none .gtr (.t 13) (.v (.int .i64 16)))⟩,
    ⟨(some 15), none, .op (.mv (.t 14))⟩,
    ⟨(some 16), some (15, false), .op (.fad 1 (.t 1))⟩,
    ⟨(some 17), some (15, false), .op (.load none (.t 16))⟩,
    ⟨(some 18), some (15, false), .op (.len .sl (.t 17))⟩,
    ⟨(some 19), some (15, false), .op (.bin .none .gtr (.t 18) (.v (.int .i64 65536)))⟩,
    ⟨(some 20), none, .op (.pick (.t 15) (.v (.bool true)) (.t 19))⟩] [])
  (.cond (.t 20)
    (.seq (.reg [⟨(some 2), none, .op (.mv (.v (.int .i64 190)))⟩] [])
    .ret)
    .skip))
  (.seq (.reg [⟨(some 3), none, .op (.mv (.v (.int .i64 0)))⟩] [])
  (.seq (.seq (.reg [⟨(some 21), none, .op (.fad 0 (.t 1))⟩,
    ⟨(some 22), none, .op (.load none (.t 21))⟩,
    ⟨(some 23), none, .op (.len .sl (.t 22))⟩,
    ⟨(some 24), none, .op (.mv (.v (.int .i64 0)))⟩] [])
  (.block 0 (.loop (.seq (.reg [⟨(some 25), none, .op (.bin .none .lss (.t 24) (.t 23))⟩] [])
    (.seq (.cond (.t 25)
      .skip
      (.exit 0))
    (.seq (.block 1 (.seq (.reg [⟨(some 26), none, .op (.iad none (some 6) (.t 22) (.t 24))⟩,
       ⟨(some 27), none, .op (.load (some 6) (.t 26))⟩,
       ⟨(some 5), none, .op (.new [(.int .i64 0), (.int .i64 0), (.int .i64 0), .nils, .nils, (.int .i64 0)])⟩,
       ⟨none, none, .op (.store 6 (.t 5) (.t 27))⟩] [])
     (.seq (.seq (.reg [⟨(some 28), none, .op (.load (some 6) (.t 5))⟩,
       ⟨(some 29), none, .op (.mv (.t 3))⟩,
       ⟨(some 30), none, .call 19 [(.t 28), (.t 29)]⟩,
       ⟨(some 31), none, .op (.un .not (.t 30))⟩] [])
     (.cond (.t 31)
       (.seq (.reg [⟨(some 2), none, .op (.mv (.v (.int .i64 190)))⟩] [])
       .ret)
       .skip))
     (.reg [⟨(some 32), none, .op (.fad 1 (.t 5))⟩,
       ⟨(some 33), none, .op (.load none (.t 32))⟩,
       ⟨(some 3), none, .op (.mv (.t 33))⟩] []))))
    (.reg [⟨(some 34), none, .op (.bin .none .add (.t 24) (.v (.int .i64 1)))⟩,
      ⟨(some 24), none, .op (.mv (.t 34))⟩] [])))))))
  (.seq (.seq (.reg [⟨(some 35), none, .op (.fad 1 (.t 1))⟩,
    ⟨(some 36), none, .op (.load none (.t 35))⟩,
    ⟨(some 37), none, .op (.len .sl (.t 36))⟩,
    ⟨(some 38), none, .op (.mv (.v (.int .i64 0)))⟩] [])
  (.block 2 (.loop (.seq (.reg [⟨(some 39), none, .op (.bin .none .lss (.t 38) (.t 37))⟩] [])
    (.seq (.cond (.t 39)
      .skip
      (.exit 2))
    (.seq (.block 3 (.seq (.reg [⟨(some 40), none, .op (.mv (.t 38))⟩,
       ⟨(some 41), none, .op (.iad none (some 2) (.t 36) (.t 38))⟩,
       ⟨(some 42), none, .op (.load (some 2) (.t 41))⟩,
       ⟨(some 7), none, .op (.new [(.int .i64 0), .nils])⟩,
       ⟨(some 6), none, .op (.mv (.t 40))⟩,
       ⟨none, none, .op (.store 2 (.t 7) (.t 42))⟩] [])
     (.seq (.reg [⟨(some 43), none, .op (.load (some 2) (.t 1))⟩,
       ⟨(some 44), none, .op (.fad 0 (.t 7))⟩,
       ⟨(some 45), none, .op (.load none (.t 44))⟩,
       ⟨(some 46), none, .call 20 [(.t 43), (.t 45)]⟩,
       ⟨(some 8), none, .op (.mv (.t 46))⟩] [])
     (.seq (.seq (.reg [⟨(some 47), none, .op (.mv (.t 8))⟩,
       ⟨(some 48), none, .op (.bin .none .lss (.t 47) (.v (.int .i64 0)))⟩,
       ⟨(some 49), none, .op (.mv (.t 48))⟩,
       ⟨(some 50), some (49, false), .op (.mv (.t 6))⟩,
       ⟨(some 51), some (49, false), .op (.bin .none .gtr (.t 50) (.v (.int .i64 0)))⟩,
       ⟨(some 52), some (49, false), .op (.mv (.t 51))⟩,
       ⟨(some 53), some (52, true), .op (.fad 1 (.t 1))⟩,
       ⟨(some 54), some (52, true), .op (.load none (.t 53))⟩,
       ⟨(some 55), some (52, true), .op (.mv (.t 6))⟩,
       ⟨(some 56), some (52, true), .op (.bin .none .sub (.t 55) (.v (.int .i64 1)))⟩,
       ⟨(some 57), some (52, true), .op (.iad none (some 2) (.t 54) (.t 56))⟩,
       ⟨(some 58), some (52, true), .op (.fad 0 (.t 57))⟩,
       ⟨(some 59), some (52, true), .op (.load none (.t 58))⟩,
       ⟨(some 60), some (52, true), .op (.fad 0 (.t 7))⟩,
       ⟨(some 61), some (52, true), .op (.load none (.t 60))⟩,
       ⟨(some 62), some (52, true), .op (.bin .none .geq (.t 59) (.t 61))⟩,
       ⟨(some 63), some (49, false), .op (.pick (.t 52) (.t 62) (.v (.bool false)))⟩,
       ⟨(some 64), none, .op (.pick (.t 49) (.v (.bool true)) (.t 63))⟩] [])
     (.cond (.t 64)
       (.seq (.reg [⟨(some 2), none, .op (.mv (.v (.int .i64 190)))⟩] [])
       .ret)
       .skip))
     (.seq (.reg [⟨(some 65), none, .op (.fad 1 (.t 7))⟩,
       ⟨(some 66), none, .op (.load none (.t 65))⟩,
       ⟨(some 67), none, .op (.len .sl (.t 66))⟩,
       ⟨(some 68), none, .op (.mv (.v (.int .i64 0)))⟩] [])
     (.block 4 (.loop (.seq (.reg [⟨(some 69), none, .op (.bin .none .lss (.t 68) (.t 67))⟩] [])
       (.seq (.cond (.t 69)
         .skip
         (.exit 4))
       (.seq (.block 5 (.seq (.reg [⟨(some 70), none, .op (.mv (.t 68))⟩,
          ⟨(some 71), none, .op (.iad none none (.t 66) (.t 68))⟩,
          ⟨(some 72), none, .op (.load none (.t 71))⟩,
          ⟨(some 9), none, .op (.mv (.t 70))⟩,
          ⟨(some 10), none, .op (.mv (.t 72))⟩] [])
        (.seq (.reg [⟨(some 73), none, .op (.mv (.t 10))⟩,
          ⟨(some 74), none, .op (.fad 0 (.t 1))⟩,
          ⟨(some 75), none, .op (.load none (.t 74))⟩,
          ⟨(some 76), none, .op (.mv (.t 8))⟩,
          ⟨(some 77), none, .op (.iad none (some 6) (.t 75) (.t 76))⟩,
          ⟨(some 78), none, .op (.fad 2 (.t 77))⟩,
          ⟨(some 79), none, .op (.load none (.t 78))⟩,
          ⟨(some 80), none, .call 21 [(.t 73), (.t 79)]⟩,
          ⟨(some 81), none, .op (.un .not (.t 80))⟩,
          ⟨(some 82), none, .op (.mv (.t 81))⟩,
          ⟨(some 83), some (82, false), .op (.mv (.t 9))⟩,
          ⟨(some 84), some (82, false), .op (.bin .none .gtr (.t 83) (.v (.int .i64 0)))⟩,
          ⟨(some 85), some (82, false), .op (.mv (.t 84))⟩,
          ⟨(some 86), some (85, true), .op (.fad 1 (.t 7))⟩,
          ⟨(some 87), some (85, true), .op (.load none (.t 86))⟩,
          ⟨(some 88), some (85, true), .op (.mv (.t 9))⟩,
          ⟨(some 89), some (85, true), .op (.bin .none .sub (.t 88) (.v (.int .i64 1)))⟩,
          ⟨(some 90), some (85, true), .op (.iad none none (.t 87) (.t 89))⟩,
          ⟨(some 91), some (85, true), .op (.load none (.t 90))⟩,
          ⟨(some 92), some (85, true), .op (.mv (.t 10))⟩,
          ⟨(some 93), some (85, true), .op (.bin .none .geq (.t 91) (.t 92))⟩,
          ⟨(some 94), some (82, false), .op (.pick (.t 85) (.t 93) (.v (.bool false)))⟩,
          ⟨(some 95), none, .op (.pick (.t 82) (.v (.bool true)) (.t 94))⟩] [])
        (.cond (.t 95)
          (.seq (.reg [⟨(some 2), none, .op (.mv (.v (.int .i64 190)))⟩] [])
          .ret)
          .skip))))
       (.reg [⟨(some 96), none, .op (.bin .none .add (.t 68) (.v (.int .i64 1)))⟩,
         ⟨(some 68), none, .op (.mv (.t 96))⟩] [])))))))))))
    (.reg [⟨(some 97), none, .op (.bin .none .add (.t 38) (.v (.int .i64 1)))⟩,
      ⟨(some 38), none, .op (.mv (.t 97))⟩] [])))))))
  (.seq (.reg [⟨(some 2), none, .op (.mv (.v (.int .i64 0)))⟩] [])
  .ret))))))
theorem fn9 : Fn2 Try.prog 9 98 [2] fc9 := ⟨_, _, Try.func9, rfl, rfl, rfl, by kernel_rfl⟩
/- windlass/tables.Func -/
def fc10 : FC := (.seq (.reg [⟨(some 2), none, .op (.box (.t 0))⟩,
    ⟨(some 4), none, .op (.mv (.v (.int .i64 0)))⟩,
    ⟨(some 5), none, .op (.mv (.v (.bool false)))⟩] [])
  (.seq (.reg [⟨(some 9), none, .op (.fad 0 (.t 2))⟩,
    ⟨(some 10), none, .op (.load none (.t 9))⟩,
    ⟨(some 11), none, .op (.mv (.t 1))⟩,
    ⟨(some 12), none, .call 22 [(.t 10), (.t 11), (.v (.fn (.func 23) [] []))]⟩,
    ⟨(some 8), none, .op (.mv (.t 12))⟩,
    ⟨(some 13), none, .op (.ext 0 (.t 8))⟩,
    ⟨(some 14), none, .op (.ext 1 (.t 8))⟩,
    ⟨(some 6), none, .op (.mv (.t 13))⟩,
    ⟨(some 7), none, .op (.mv (.t 14))⟩] [])
  (.seq (.seq (.reg [⟨(some 15), none, .op (.mv (.t 7))⟩,
    ⟨(some 16), none, .op (.un .not (.t 15))⟩] [])
  (.cond (.t 16)
    (.reg [⟨(some 17), none, .op (.mv (.t 6))⟩,
      ⟨(some 18), none, .op (.bin .none .sub (.t 17) (.v (.int .i64 1)))⟩,
      ⟨(some 6), none, .op (.mv (.t 18))⟩] [])
    .skip))
  (.seq (.seq (.reg [⟨(some 19), none, .op (.mv (.t 6))⟩,
    ⟨(some 20), none, .op (.bin .none .lss (.t 19) (.v (.int .i64 0)))⟩,
    ⟨(some 21), none, .op (.mv (.t 20))⟩,
    ⟨(some 22), some (21, false), .op (.mv (.t 1))⟩,
    ⟨(some 23), some (21, false), .op (.fad 0 (.t 2))⟩,
    ⟨(some 24), some (21, false), .op (.load none (.t 23))⟩,
    ⟨(some 25), some (21, false), .op (.mv (.t 6))⟩,
    ⟨(some 26), some (21, false), .op (.iad none (some 6) (.t 24) (.t 25))⟩,
    ⟨(some 27), some (21, false), .op (.fad 1 (.t 26))⟩,
    ⟨(some 28), some (21, false), .op (.load none (.t 27))⟩,
    ⟨(some 29), some (21, false), .op (.bin .none .geq (.t 22) (.t 28))⟩,
    ⟨(some 30), none, .op (.pick (.t 21) (.v (.bool true)) (.t 29))⟩] [])
  (.cond (.t 30)
    (.seq (.reg [⟨(some 4), none, .op (.mv (.v (.int .i64 0)))⟩,
      ⟨(some 5), none, .op (.mv (.v (.bool false)))⟩] [])
    .ret)
    .skip))
  (.seq (.reg [⟨(some 31), none, .op (.mv (.t 6))⟩,
    ⟨(some 4), none, .op (.mv (.t 31))⟩,
    ⟨(some 5), none, .op (.mv (.v (.bool true)))⟩] [])
  .ret)))))
theorem fn10 : Fn2 Try.prog 10 32 [4, 5] fc10 := ⟨_, _, Try.func10, rfl, rfl, rfl, by kernel_rfl⟩
/- windlass/windlassref19.Right -/
def fc11 : FC := (.seq (.reg [⟨(some 1), none, .op (.box (.t 0))⟩,
    ⟨(some 2), none, .op (.mv (.v (.bool false)))⟩] [])
  (.seq (.seq (.reg [⟨(some 14), none, .op (.fad 0 (.t 1))⟩,
    ⟨(some 15), none, .op (.load none (.t 14))⟩,
    ⟨(some 16), none, .op (.len .sl (.t 15))⟩,
    ⟨(some 17), none, .op (.bin .none .gtr (.t 16) (.v (.int .i64 16)))⟩,
    ⟨(some 18), none, .op (.mv (.t 17))⟩,
    ⟨(some 19), some (18, false), .op (.fad 1 (.t 1))⟩,
    ⟨(some 20), some (18, false), .op (.load none (.t 19))⟩,
    ⟨(some 21), some (18, false), .op (.len .sl (.t 20))⟩,
    ⟨(some 22), some (18, false), .op (.bin .none .gtr (.t 21) (.v (.int .i64 65536)))⟩,
    ⟨(some 23), none, .op (.pick (.t 18) (.v (.bool true)) (.t 22))⟩] [])
  (.cond (.t 23)
    (.seq (.reg [⟨(some 2), none, .op (.mv (.v (.bool false)))⟩] [])
    .ret)
    .skip))
  (.seq (.seq (.reg [⟨(some 24), none, .op (.fad 0 (.t 1))⟩,
    ⟨(some 25), none, .op (.load none (.t 24))⟩,
    ⟨(some 26), none, .op (.len .sl (.t 25))⟩,
    ⟨(some 27), none, .op (.mv (.v (.int .i64 0)))⟩] [])
  (.block 0 (.loop (.seq (.reg [⟨(some 28), none, .op (.bin .none .lss (.t 27) (.t 26))⟩] [])
    (.seq (.cond (.t 28)
      .skip
      (.exit 0))
    (.seq (.block 1 (.seq (.reg [⟨(some 29), none, .op (.mv (.t 27))⟩,
       ⟨(some 30), none, .op (.iad none (some 6) (.t 25) (.t 27))⟩,
       ⟨(some 31), none, .op (.load (some 6) (.t 30))⟩,
       ⟨(some 4), none, .op (.new [(.int .i64 0), (.int .i64 0), (.int .i64 0), .nils, .nils, (.int .i64 0)])⟩,
       ⟨(some 3), none, .op (.mv (.t 29))⟩,
       ⟨none, none, .op (.store 6 (.t 4) (.t 31))⟩] [])
     (.seq (.seq (.reg [⟨(some 32), none, .op (.fad 0 (.t 4))⟩,
       ⟨(some 33), none, .op (.load none (.t 32))⟩,
       ⟨(some 34), none, .op (.bin .none .lss (.t 33) (.v (.int .i64 0)))⟩,
       ⟨(some 35), none, .op (.mv (.t 34))⟩,
       ⟨(some 36), some (35, false), .op (.fad 1 (.t 4))⟩,
       ⟨(some 37), some (35, false), .op (.load none (.t 36))⟩,
       ⟨(some 38), some (35, false), .op (.fad 0 (.t 4))⟩,
       ⟨(some 39), some (35, false), .op (.load none (.t 38))⟩,
       ⟨(some 40), some (35, false), .op (.bin .none .leq (.t 37) (.t 39))⟩,
       ⟨(some 41), none, .op (.pick (.t 35) (.v (.bool true)) (.t 40))⟩,
       ⟨(some 42), none, .op (.mv (.t 41))⟩,
       ⟨(some 43), some (42, false), .op (.fad 1 (.t 4))⟩,
       ⟨(some 44), some (42, false), .op (.load none (.t 43))⟩,
       ⟨(some 45), some (42, false), .op (.bin .none .gtr (.t 44) (.v (.int .i64 1048576)))⟩,
       ⟨(some 46), none, .op (.pick (.t 42) (.v (.bool true)) (.t 45))⟩,
       ⟨(some 47), none, .op (.mv (.t 46))⟩,
       ⟨(some 48), some (47, false), .op (.mv (.t 3))⟩,
       ⟨(some 49), some (47, false), .op (.bin .none .gtr (.t 48) (.v (.int .i64 0)))⟩,
       ⟨(some 50), some (47, false), .op (.mv (.t 49))⟩,
       ⟨(some 51), some (50, true), .op (.fad 0 (.t 4))⟩,
       ⟨(some 52), some (50, true), .op (.load none (.t 51))⟩,
       ⟨(some 53), some (50, true), .op (.fad 0 (.t 1))⟩,
       ⟨(some 54), some (50, true), .op (.load none (.t 53))⟩,
       ⟨(some 55), some (50, true), .op (.mv (.t 3))⟩,
       ⟨(some 56), some (50, true), .op (.bin .none .sub (.t 55) (.v (.int .i64 1)))⟩,
       ⟨(some 57), some (50, true), .op (.iad none (some 6) (.t 54) (.t 56))⟩,
       ⟨(some 58), some (50, true), .op (.fad 1 (.t 57))⟩,
       ⟨(some 59), some (50, true), .op (.load none (.t 58))⟩,
       ⟨(some 60), some (50, true), .op (.bin .none .lss (.t 52) (.t 59))⟩,
       ⟨(some 61), some (47, false), .op (.pick (.t 50) (.t 60) (.v (.bool false)))⟩,
       ⟨(some 62), none, .op (.pick (.t 47) (.v (.bool true)) (.t 61))⟩] [])
     (.cond (.t 62)
       (.seq (.reg [⟨(some 2), none, .op (.mv (.v (.bool false)))⟩] [])
       .ret)
       .skip))
     (.seq (.seq (.reg [⟨(some 63), none, .op (.fad 2 (.t 4))⟩,
       ⟨(some 64), none, .op (.load none (.t 63))⟩,
       ⟨(some 65), none, .op (.bin .none .lss (.t 64) (.v (.int .i64 0)))⟩,
       ⟨(some 66), none, .op (.mv (.t 65))⟩,
       ⟨(some 67), some (66, false), .op (.fad 2 (.t 4))⟩,
       ⟨(some 68), some (66, false), .op (.load none (.t 67))⟩,
       ⟨(some 69), some (66, false), .op (.bin .none .gtr (.t 68) (.v (.int .i64 65536)))⟩,
       ⟨(some 70), none, .op (.pick (.t 66) (.v (.bool true)) (.t 69))⟩,
       ⟨(some 71), none, .op (.mv (.t 70))⟩,
       ⟨(some 72), some (71, false), .op (.fad 2 (.t 4))⟩,
       ⟨(some 73), some (71, false), .op (.load none (.t 72))⟩,
       ⟨(some 74), some (71, false), .op (.bin .none .rem (.t 73) (.v (.int .i64 8)))⟩,
       ⟨(some 75), some (71, false), .op (.bin .none .neq (.t 74) (.v (.int .i64 0)))⟩,
       ⟨(some 76), none, .op (.pick (.t 71) (.v (.bool true)) (.t 75))⟩,
       ⟨(some 77), none, .op (.mv (.t 76))⟩,
       ⟨(some 78), some (77, false), .op (.fad 3 (.t 4))⟩,
       ⟨(some 79), some (77, false), .op (.load none (.t 78))⟩,
       ⟨(some 80), some (77, false), .op (.len .sl (.t 79))⟩,
       ⟨(some 81), some (77, false), .op (.bin .none .gtr (.t 80) (.v (.int .i64 4)))⟩,
       ⟨(some 82), none, .op (.pick (.t 77) (.v (.bool true)) (.t 81))⟩] [])
     (.cond (.t 82)
       (.seq (.reg [⟨(some 2), none, .op (.mv (.v (.bool false)))⟩] [])
       .ret)
       .skip))
     (.seq (.seq (.reg [⟨(some 83), none, .op (.fad 3 (.t 4))⟩,
       ⟨(some 84), none, .op (.load none (.t 83))⟩,
       ⟨(some 85), none, .op (.len .sl (.t 84))⟩,
       ⟨(some 86), none, .op (.mv (.v (.int .i64 0)))⟩] [])
     (.block 2 (.loop (.seq (.reg [⟨(some 87), none, .op (.bin .none .lss (.t 86) (.t 85))⟩] [])
       (.seq (.cond (.t 87)
         .skip
         (.exit 2))
       (.seq (.block 3 (.seq (.reg [⟨(some 88), none, .op (.iad none none (.t 84) (.t 86))⟩,
          ⟨(some 89), none, .op (.load none (.t 88))⟩,
          ⟨(some 6), none, .op (.mv (.t 89))⟩] [])
        (.seq (.reg [⟨(some 90), none, .op (.mv (.t 6))⟩,
          ⟨(some 91), none, .op (.bin .none .gtr (.t 90) (.v (.int .u8 1)))⟩] [])
        (.cond (.t 91)
          (.seq (.reg [⟨(some 2), none, .op (.mv (.v (.bool false)))⟩] [])
          .ret)
          .skip))))
       (.reg [⟨(some 92), none, .op (.bin .none .add (.t 86) (.v (.int .i64 1)))⟩,
         ⟨(some 86), none, .op (.mv (.t 92))⟩] [])))))))
     (.seq (.seq (.reg [⟨(some 93), none, .op (.fad 4 (.t 4))⟩,
       ⟨(some 94), none, .op (.load none (.t 93))⟩,
       ⟨(some 95), none, .op (.len .sl (.t 94))⟩,
       ⟨(some 96), none, .op (.mv (.v (.int .i64 0)))⟩] [])
     (.block 4 (.loop (.seq (.reg [⟨(some 97), none, .op (.bin .none .lss (.t 96) (.t 95))⟩] [])
       (.seq (.cond (.t 97)
         .skip
         (.exit 4))
       (.seq (.block 5 (.seq (.reg [⟨(some 98), none, .op (.mv (.t 96))⟩,
          ⟨(some 99), none, .op (.iad none (some 2) (.t 94) (.t 96))⟩,
          ⟨(some 100), none, .op (.load (some 2) (.t 99))⟩,
          ⟨(some 8), none, .op (.new [(.int .i64 0), (.int .i64 0)])⟩,
          ⟨(some 7), none, .op (.mv (.t 98))⟩,
          ⟨none, none, .op (.store 2 (.t 8) (.t 100))⟩] [])
        (.seq (.reg [⟨(some 101), none, .op (.fad 0 (.t 8))⟩,
          ⟨(some 102), none, .op (.load none (.t 101))⟩,
          ⟨(some 103), none, .op (.bin .none .lss (.t 102) (.v (.int .i64 6)))⟩,
          ⟨(some 104), none, .op (.mv (.t 103))⟩,
          ⟨(some 105), some (104, false), .op (.fad 0 (.t 8))⟩,
          ⟨(some 106), some (104, false), .op (.load none (.t 105))⟩,
          ⟨(some 107), some (104, false), .op (.bin .none .gtr (.t 106) (.v (.int .i64 11)))⟩,
          ⟨(some 108), none, .op (.pick (.t 104) (.v (.bool true)) (.t 107))⟩,
          ⟨(some 109), none, .op (.mv (.t 108))⟩,
          ⟨(some 110), some (109, false), .op (.mv (.t 7))⟩,
          ⟨(some 111), some (109, false), .op (.bin .none .gtr (.t 110) (.v (.int .i64 0)))⟩,
          ⟨(some 112), some (109, false), .op (.mv (.t 111))⟩,
          ⟨(some 113), some (112, true), .op (.fad 0 (.t 8))⟩,
          ⟨(some 114), some (112, true), .op (.load none (.t 113))⟩,
          ⟨(some 115), some (112, true), .op (.fad 4 (.t 4))⟩,
          ⟨(some 116), some (112, true), .op (.load none (.t 115))⟩,
          ⟨(some 117), some (112, true), .op (.mv (.t 7))⟩,
          ⟨(some 118), some (112, true), .op (.bin .none .sub (.t 117) (.v (.int .i64 1)))⟩,
          ⟨(some 119), some (112, true), .op (.iad none (some 2) (.t 116) (.t 118))⟩,
          ⟨(some 120), some (112, true), .op (.fad 0 (.t 119))⟩,
          ⟨(some 121), some (112, true), .op (.load none (.t 120))⟩,
          ⟨(some 122), some (112, true), .op (.bin .none .leq (.t 114) (.t 121))⟩,
          ⟨(some 123), some (109, false), .op (.pick (.t 112) (.t 122) (.v (.bool false)))⟩,
          ⟨(some 124), none, .op (.pick (.t 109) (.v (.bool true)) (.t 123))⟩,
          ⟨(some 125), none, .op (.mv (.t 124))⟩,
          ⟨(some 126), some (125, false), .op (.fad 1 (.t 8))⟩,
          ⟨(some 127), some (125, false), .op (.load none (.t 126))⟩,
          ⟨(some 128), some (125, false), .op (.fad 2 (.t 4))⟩,
          ⟨(some 129), some (125, false), .op (.load none (.t 128))⟩,
          ⟨(some 130), some (125, false), .call 25 [(.t 127), (.t 129)]⟩,
          ⟨(some 131), some (125, false), .op (.un .not (.t 130))⟩,
          ⟨(some 132), none, .op (.pick (.t 125) (.v (.bool true)) (.t 131))⟩] [])
        (.cond (.t 132)
          (.seq (.reg [⟨(some 2), none, .op (.mv (.v (.bool false)))⟩] [])
          .ret)
          .skip))))
       (.reg [⟨(some 133), none, .op (.bin .none .add (.t 96) (.v (.int .i64 1)))⟩,
         ⟨(some 96), none, .op (.mv (.t 133))⟩] [])))))))
     (.seq (.reg [⟨(some 134), none, .op (.fad 5 (.t 4))⟩,
       ⟨(some 135), none, .op (.load none (.t 134))⟩,
       ⟨(some 136), none, .op (.bin .none .neq (.t 135) (.v (.int .i64 (-1))))⟩,
       ⟨(some 137), none, .op (.mv (.t 136))⟩,
       ⟨(some 138), some (137, true), .op (.fad 5 (.t 4))⟩,
       ⟨(some 139), some (137, true), .op (.load none (.t 138))⟩,
       ⟨(some 140), some (137, true), .op (.fad 0 (.t 4))⟩,
       ⟨(some 141), some (137, true), .op (.load none (.t 140))⟩,
       ⟨(some 142), some (137, true), .op (.bin .none .lss (.t 139) (.t 141))⟩,
       ⟨(some 143), some (137, true), .op (.mv (.t 142))⟩,
       ⟨(some 144), some (143, false), .op (.fad 5 (.t 4))⟩,
       ⟨(some 145), some (143, false), .op (.load none (.t 144))⟩,
       ⟨(some 146), some (143, false), .op (.fad 1 (.t 4))⟩,
       ⟨(some 147), some (143, false), .op (.load none (.t 146))⟩,
       ⟨(some 148), some (143, false), .op (.bin .none .sub (.t 147) (.v (.int .i64 1)))⟩,
       ⟨(some 149), some (143, false), .op (.bin .none .gtr (.t 145) (.t 148))⟩,
       ⟨(some 150), some (137, true), .op (.pick (.t 143) (.v (.bool true)) (.t 149))⟩,
       ⟨(some 151), none, .op (.pick (.t 137) (.t 150) (.v (.bool false)))⟩] [])
     (.cond (.t 151)
       (.seq (.reg [⟨(some 2), none, .op (.mv (.v (.bool false)))⟩] [])
       .ret)
       .skip))))))))
    (.reg [⟨(some 152), none, .op (.bin .none .add (.t 27) (.v (.int .i64 1)))⟩,
      ⟨(some 27), none, .op (.mv (.t 152))⟩] [])))))))
  (.seq (.seq (.reg [⟨(some 153), none, .op (.fad 1 (.t 1))⟩,
    ⟨(some 154), none, .op (.load none (.t 153))⟩,
    ⟨(some 155), none, .op (.len .sl (.t 154))⟩,
    ⟨(some 156), none, .op (.mv (.v (.int .i64 0)))⟩] [])
  (.block 6 (.loop (.seq (.reg [⟨(some 157), none, .op (.bin .none .lss (.t 156) (.t 155))⟩] [])
    (.seq (.cond (.t 157)
      .skip
      (.exit 6))
    (.seq (.block 7 (.seq (.reg [⟨(some 158), none, .op (.mv (.t 156))⟩,
       ⟨(some 159), none, .op (.iad none (some 2) (.t 154) (.t 156))⟩,
       ⟨(some 160), none, .op (.load (some 2) (.t 159))⟩,
       ⟨(some 10), none, .op (.new [(.int .i64 0), .nils])⟩,
       ⟨(some 9), none, .op (.mv (.t 158))⟩,
       ⟨none, none, .op (.store 2 (.t 10) (.t 160))⟩] [])
     (.seq (.reg [⟨(some 161), none, .op (.load (some 2) (.t 1))⟩,
       ⟨(some 162), none, .op (.fad 0 (.t 10))⟩,
       ⟨(some 163), none, .op (.load none (.t 162))⟩,
       ⟨(some 164), none, .call 26 [(.t 161), (.t 163)]⟩,
       ⟨(some 11), none, .op (.mv (.t 164))⟩] [])
     (.seq (.seq (.reg [⟨(some 165), none, .op (.mv (.t 11))⟩,
       ⟨(some 166), none, .op (.bin .none .lss (.t 165) (.v (.int .i64 0)))⟩,
       ⟨(some 167), none, .op (.mv (.t 166))⟩,
       ⟨(some 168), some (167, false), .op (.mv (.t 9))⟩,
       ⟨(some 169), some (167, false), .op (.bin .none .gtr (.t 168) (.v (.int .i64 0)))⟩,
       ⟨(some 170), some (167, false), .op (.mv (.t 169))⟩,
       ⟨(some 171), some (170, true), .op (.fad 0 (.t 10))⟩,
       ⟨(some 172), some (170, true), .op (.load none (.t 171))⟩,
       ⟨(some 173), some (170, true), .op (.fad 1 (.t 1))⟩,
       ⟨(some 174), some (170, true), .op (.load none (.t 173))⟩,
       ⟨(some 175), some (170, true), .op (.mv (.t 9))⟩,
       ⟨(some 176), some (170, true), .op (.bin .none .sub (.t 175) (.v (.int .i64 1)))⟩,
       ⟨(some 177), some (170, true), .op (.iad none (some 2) (.t 174) (.t 176))⟩,
       ⟨(some 178), some (170, true), .op (.fad 0 (.t 177))⟩,
       ⟨(some 179), some (170, true), .op (.load none (.t 178))⟩,
       ⟨(some 180), some (170, true), .op (.bin .none .leq (.t 172) (.t 179))⟩,
       ⟨(some 181), some (167, false), .op (.pick (.t 170) (.t 180) (.v (.bool false)))⟩,
       ⟨(some 182), none, .op (.pick (.t 167) (.v (.bool true)) (.t 181))⟩] [])
     (.cond (.t 182)
       (.seq (.reg [⟨(some 2), none, .op (.mv (.v (.bool false)))⟩] [])
       .ret)
       .skip))
     (.seq (.reg [⟨(some 183), none, .op (.fad 1 (.t 10))⟩,
       ⟨(some 184), none, .op (.load none (.t 183))⟩,
       ⟨(some 185), none, .op (.len .sl (.t 184))⟩,
       ⟨(some 186), none, .op (.mv (.v (.int .i64 0)))⟩] [])
     (.block 8 (.loop (.seq (.reg [⟨(some 187), none, .op (.bin .none .lss (.t 186) (.t 185))⟩] [])
       (.seq (.cond (.t 187)
         .skip
         (.exit 8))
       (.seq (.block 9 (.seq (.reg [⟨(some 188), none, .op (.mv (.t 186))⟩,
          ⟨(some 189), none, .op (.iad none none (.t 184) (.t 186))⟩,
          ⟨(some 190), none, .op (.load none (.t 189))⟩,
          ⟨(some 12), none, .op (.mv (.t 188))⟩,
          ⟨(some 13), none, .op (.mv (.t 190))⟩] [])
        (.seq (.reg [⟨(some 191), none, .op (.mv (.t 13))⟩,
          ⟨(some 192), none, .op (.fad 0 (.t 1))⟩,
          ⟨(some 193), none, .op (.load none (.t 192))⟩,
          ⟨(some 194), none, .op (.mv (.t 11))⟩,
          ⟨(some 195), none, .op (.iad none (some 6) (.t 193) (.t 194))⟩,
          ⟨(some 196), none, .op (.fad 2 (.t 195))⟩,
          ⟨(some 197), none, .op (.load none (.t 196))⟩,
          ⟨(some 198), none, .call 25 [(.t 191), (.t 197)]⟩,
          ⟨(some 199), none, .op (.un .not (.t 198))⟩,
          ⟨(some 200), none, .op (.mv (.t 199))⟩,
          ⟨(some 201), some (200, false), .op (.mv (.t 12))⟩,
          ⟨(some 202), some (200, false), .op (.bin .none .gtr (.t 201) (.v (.int .i64 0)))⟩,
          ⟨(some 203), some (200, false), .op (.mv (.t 202))⟩,
          ⟨(some 204), some (203, true), .op (.mv (.t 13))⟩,
          ⟨(some 205), some (203, true), .op (.fad 1 (.t 10))⟩,
          ⟨(some 206), some (203, true), .op (.load none (.t 205))⟩,
          ⟨(some 207), some (203, true), .op (.mv (.t 12))⟩,
          ⟨(some 208), some (203, true), .op (.bin .none .sub (.t 207) (.v (.int .i64 1)))⟩,
          ⟨(some 209), some (203, true), .op (.iad none none (.t 206) (.t 208))⟩,
          ⟨(some 210), some (203, true), .op (.load none (.t 209))⟩,
          ⟨(some 211), some (203, true), .op (.bin .none .leq (.t 204) (.t 210))⟩,
          ⟨(some 212), some (200, false), .op (.pick (.t 203) (.t 211) (.v (.bool false)))⟩,
          ⟨(some 213), none, .op (.pick (.t 200) (.v (.bool true)) (.t 212))⟩] [])
        (.cond (.t 213)
          (.seq (.reg [⟨(some 2), none, .op (.mv (.v (.bool false)))⟩] [])
          .ret)
          .skip))))
       (.reg [⟨(some 214), none, .op (.bin .none .add (.t 186) (.v (.int .i64 1)))⟩,
         ⟨(some 186), none, .op (.mv (.t 214))⟩] [])))))))))))
    (.reg [⟨(some 215), none, .op (.bin .none .add (.t 156) (.v (.int .i64 1)))⟩,
      ⟨(some 156), none, .op (.mv (.t 215))⟩] [])))))))
  (.seq (.reg [⟨(some 2), none, .op (.mv (.v (.bool true)))⟩] [])
  .ret)))))
theorem fn11 : Fn2 Try.prog 11 216 [2] fc11 := ⟨_, _, Try.func11, rfl, rfl, rfl, by kernel_rfl⟩
/- windlass/windlassref19.Func -/
def fc12 : FC := (.seq (.reg [⟨(some 2), none, .op (.box (.t 0))⟩,
    ⟨(some 4), none, .op (.mv (.v (.int .i64 0)))⟩,
    ⟨(some 5), none, .op (.mv (.v (.bool false)))⟩] [])
  (.seq (.seq (.reg [⟨(some 8), none, .op (.fad 0 (.t 2))⟩,
    ⟨(some 9), none, .op (.load none (.t 8))⟩,
    ⟨(some 10), none, .op (.len .sl (.t 9))⟩,
    ⟨(some 11), none, .op (.mv (.v (.int .i64 0)))⟩] [])
  (.block 0 (.loop (.seq (.reg [⟨(some 12), none, .op (.bin .none .lss (.t 11) (.t 10))⟩] [])
    (.seq (.cond (.t 12)
      .skip
      (.exit 0))
    (.seq (.block 1 (.seq (.reg [⟨(some 13), none, .op (.mv (.t 11))⟩,
       ⟨(some 14), none, .op (.iad none (some 6) (.t 9) (.t 11))⟩,
       ⟨(some 15), none, .op (.load (some 6) (.t 14))⟩,
       ⟨(some 7), none, .op (.new [(.int .i64 0), (.int .i64 0), (.int .i64 0), .nils, .nils, (.int .i64 0)])⟩,
       ⟨(some 6), none, .op (.mv (.t 13))⟩,
       ⟨none, none, .op (.store 6 (.t 7) (.t 15))⟩] [])
     (.seq (.reg [⟨(some 16), none, .op (.fad 0 (.t 7))⟩,
       ⟨(some 17), none, .op (.load none (.t 16))⟩,
       ⟨(some 18), none, .op (.mv (.t 1))⟩,
       ⟨(some 19), none, .op (.bin .none .leq (.t 17) (.t 18))⟩,
       ⟨(some 20), none, .op (.mv (.t 19))⟩,
       ⟨(some 21), some (20, true), .op (.mv (.t 1))⟩,
       ⟨(some 22), some (20, true), .op (.fad 1 (.t 7))⟩,
       ⟨(some 23), some (20, true), .op (.load none (.t 22))⟩,
       ⟨(some 24), some (20, true), .op (.bin .none .lss (.t 21) (.t 23))⟩,
       ⟨(some 25), none, .op (.pick (.t 20) (.t 24) (.v (.bool false)))⟩] [])
     (.cond (.t 25)
       (.seq (.reg [⟨(some 26), none, .op (.mv (.t 6))⟩,
         ⟨(some 4), none, .op (.mv (.t 26))⟩,
         ⟨(some 5), none, .op (.mv (.v (.bool true)))⟩] [])
       .ret)
       .skip))))
    (.reg [⟨(some 27), none, .op (.bin .none .add (.t 11) (.v (.int .i64 1)))⟩,
      ⟨(some 11), none, .op (.mv (.t 27))⟩] [])))))))
  (.seq (.reg [⟨(some 4), none, .op (.mv (.v (.int .i64 0)))⟩,
    ⟨(some 5), none, .op (.mv (.v (.bool false)))⟩] [])
  .ret)))
theorem fn12 : Fn2 Try.prog 12 28 [4, 5] fc12 := ⟨_, _, Try.func12, rfl, rfl, rfl, by kernel_rfl⟩
/- windlass/tables.Site -/
def fc13 : FC := (.seq (.reg [⟨(some 2), none, .op (.box (.t 0))⟩,
    ⟨(some 4), none, .op (.mv (.v (.int .i64 0)))⟩,
    ⟨(some 5), none, .op (.mv (.v (.bool false)))⟩] [])
  (.seq (.reg [⟨(some 9), none, .op (.fad 1 (.t 2))⟩,
    ⟨(some 10), none, .op (.load none (.t 9))⟩,
    ⟨(some 11), none, .op (.mv (.t 1))⟩,
    ⟨(some 12), none, .call 27 [(.t 10), (.t 11), (.v (.fn (.func 28) [] []))]⟩,
    ⟨(some 8), none, .op (.mv (.t 12))⟩,
    ⟨(some 13), none, .op (.ext 0 (.t 8))⟩,
    ⟨(some 14), none, .op (.ext 1 (.t 8))⟩,
    ⟨(some 6), none, .op (.mv (.t 13))⟩,
    ⟨(some 7), none, .op (.mv (.t 14))⟩] [])
  (.seq (.seq (.reg [⟨(some 15), none, .op (.mv (.t 7))⟩,
    ⟨(some 16), none, .op (.un .not (.t 15))⟩] [])
  (.cond (.t 16)
    (.seq (.reg [⟨(some 4), none, .op (.mv (.v (.int .i64 0)))⟩,
      ⟨(some 5), none, .op (.mv (.v (.bool false)))⟩] [])
    .ret)
    .skip))
  (.seq (.reg [⟨(some 17), none, .op (.mv (.t 6))⟩,
    ⟨(some 4), none, .op (.mv (.t 17))⟩,
    ⟨(some 5), none, .op (.mv (.v (.bool true)))⟩] [])
  .ret))))
theorem fn13 : Fn2 Try.prog 13 18 [4, 5] fc13 := ⟨_, _, Try.func13, rfl, rfl, rfl, by kernel_rfl⟩
/- windlass/windlassref19.Site -/
def fc14 : FC := (.seq (.reg [⟨(some 2), none, .op (.box (.t 0))⟩,
    ⟨(some 4), none, .op (.mv (.v (.int .i64 0)))⟩,
    ⟨(some 5), none, .op (.mv (.v (.bool false)))⟩] [])
  (.seq (.seq (.reg [⟨(some 8), none, .op (.fad 1 (.t 2))⟩,
    ⟨(some 9), none, .op (.load none (.t 8))⟩,
    ⟨(some 10), none, .op (.len .sl (.t 9))⟩,
    ⟨(some 11), none, .op (.mv (.v (.int .i64 0)))⟩] [])
  (.block 0 (.loop (.seq (.reg [⟨(some 12), none, .op (.bin .none .lss (.t 11) (.t 10))⟩] [])
    (.seq (.cond (.t 12)
      .skip
      (.exit 0))
    (.seq (.block 1 (.seq (.reg [⟨(some 13), none, .op (.mv (.t 11))⟩,
       ⟨(some 14), none, .op (.iad none (some 2) (.t 9) (.t 11))⟩,
       ⟨(some 15), none, .op (.load (some 2) (.t 14))⟩,
       ⟨(some 7), none, .op (.new [(.int .i64 0), .nils])⟩,
       ⟨(some 6), none, .op (.mv (.t 13))⟩,
       ⟨none, none, .op (.store 2 (.t 7) (.t 15))⟩] [])
     (.seq (.reg [⟨(some 16), none, .op (.fad 0 (.t 7))⟩,
       ⟨(some 17), none, .op (.load none (.t 16))⟩,
       ⟨(some 18), none, .op (.mv (.t 1))⟩,
       ⟨(some 19), none, .op (.bin .none .eql (.t 17) (.t 18))⟩] [])
     (.cond (.t 19)
       (.seq (.reg [⟨(some 20), none, .op (.mv (.t 6))⟩,
         ⟨(some 4), none, .op (.mv (.t 20))⟩,
         ⟨(some 5), none, .op (.mv (.v (.bool true)))⟩] [])
       .ret)
       .skip))))
    (.reg [⟨(some 21), none, .op (.bin .none .add (.t 11) (.v (.int .i64 1)))⟩,
      ⟨(some 11), none, .op (.mv (.t 21))⟩] [])))))))
  (.seq (.reg [⟨(some 4), none, .op (.mv (.v (.int .i64 0)))⟩,
    ⟨(some 5), none, .op (.mv (.v (.bool false)))⟩] [])
  .ret)))
theorem fn14 : Fn2 Try.prog 14 22 [4, 5] fc14 := ⟨_, _, Try.func14, rfl, rfl, rfl, by kernel_rfl⟩
/- windlass/tables.Encode -/
def fc15 : FC := (.seq (.reg [⟨(some 1), none, .op (.box (.t 0))⟩,
    ⟨(some 2), none, .op (.mv (.v .nils))⟩,
    ⟨(some 3), none, .op (.mv (.v (.int .i64 0)))⟩] [])
  (.seq (.seq (.reg [⟨(some 17), none, .op (.load (some 2) (.t 1))⟩,
    ⟨(some 18), none, .call 9 [(.t 17)]⟩,
    ⟨(some 19), none, .op (.bin .none .neq (.t 18) (.v (.int .i64 0)))⟩] [])
  (.cond (.t 19)
    (.seq (.reg [⟨(some 2), none, .op (.mv (.v .nils))⟩,
      ⟨(some 3), none, .op (.mv (.v (.int .i64 190)))⟩] [])
    .ret)
    .skip))
  (.seq (.reg [⟨(some 20), none, .op (.fad 0 (.t 1))⟩,
    ⟨(some 21), none, .op (.load none (.t 20))⟩,
    ⟨(some 22), none, .op (.len .sl (.t 21))⟩,
    ⟨(some 23), none, .call 29 [(.v .nils), (.t 22)]⟩,
    ⟨(some 4), none, .op (.mv (.t 23))⟩] [])
  (.seq (.seq (.reg [⟨(some 24), none, .op (.fad 0 (.t 1))⟩,
    ⟨(some 25), none, .op (.load none (.t 24))⟩,
    ⟨(some 26), none, .op (.len .sl (.t 25))⟩,
    ⟨(some 27), none, .op (.mv (.v (.int .i64 0)))⟩] [])
  (.block 0 (.loop (.seq (.reg [⟨(some 28), none, .op (.bin .none .lss (.t 27) (.t 26))⟩] [])
    (.seq (.cond (.t 28)
      .skip
      (.exit 0))
    (.seq (.block 1 (.seq (.reg [⟨(some 29), none, .op (.iad none (some 6) (.t 25) (.t 27))⟩,
       ⟨(some 30), none, .op (.load (some 6) (.t 29))⟩,
       ⟨(some 6), none, .op (.new [(.int .i64 0), (.int .i64 0), (.int .i64 0), .nils, .nils, (.int .i64 0)])⟩,
       ⟨none, none, .op (.store 6 (.t 6) (.t 30))⟩] [])
     (.seq (.seq (.reg [⟨(some 31), none, .op (.fad 0 (.t 6))⟩,
       ⟨(some 32), none, .op (.load none (.t 31))⟩,
       ⟨(some 33), none, .op (.fad 1 (.t 6))⟩,
       ⟨(some 34), none, .op (.load none (.t 33))⟩,
       ⟨(some 35), none, .op (.fad 2 (.t 6))⟩,
       ⟨(some 36), none, .op (.load none (.t 35))⟩,
       ⟨(some 37), none, .op (.fad 5 (.t 6))⟩,
       ⟨(some 38), none, .op (.load none (.t 37))⟩,
       ⟨(some 39), none, .op (.bin .none .add (.t 38) (.v (.int .i64 1)))⟩,
       ⟨(some 40), none, .op (.fad 3 (.t 6))⟩,
       ⟨(some 41), none, .op (.load none (.t 40))⟩,
       ⟨(some 42), none, .op (.len .sl (.t 41))⟩,
       ⟨(some 43), none, .op (.bsl none [(.int .i64 0)] 5 [(0, 1, (.t 32)), (1, 1, (.t 34)), (2, 1, (.t 36)), (3, 1, (.t 39)), (4, 1, (.t 42))])⟩,
       ⟨(some 44), none, .op (.len .sl (.t 43))⟩,
       ⟨(some 45), none, .op (.mv (.v (.int .i64 0)))⟩] [])
     (.block 2 (.loop (.seq (.reg [⟨(some 46), none, .op (.bin .none .lss (.t 45) (.t 44))⟩] [])
       (.seq (.cond (.t 46)
         .skip
         (.exit 2))
       (.seq (.block 3 (.seq (.reg [⟨(some 47), none, .op (.iad none none (.t 43) (.t 45))⟩,
          ⟨(some 48), none, .op (.load none (.t 47))⟩,
          ⟨(some 8), none, .op (.mv (.t 48))⟩] [])
        (.reg [⟨(some 49), none, .op (.mv (.t 4))⟩,
          ⟨(some 50), none, .op (.mv (.t 8))⟩,
          ⟨(some 51), none, .call 29 [(.t 49), (.t 50)]⟩,
          ⟨(some 4), none, .op (.mv (.t 51))⟩] [])))
       (.reg [⟨(some 52), none, .op (.bin .none .add (.t 45) (.v (.int .i64 1)))⟩,
         ⟨(some 45), none, .op (.mv (.t 52))⟩] [])))))))
     (.seq (.seq (.reg [⟨(some 53), none, .op (.fad 3 (.t 6))⟩,
       ⟨(some 54), none, .op (.load none (.t 53))⟩,
       ⟨(some 55), none, .op (.len .sl (.t 54))⟩,
       ⟨(some 56), none, .op (.mv (.v (.int .i64 0)))⟩] [])
     (.block 4 (.loop (.seq (.reg [⟨(some 57), none, .op (.bin .none .lss (.t 56) (.t 55))⟩] [])
       (.seq (.cond (.t 57)
         .skip
         (.exit 4))
       (.seq (.block 5 (.seq (.reg [⟨(some 58), none, .op (.iad none none (.t 54) (.t 56))⟩,
          ⟨(some 59), none, .op (.load none (.t 58))⟩,
          ⟨(some 10), none, .op (.mv (.t 59))⟩] [])
        (.reg [⟨(some 60), none, .op (.mv (.t 4))⟩,
          ⟨(some 61), none, .op (.mv (.t 10))⟩,
          ⟨(some 62), none, .op (.cint .i64 (.t 61))⟩,
          ⟨(some 63), none, .call 29 [(.t 60), (.t 62)]⟩,
          ⟨(some 4), none, .op (.mv (.t 63))⟩] [])))
       (.reg [⟨(some 64), none, .op (.bin .none .add (.t 56) (.v (.int .i64 1)))⟩,
         ⟨(some 56), none, .op (.mv (.t 64))⟩] [])))))))
     (.seq (.reg [⟨(some 65), none, .op (.mv (.t 4))⟩,
       ⟨(some 66), none, .op (.fad 4 (.t 6))⟩,
       ⟨(some 67), none, .op (.load none (.t 66))⟩,
       ⟨(some 68), none, .op (.len .sl (.t 67))⟩,
       ⟨(some 69), none, .call 29 [(.t 65), (.t 68)]⟩,
       ⟨(some 4), none, .op (.mv (.t 69))⟩] [])
     (.seq (.reg [⟨(some 70), none, .op (.fad 4 (.t 6))⟩,
       ⟨(some 71), none, .op (.load none (.t 70))⟩,
       ⟨(some 72), none, .op (.len .sl (.t 71))⟩,
       ⟨(some 73), none, .op (.mv (.v (.int .i64 0)))⟩] [])
     (.block 6 (.loop (.seq (.reg [⟨(some 74), none, .op (.bin .none .lss (.t 73) (.t 72))⟩] [])
       (.seq (.cond (.t 74)
         .skip
         (.exit 6))
       (.seq (.block 7 (.seq (.reg [⟨(some 75), none, .op (.iad none (some 2) (.t 71) (.t 73))⟩,
          ⟨(some 76), none, .op (.load (some 2) (.t 75))⟩,
          ⟨(some 12), none, .op (.new [(.int .i64 0), (.int .i64 0)])⟩,
          ⟨none, none, .op (.store 2 (.t 12) (.t 76))⟩] [])
        (.reg [⟨(some 77), none, .op (.mv (.t 4))⟩,
          ⟨(some 78), none, .op (.fad 0 (.t 12))⟩,
          ⟨(some 79), none, .op (.load none (.t 78))⟩,
          ⟨(some 80), none, .call 29 [(.t 77), (.t 79)]⟩,
          ⟨(some 81), none, .op (.fad 1 (.t 12))⟩,
          ⟨(some 82), none, .op (.load none (.t 81))⟩,
          ⟨(some 83), none, .call 29 [(.t 80), (.t 82)]⟩,
          ⟨(some 4), none, .op (.mv (.t 83))⟩] [(3, 5)])))
       (.reg [⟨(some 84), none, .op (.bin .none .add (.t 73) (.v (.int .i64 1)))⟩,
         ⟨(some 73), none, .op (.mv (.t 84))⟩] []))))))))))))
    (.reg [⟨(some 85), none, .op (.bin .none .add (.t 27) (.v (.int .i64 1)))⟩,
      ⟨(some 27), none, .op (.mv (.t 85))⟩] [])))))))
  (.seq (.reg [⟨(some 86), none, .op (.mv (.t 4))⟩,
    ⟨(some 87), none, .op (.fad 1 (.t 1))⟩,
    ⟨(some 88), none, .op (.load none (.t 87))⟩,
    ⟨(some 89), none, .op (.len .sl (.t 88))⟩,
    ⟨(some 90), none, .call 29 [(.t 86), (.t 89)]⟩,
    ⟨(some 4), none, .op (.mv (.t 90))⟩] [])
  (.seq (.seq (.reg [⟨(some 91), none, .op (.fad 1 (.t 1))⟩,
    ⟨(some 92), none, .op (.load none (.t 91))⟩,
    ⟨(some 93), none, .op (.len .sl (.t 92))⟩,
    ⟨(some 94), none, .op (.mv (.v (.int .i64 0)))⟩] [])
  (.block 8 (.loop (.seq (.reg [⟨(some 95), none, .op (.bin .none .lss (.t 94) (.t 93))⟩] [])
    (.seq (.cond (.t 95)
      .skip
      (.exit 8))
    (.seq (.block 9 (.seq (.reg [⟨(some 96), none, .op (.iad none (some 2) (.t 92) (.t 94))⟩,
       ⟨(some 97), none, .op (.load (some 2) (.t 96))⟩,
       ⟨(some 14), none, .op (.new [(.int .i64 0), .nils])⟩,
       ⟨none, none, .op (.store 2 (.t 14) (.t 97))⟩] [])
     (.seq (.reg [⟨(some 98), none, .op (.mv (.t 4))⟩,
       ⟨(some 99), none, .op (.fad 0 (.t 14))⟩,
       ⟨(some 100), none, .op (.load none (.t 99))⟩,
       ⟨(some 101), none, .call 29 [(.t 98), (.t 100)]⟩,
       ⟨(some 102), none, .op (.fad 1 (.t 14))⟩,
       ⟨(some 103), none, .op (.load none (.t 102))⟩,
       ⟨(some 104), none, .op (.len .sl (.t 103))⟩,
       ⟨(some 105), none, .call 29 [(.t 101), (.t 104)]⟩,
       ⟨(some 4), none, .op (.mv (.t 105))⟩] [(3, 5)])
     (.seq (.reg [⟨(some 106), none, .op (.fad 1 (.t 14))⟩,
       ⟨(some 107), none, .op (.load none (.t 106))⟩,
       ⟨(some 108), none, .op (.len .sl (.t 107))⟩,
       ⟨(some 109), none, .op (.mv (.v (.int .i64 0)))⟩] [])
     (.block 10 (.loop (.seq (.reg [⟨(some 110), none, .op (.bin .none .lss (.t 109) (.t 108))⟩] [])
       (.seq (.cond (.t 110)
         .skip
         (.exit 10))
       (.seq (.block 11 (.seq (.reg [⟨(some 111), none, .op (.iad none none (.t 107) (.t 109))⟩,
          ⟨(some 112), none, .op (.load none (.t 111))⟩,
          ⟨(some 16), none, .op (.mv (.t 112))⟩] [])
        (.reg [⟨(some 113), none, .op (.mv (.t 4))⟩,
          ⟨(some 114), none, .op (.mv (.t 16))⟩,
          ⟨(some 115), none, .call 29 [(.t 113), (.t 114)]⟩,
          ⟨(some 4), none, .op (.mv (.t 115))⟩] [])))
       (.reg [⟨(some 116), none, .op (.bin .none .add (.t 109) (.v (.int .i64 1)))⟩,
         ⟨(some 109), none, .op (.mv (.t 116))⟩] []))))))))))
    (.reg [⟨(some 117), none, .op (.bin .none .add (.t 94) (.v (.int .i64 1)))⟩,
      ⟨(some 94), none, .op (.mv (.t 117))⟩] [])))))))
  (.seq (.reg [⟨(some 118), none, .op (.mv (.t 4))⟩,
    ⟨(some 2), none, .op (.mv (.t 118))⟩,
    ⟨(some 3), none, .op (.mv (.v (.int .i64 0)))⟩] [])
  .ret)))))))
theorem fn15 : Fn2 Try.prog 15 119 [2, 3] fc15 := ⟨_, _, Try.func15, rfl, rfl, rfl, by kernel_rfl⟩
/- windlass/windlassref19.Bytes -/
def fc17 : FC := (.seq (.reg [⟨(some 1), none, .op (.box (.t 0))⟩,
    ⟨(some 2), none, .op (.mv (.v .nils))⟩] [])
  (.seq (.reg [⟨(some 14), none, .op (.fad 0 (.t 1))⟩,
    ⟨(some 15), none, .op (.load none (.t 14))⟩,
    ⟨(some 16), none, .op (.len .sl (.t 15))⟩,
    ⟨(some 17), none, .call 32 [(.v .nils), (.t 16)]⟩,
    ⟨(some 3), none, .op (.mv (.t 17))⟩] [])
  (.seq (.seq (.reg [⟨(some 18), none, .op (.fad 0 (.t 1))⟩,
    ⟨(some 19), none, .op (.load none (.t 18))⟩,
    ⟨(some 20), none, .op (.len .sl (.t 19))⟩,
    ⟨(some 21), none, .op (.mv (.v (.int .i64 0)))⟩] [])
  (.block 0 (.loop (.seq (.reg [⟨(some 22), none, .op (.bin .none .lss (.t 21) (.t 20))⟩] [])
    (.seq (.cond (.t 22)
      .skip
      (.exit 0))
    (.seq (.block 1 (.seq (.reg [⟨(some 23), none, .op (.iad none (some 6) (.t 19) (.t 21))⟩,
       ⟨(some 24), none, .op (.load (some 6) (.t 23))⟩,
       ⟨(some 5), none, .op (.new [(.int .i64 0), (.int .i64 0), (.int .i64 0), .nils, .nils, (.int .i64 0)])⟩,
       ⟨none, none, .op (.store 6 (.t 5) (.t 24))⟩] [])
     (.seq (.reg [⟨(some 25), none, .op (.mv (.t 3))⟩,
       ⟨(some 26), none, .op (.fad 0 (.t 5))⟩,
       ⟨(some 27), none, .op (.load none (.t 26))⟩,
       ⟨(some 28), none, .call 32 [(.t 25), (.t 27)]⟩,
       ⟨(some 3), none, .op (.mv (.t 28))⟩] [])
     (.seq (.reg [⟨(some 29), none, .op (.mv (.t 3))⟩,
       ⟨(some 30), none, .op (.fad 1 (.t 5))⟩,
       ⟨(some 31), none, .op (.load none (.t 30))⟩,
       ⟨(some 32), none, .call 32 [(.t 29), (.t 31)]⟩,
       ⟨(some 3), none, .op (.mv (.t 32))⟩] [])
     (.seq (.reg [⟨(some 33), none, .op (.mv (.t 3))⟩,
       ⟨(some 34), none, .op (.fad 2 (.t 5))⟩,
       ⟨(some 35), none, .op (.load none (.t 34))⟩,
       ⟨(some 36), none, .call 32 [(.t 33), (.t 35)]⟩,
       ⟨(some 3), none, .op (.mv (.t 36))⟩] [])
     (.seq (.reg [⟨(some 37), none, .op (.mv (.t 3))⟩,
       ⟨(some 38), none, .op (.fad 5 (.t 5))⟩,
       ⟨(some 39), none, .op (.load none (.t 38))⟩,
       ⟨(some 40), none, .op (.bin .none .add (.t 39) (.v (.int .i64 1)))⟩,
       ⟨(some 41), none, .call 32 [(.t 37), (.t 40)]⟩,
       ⟨(some 3), none, .op (.mv (.t 41))⟩] [])
     (.seq (.reg [⟨(some 42), none, .op (.mv (.t 3))⟩,
       ⟨(some 43), none, .op (.fad 3 (.t 5))⟩,
       ⟨(some 44), none, .op (.load none (.t 43))⟩,
       ⟨(some 45), none, .op (.len .sl (.t 44))⟩,
       ⟨(some 46), none, .call 32 [(.t 42), (.t 45)]⟩,
       ⟨(some 3), none, .op (.mv (.t 46))⟩] [])
     (.seq (.seq (.reg [⟨(some 47), none, .op (.fad 3 (.t 5))⟩,
       ⟨(some 48), none, .op (.load none (.t 47))⟩,
       ⟨(some 49), none, .op (.len .sl (.t 48))⟩,
       ⟨(some 50), none, .op (.mv (.v (.int .i64 0)))⟩] [])
     (.block 2 (.loop (.seq (.reg [⟨(some 51), none, .op (.bin .none .lss (.t 50) (.t 49))⟩] [])
       (.seq (.cond (.t 51)
         .skip
         (.exit 2))
       (.seq (.block 3 (.seq (.reg [⟨(some 52), none, .op (.iad none none (.t 48) (.t 50))⟩,
          ⟨(some 53), none, .op (.load none (.t 52))⟩,
          ⟨(some 7), none, .op (.mv (.t 53))⟩] [])
        (.reg [⟨(some 54), none, .op (.mv (.t 3))⟩,
          ⟨(some 55), none, .op (.mv (.t 7))⟩,
          ⟨(some 56), none, .op (.cint .i64 (.t 55))⟩,
          ⟨(some 57), none, .call 32 [(.t 54), (.t 56)]⟩,
          ⟨(some 3), none, .op (.mv (.t 57))⟩] [])))
       (.reg [⟨(some 58), none, .op (.bin .none .add (.t 50) (.v (.int .i64 1)))⟩,
         ⟨(some 50), none, .op (.mv (.t 58))⟩] [])))))))
     (.seq (.reg [⟨(some 59), none, .op (.mv (.t 3))⟩,
       ⟨(some 60), none, .op (.fad 4 (.t 5))⟩,
       ⟨(some 61), none, .op (.load none (.t 60))⟩,
       ⟨(some 62), none, .op (.len .sl (.t 61))⟩,
       ⟨(some 63), none, .call 32 [(.t 59), (.t 62)]⟩,
       ⟨(some 3), none, .op (.mv (.t 63))⟩] [])
     (.seq (.reg [⟨(some 64), none, .op (.fad 4 (.t 5))⟩,
       ⟨(some 65), none, .op (.load none (.t 64))⟩,
       ⟨(some 66), none, .op (.len .sl (.t 65))⟩,
       ⟨(some 67), none, .op (.mv (.v (.int .i64 0)))⟩] [])
     (.block 4 (.loop (.seq (.reg [⟨(some 68), none, .op (.bin .none .lss (.t 67) (.t 66))⟩] [])
       (.seq (.cond (.t 68)
         .skip
         (.exit 4))
       (.seq (.block 5 (.seq (.reg [⟨(some 69), none, .op (.iad none (some 2) (.t 65) (.t 67))⟩,
          ⟨(some 70), none, .op (.load (some 2) (.t 69))⟩,
          ⟨(some 9), none, .op (.new [(.int .i64 0), (.int .i64 0)])⟩,
          ⟨none, none, .op (.store 2 (.t 9) (.t 70))⟩] [])
        (.seq (.reg [⟨(some 71), none, .op (.mv (.t 3))⟩,
          ⟨(some 72), none, .op (.fad 0 (.t 9))⟩,
          ⟨(some 73), none, .op (.load none (.t 72))⟩,
          ⟨(some 74), none, .call 32 [(.t 71), (.t 73)]⟩,
          ⟨(some 3), none, .op (.mv (.t 74))⟩] [])
        (.reg [⟨(some 75), none, .op (.mv (.t 3))⟩,
          ⟨(some 76), none, .op (.fad 1 (.t 9))⟩,
          ⟨(some 77), none, .op (.load none (.t 76))⟩,
          ⟨(some 78), none, .call 32 [(.t 75), (.t 77)]⟩,
          ⟨(some 3), none, .op (.mv (.t 78))⟩] []))))
       (.reg [⟨(some 79), none, .op (.bin .none .add (.t 67) (.v (.int .i64 1)))⟩,
         ⟨(some 67), none, .op (.mv (.t 79))⟩] []))))))))))))))))
    (.reg [⟨(some 80), none, .op (.bin .none .add (.t 21) (.v (.int .i64 1)))⟩,
      ⟨(some 21), none, .op (.mv (.t 80))⟩] [])))))))
  (.seq (.reg [⟨(some 81), none, .op (.mv (.t 3))⟩,
    ⟨(some 82), none, .op (.fad 1 (.t 1))⟩,
    ⟨(some 83), none, .op (.load none (.t 82))⟩,
    ⟨(some 84), none, .op (.len .sl (.t 83))⟩,
    ⟨(some 85), none, .call 32 [(.t 81), (.t 84)]⟩,
    ⟨(some 3), none, .op (.mv (.t 85))⟩] [])
  (.seq (.seq (.reg [⟨(some 86), none, .op (.fad 1 (.t 1))⟩,
    ⟨(some 87), none, .op (.load none (.t 86))⟩,
    ⟨(some 88), none, .op (.len .sl (.t 87))⟩,
    ⟨(some 89), none, .op (.mv (.v (.int .i64 0)))⟩] [])
  (.block 6 (.loop (.seq (.reg [⟨(some 90), none, .op (.bin .none .lss (.t 89) (.t 88))⟩] [])
    (.seq (.cond (.t 90)
      .skip
      (.exit 6))
    (.seq (.block 7 (.seq (.reg [⟨(some 91), none, .op (.iad none (some 2) (.t 87) (.t 89))⟩,
       ⟨(some 92), none, .op (.load (some 2) (.t 91))⟩,
       ⟨(some 11), none, .op (.new [(.int .i64 0), .nils])⟩,
       ⟨none, none, .op (.store 2 (.t 11) (.t 92))⟩] [])
     (.seq (.reg [⟨(some 93), none, .op (.mv (.t 3))⟩,
       ⟨(some 94), none, .op (.fad 0 (.t 11))⟩,
       ⟨(some 95), none, .op (.load none (.t 94))⟩,
       ⟨(some 96), none, .call 32 [(.t 93), (.t 95)]⟩,
       ⟨(some 3), none, .op (.mv (.t 96))⟩] [])
     (.seq (.reg [⟨(some 97), none, .op (.mv (.t 3))⟩,
       ⟨(some 98), none, .op (.fad 1 (.t 11))⟩,
       ⟨(some 99), none, .op (.load none (.t 98))⟩,
       ⟨(some 100), none, .op (.len .sl (.t 99))⟩,
       ⟨(some 101), none, .call 32 [(.t 97), (.t 100)]⟩,
       ⟨(some 3), none, .op (.mv (.t 101))⟩] [])
     (.seq (.reg [⟨(some 102), none, .op (.fad 1 (.t 11))⟩,
       ⟨(some 103), none, .op (.load none (.t 102))⟩,
       ⟨(some 104), none, .op (.len .sl (.t 103))⟩,
       ⟨(some 105), none, .op (.mv (.v (.int .i64 0)))⟩] [])
     (.block 8 (.loop (.seq (.reg [⟨(some 106), none, .op (.bin .none .lss (.t 105) (.t 104))⟩] [])
       (.seq (.cond (.t 106)
         .skip
         (.exit 8))
       (.seq (.block 9 (.seq (.reg [⟨(some 107), none, .op (.iad none none (.t 103) (.t 105))⟩,
          ⟨(some 108), none, .op (.load none (.t 107))⟩,
          ⟨(some 13), none, .op (.mv (.t 108))⟩] [])
        (.reg [⟨(some 109), none, .op (.mv (.t 3))⟩,
          ⟨(some 110), none, .op (.mv (.t 13))⟩,
          ⟨(some 111), none, .call 32 [(.t 109), (.t 110)]⟩,
          ⟨(some 3), none, .op (.mv (.t 111))⟩] [])))
       (.reg [⟨(some 112), none, .op (.bin .none .add (.t 105) (.v (.int .i64 1)))⟩,
         ⟨(some 105), none, .op (.mv (.t 112))⟩] [])))))))))))
    (.reg [⟨(some 113), none, .op (.bin .none .add (.t 89) (.v (.int .i64 1)))⟩,
      ⟨(some 89), none, .op (.mv (.t 113))⟩] [])))))))
  (.seq (.reg [⟨(some 114), none, .op (.mv (.t 3))⟩,
    ⟨(some 2), none, .op (.mv (.t 114))⟩] [])
  .ret))))))
theorem fn17 : Fn2 Try.prog 17 115 [2] fc17 := ⟨_, _, Try.func17, rfl, rfl, rfl, by kernel_rfl⟩
/- windlass/tables.row -/
def fc19 : FC := (.seq (.reg [⟨(some 2), none, .op (.box (.t 0))⟩,
    ⟨(some 4), none, .op (.mv (.v (.bool false)))⟩] [])
  (.seq (.seq (.reg [⟨(some 10), none, .op (.fad 0 (.t 2))⟩,
    ⟨(some 11), none, .op (.load none (.t 10))⟩,
    ⟨(some 12), none, .op (.mv (.t 1))⟩,
    ⟨(some 13), none, .op (.bin .none .lss (.t 11) (.t 12))⟩,
    ⟨(some 14), none, .op (.mv (.t 13))⟩,
    ⟨(some 15), some (14, false), .op (.fad 1 (.t 2))⟩,
    ⟨(some 16), some (14, false), .op (.load none (.t 15))⟩,
    ⟨(some 17), some (14, false), .op (.fad 0 (.t 2))⟩,
    ⟨(some 18), some (14, false), .op (.load none (.t 17))⟩,
    ⟨(some 19), some (14, false), .op (.bin .none .leq (.t 16) (.t 18))⟩,
    ⟨(some 20), none, .op (.pick (.t 14) (.v (.bool true)) (.t 19))⟩,
    ⟨(some 21), none, .op (.mv (.t 20))⟩,
    ⟨(some 22), some (21, false), .op (.fad 1 (.t 2))⟩,
    ⟨(some 23), some (21, false), .op (.load none (.t 22))⟩,
    ⟨(some 24), some (21, false), .op (.bin .none .gtr (.t 23) (.v (.int .i64 1048576)))⟩,
    ⟨(some 25), none, .op (.pick (.t 21) (.v (.bool true)) (.t 24))⟩,
    ⟨(some 26), none, .op (.mv (.t 25))⟩,
    ⟨(some 27), some (26, false), .op (.fad 2 (.t 2))⟩,
    ⟨(some 28), some (26, false), .op (.load none (.t 27))⟩,
    ⟨(some 29), some (26, false), .op (.bin .none .lss (.t 28) (.v (.int .i64 0)))⟩,
    ⟨(some 30), none, .op (.pick (.t 26) (.v (.bool true)) (.t 29))⟩,
    ⟨(some 31), none, .op (.mv (.t 30))⟩,
    ⟨(some 32), some (31, false), .op (.fad 2 (.t 2))⟩,
    ⟨(some 33), some (31, false), .op (.load none (.t 32))⟩,
    ⟨(some 34), some (31, false), .op (.bin .none .gtr (.t 33) (.v (.int .i64 65536)))⟩,
    ⟨(some 35), none, .op (.pick (.t 31) (.v (.bool true)) (.t 34))⟩,
    ⟨(some 36), none, .op (.mv (.t 35))⟩,
    ⟨(some 37), some (36, false), .op (.fad 2 (.t 2))⟩,
    ⟨(some 38), some (36, false), .op (.load none (.t 37))⟩,
    ⟨(some 39), some (36, false), .op (.bin .none .rem (.t 38) (.v (.int .i64 8)))⟩,
    ⟨(some 40), some (36, false), .op (.bin .none .neq (.t 39) (.v (.int .i64 0)))⟩,
    ⟨(some 41), none, .op (.pick (.t 36) (.v (.bool true)) (.t 40))⟩,
    ⟨(some 42), none, .op (.mv (.t 41))⟩,
    ⟨(some 43), some (42, false), .op (.fad 3 (.t 2))⟩,
    ⟨(some 44), some (42, false), .op (.load none (.t 43))⟩,
    ⟨(some 45), some (42, false), .op (.len .sl (.t 44))⟩,
    ⟨(some 46), some (42, false), .op (.bin .none .gtr (.t 45) (.v (.int .i64 4)))⟩,
    ⟨(some 47), none, .op (.pick (.t 42) (.v (.bool true)) (.t 46))⟩] [])
  (.cond (.t 47)
    (.seq (.reg [⟨(some 4), none, .op (.mv (.v (.bool false)))⟩] [])
    .ret)
    .skip))
  (.seq (.seq (.reg [⟨(some 48), none, .op (.fad 5 (.t 2))⟩,
    ⟨(some 49), none, .op (.load none (.t 48))⟩,
    ⟨(some 50), none, .op (.bin .none .neq (.t 49) (.v (.int .i64 (-1))))⟩,
    ⟨(some 51), none, .op (.mv (.t 50))⟩,
    ⟨(some 52), some (51, true), .op (.fad 5 (.t 2))⟩,
    ⟨(some 53), some (51, true), .op (.load none (.t 52))⟩,
    ⟨(some 54), some (51, true), .op (.fad 0 (.t 2))⟩,
    ⟨(some 55), some (51, true), .op (.load none (.t 54))⟩,
    ⟨(some 56), some (51, true), .op (.bin .none .lss (.t 53) (.t 55))⟩,
    ⟨(some 57), some (51, true), .op (.mv (.t 56))⟩,
    ⟨(some 58), some (57, false), .op (.fad 5 (.t 2))⟩,
    ⟨(some 59), some (57, false), .op (.load none (.t 58))⟩,
    ⟨(some 60), some (57, false), .op (.fad 1 (.t 2))⟩,
    ⟨(some 61), some (57, false), .op (.load none (.t 60))⟩,
    ⟨(some 62), some (57, false), .op (.bin .none .geq (.t 59) (.t 61))⟩,
    ⟨(some 63), some (51, true), .op (.pick (.t 57) (.v (.bool true)) (.t 62))⟩,
    ⟨(some 64), none, .op (.pick (.t 51) (.t 63) (.v (.bool false)))⟩] [])
  (.cond (.t 64)
    (.seq (.reg [⟨(some 4), none, .op (.mv (.v (.bool false)))⟩] [])
    .ret)
    .skip))
  (.seq (.seq (.reg [⟨(some 65), none, .op (.fad 3 (.t 2))⟩,
    ⟨(some 66), none, .op (.load none (.t 65))⟩,
    ⟨(some 67), none, .op (.len .sl (.t 66))⟩,
    ⟨(some 68), none, .op (.mv (.v (.int .i64 0)))⟩] [])
  (.block 0 (.loop (.seq (.reg [⟨(some 69), none, .op (.bin .none .lss (.t 68) (.t 67))⟩] [])
    (.seq (.cond (.t 69)
      .skip
      (.exit 0))
    (.seq (.block 1 (.seq (.reg [⟨(some 70), none, .op (.iad none none (.t 66) (.t 68))⟩,
       ⟨(some 71), none, .op (.load none (.t 70))⟩,
       ⟨(some 6), none, .op (.mv (.t 71))⟩] [])
     (.seq (.reg [⟨(some 72), none, .op (.mv (.t 6))⟩,
       ⟨(some 73), none, .op (.bin .none .gtr (.t 72) (.v (.int .u8 1)))⟩] [])
     (.cond (.t 73)
       (.seq (.reg [⟨(some 4), none, .op (.mv (.v (.bool false)))⟩] [])
       .ret)
       .skip))))
    (.reg [⟨(some 74), none, .op (.bin .none .add (.t 68) (.v (.int .i64 1)))⟩,
      ⟨(some 68), none, .op (.mv (.t 74))⟩] [])))))))
  (.seq (.reg [⟨(some 7), none, .op (.mv (.v (.int .i64 5)))⟩] [])
  (.seq (.seq (.reg [⟨(some 75), none, .op (.fad 4 (.t 2))⟩,
    ⟨(some 76), none, .op (.load none (.t 75))⟩,
    ⟨(some 77), none, .op (.len .sl (.t 76))⟩,
    ⟨(some 78), none, .op (.mv (.v (.int .i64 0)))⟩] [])
  (.block 2 (.loop (.seq (.reg [⟨(some 79), none, .op (.bin .none .lss (.t 78) (.t 77))⟩] [])
    (.seq (.cond (.t 79)
      .skip
      (.exit 2))
    (.seq (.block 3 (.seq (.reg [⟨(some 80), none, .op (.iad none (some 2) (.t 76) (.t 78))⟩,
       ⟨(some 81), none, .op (.load (some 2) (.t 80))⟩,
       ⟨(some 9), none, .op (.new [(.int .i64 0), (.int .i64 0)])⟩,
       ⟨none, none, .op (.store 2 (.t 9) (.t 81))⟩] [])
     (.seq (.seq (.reg [⟨(some 82), none, .op (.fad 0 (.t 9))⟩,
       ⟨(some 83), none, .op (.load none (.t 82))⟩,
       ⟨(some 84), none, .op (.mv (.t 7))⟩,
       ⟨(some 85), none, .op (.bin .none .leq (.t 83) (.t 84))⟩,
       ⟨(some 86), none, .op (.mv (.t 85))⟩,
       ⟨(some 87), some (86, false), .op (.fad 0 (.t 9))⟩,
       ⟨(some 88), some (86, false), .op (.load none (.t 87))⟩,
       ⟨(some 89), some (86, false), .op (.bin .none .geq (.t 88) (.v (.int .i64 12)))⟩,
       ⟨(some 90), none, .op (.pick (.t 86) (.v (.bool true)) (.t 89))⟩,
       ⟨(some 91), none, .op (.mv (.t 90))⟩,
       ⟨(some 92), some (91, false), .op (.fad 1 (.t 9))⟩,
       ⟨(some 93), some (91, false), .op (.load none (.t 92))⟩,
       ⟨(some 94), some (91, false), .op (.fad 2 (.t 2))⟩,
       ⟨(some 95), some (91, false), .op (.load none (.t 94))⟩,
       ⟨(some 96), some (91, false), .call 21 [(.t 93), (.t 95)]⟩,
       ⟨(some 97), some (91, false), .op (.un .not (.t 96))⟩,
       ⟨(some 98), none, .op (.pick (.t 91) (.v (.bool true)) (.t 97))⟩] [])
     (.cond (.t 98)
       (.seq (.reg [⟨(some 4), none, .op (.mv (.v (.bool false)))⟩] [])
       .ret)
       .skip))
     (.reg [⟨(some 99), none, .op (.fad 0 (.t 9))⟩,
       ⟨(some 100), none, .op (.load none (.t 99))⟩,
       ⟨(some 7), none, .op (.mv (.t 100))⟩] []))))
    (.reg [⟨(some 101), none, .op (.bin .none .add (.t 78) (.v (.int .i64 1)))⟩,
      ⟨(some 78), none, .op (.mv (.t 101))⟩] [])))))))
  (.seq (.reg [⟨(some 4), none, .op (.mv (.v (.bool true)))⟩] [])
  .ret)))))))
theorem fn19 : Fn2 Try.prog 19 102 [4] fc19 := ⟨_, _, Try.func19, rfl, rfl, rfl, by kernel_rfl⟩
/- windlass/tables.owner -/
def fc20 : FC := (.seq (.reg [⟨(some 2), none, .op (.box (.t 0))⟩,
    ⟨(some 4), none, .op (.mv (.v (.int .i64 0)))⟩] [])
  (.seq (.seq (.reg [⟨(some 7), none, .op (.fad 0 (.t 2))⟩,
    ⟨(some 8), none, .op (.load none (.t 7))⟩,
    ⟨(some 9), none, .op (.len .sl (.t 8))⟩,
    ⟨(some 10), none, .op (.mv (.v (.int .i64 0)))⟩] [])
  (.block 0 (.loop (.seq (.reg [⟨(some 11), none, .op (.bin .none .lss (.t 10) (.t 9))⟩] [])
    (.seq (.cond (.t 11)
      .skip
      (.exit 0))
    (.seq (.block 1 (.seq (.reg [⟨(some 12), none, .op (.mv (.t 10))⟩,
       ⟨(some 13), none, .op (.iad none (some 6) (.t 8) (.t 10))⟩,
       ⟨(some 14), none, .op (.load (some 6) (.t 13))⟩,
       ⟨(some 6), none, .op (.new [(.int .i64 0), (.int .i64 0), (.int .i64 0), .nils, .nils, (.int .i64 0)])⟩,
       ⟨(some 5), none, .op (.mv (.t 12))⟩,
       ⟨none, none, .op (.store 6 (.t 6) (.t 14))⟩] [])
     (.seq (.reg [⟨(some 15), none, .op (.mv (.t 1))⟩,
       ⟨(some 16), none, .op (.fad 0 (.t 6))⟩,
       ⟨(some 17), none, .op (.load none (.t 16))⟩,
       ⟨(some 18), none, .op (.bin .none .gtr (.t 15) (.t 17))⟩,
       ⟨(some 19), none, .op (.mv (.t 18))⟩,
       ⟨(some 20), some (19, true), .op (.mv (.t 1))⟩,
       ⟨(some 21), some (19, true), .op (.fad 1 (.t 6))⟩,
       ⟨(some 22), some (19, true), .op (.load none (.t 21))⟩,
       ⟨(some 23), some (19, true), .op (.bin .none .leq (.t 20) (.t 22))⟩,
       ⟨(some 24), none, .op (.pick (.t 19) (.t 23) (.v (.bool false)))⟩] [])
     (.cond (.t 24)
       (.seq (.reg [⟨(some 25), none, .op (.mv (.t 5))⟩,
         ⟨(some 4), none, .op (.mv (.t 25))⟩] [])
       .ret)
       .skip))))
    (.reg [⟨(some 26), none, .op (.bin .none .add (.t 10) (.v (.int .i64 1)))⟩,
      ⟨(some 10), none, .op (.mv (.t 26))⟩] [])))))))
  (.seq (.reg [⟨(some 4), none, .op (.mv (.v (.int .i64 (-1))))⟩] [])
  .ret)))
theorem fn20 : Fn2 Try.prog 20 27 [4] fc20 := ⟨_, _, Try.func20, rfl, rfl, rfl, by kernel_rfl⟩
/- windlass/tables.offset -/
def fc21 : FC := (.seq (.reg [⟨(some 4), none, .op (.mv (.v (.bool false)))⟩] [])
  (.seq (.reg [⟨(some 5), none, .op (.mv (.t 0))⟩,
    ⟨(some 6), none, .op (.bin .none .geq (.t 5) (.v (.int .i64 0)))⟩,
    ⟨(some 7), none, .op (.mv (.t 6))⟩,
    ⟨(some 8), some (7, true), .op (.mv (.t 0))⟩,
    ⟨(some 9), some (7, true), .op (.mv (.t 1))⟩,
    ⟨(some 10), some (7, true), .op (.bin .none .lss (.t 8) (.t 9))⟩,
    ⟨(some 11), none, .op (.pick (.t 7) (.t 10) (.v (.bool false)))⟩,
    ⟨(some 12), none, .op (.mv (.t 11))⟩,
    ⟨(some 13), some (12, true), .op (.mv (.t 0))⟩,
    ⟨(some 14), some (12, true), .op (.bin .none .rem (.t 13) (.v (.int .i64 8)))⟩,
    ⟨(some 15), some (12, true), .op (.bin .none .eql (.t 14) (.v (.int .i64 0)))⟩,
    ⟨(some 16), none, .op (.pick (.t 12) (.t 15) (.v (.bool false)))⟩,
    ⟨(some 4), none, .op (.mv (.t 16))⟩] [])
  .ret))
theorem fn21 : Fn2 Try.prog 21 17 [4] fc21 := ⟨_, _, Try.func21, rfl, rfl, rfl, by kernel_rfl⟩
/- slices.BinarySearchFunc[[]windlass/api.FuncRow,windlass/api.FuncRow,int] -/
def fc22 : FC := (.seq (.reg [⟨(some 6), none, .op (.mv (.v (.int .i64 0)))⟩,
    ⟨(some 7), none, .op (.mv (.v (.bool false)))⟩] [])
  (.seq (.reg [⟨(some 12), none, .op (.mv (.t 0))⟩,
    ⟨(some 13), none, .op (.len .sl (.t 12))⟩,
    ⟨(some 8), none, .op (.mv (.t 13))⟩] [])
  (.seq (.reg [⟨(some 14), none, .op (.mv (.t 8))⟩,
    ⟨(some 9), none, .op (.mv (.v (.int .i64 0)))⟩,
    ⟨(some 10), none, .op (.mv (.t 14))⟩] [])
  (.seq (.block 0 (.loop (.seq (.seq (.reg [⟨(some 15), none, .op (.mv (.t 9))⟩,
      ⟨(some 16), none, .op (.mv (.t 10))⟩,
      ⟨(some 17), none, .op (.bin .none .lss (.t 15) (.t 16))⟩] [])
    (.cond (.t 17)
      .skip
      (.exit 0)))
    (.block 1 (.seq (.reg [⟨(some 18), none, .op (.mv (.t 9))⟩,
       ⟨(some 19), none, .op (.mv (.t 10))⟩,
       ⟨(some 20), none, .op (.bin .none .add (.t 18) (.t 19))⟩,
       ⟨(some 21), none, .op (.cint .u64 (.t 20))⟩,
       ⟨(some 22), none, .op (.bin .none .shr (.t 21) (.v (.int .u64 1)))⟩,
       ⟨(some 23), none, .op (.cint .i64 (.t 22))⟩,
       ⟨(some 11), none, .op (.mv (.t 23))⟩] [])
     (.seq (.reg [⟨(some 24), none, .op (.mv (.t 2))⟩,
       ⟨(some 25), none, .op (.mv (.t 0))⟩,
       ⟨(some 26), none, .op (.mv (.t 11))⟩,
       ⟨(some 27), none, .op (.iad none (some 6) (.t 25) (.t 26))⟩,
       ⟨(some 28), none, .op (.load (some 6) (.t 27))⟩,
       ⟨(some 29), none, .op (.mv (.t 1))⟩,
       ⟨(some 30), none, .callv (.t 24) [(.t 28), (.t 29)]⟩,
       ⟨(some 31), none, .op (.bin .none .lss (.t 30) (.v (.int .i64 0)))⟩] [])
     (.cond (.t 31)
       (.reg [⟨(some 32), none, .op (.mv (.t 11))⟩,
         ⟨(some 33), none, .op (.bin .none .add (.t 32) (.v (.int .i64 1)))⟩,
         ⟨(some 9), none, .op (.mv (.t 33))⟩] [])
       (.reg [⟨(some 34), none, .op (.mv (.t 11))⟩,
         ⟨(some 10), none, .op (.mv (.t 34))⟩] []))))))))
  (.seq (.reg [⟨(some 35), none, .op (.mv (.t 9))⟩,
    ⟨(some 36), none, .op (.mv (.t 9))⟩,
    ⟨(some 37), none, .op (.mv (.t 8))⟩,
    ⟨(some 38), none, .op (.bin .none .lss (.t 36) (.t 37))⟩,
    ⟨(some 39), none, .op (.mv (.t 38))⟩,
    ⟨(some 40), some (39, true), .op (.mv (.t 2))⟩,
    ⟨(some 41), some (39, true), .op (.mv (.t 0))⟩,
    ⟨(some 42), some (39, true), .op (.mv (.t 9))⟩,
    ⟨(some 43), some (39, true), .op (.iad none (some 6) (.t 41) (.t 42))⟩,
    ⟨(some 44), some (39, true), .op (.load (some 6) (.t 43))⟩,
    ⟨(some 45), some (39, true), .op (.mv (.t 1))⟩,
    ⟨(some 46), some (39, true), .callv (.t 40) [(.t 44), (.t 45)]⟩,
    ⟨(some 47), some (39, true), .op (.bin .none .eql (.t 46) (.v (.int .i64 0)))⟩,
    ⟨(some 48), none, .op (.pick (.t 39) (.t 47) (.v (.bool false)))⟩,
    ⟨(some 6), none, .op (.mv (.t 35))⟩,
    ⟨(some 7), none, .op (.mv (.t 48))⟩] [])
  .ret)))))
theorem fn22 : Fn2 Try.prog 22 49 [6, 7] fc22 := ⟨_, _, Try.func22, rfl, rfl, rfl, by kernel_rfl⟩
/- windlass/tables.Func$1 -/
def fc23 : FC := (.seq (.reg [⟨(some 2), none, .op (.box (.t 0))⟩,
    ⟨(some 4), none, .op (.mv (.v (.int .i64 0)))⟩] [])
  (.seq (.reg [⟨(some 5), none, .op (.fad 0 (.t 2))⟩,
    ⟨(some 6), none, .op (.load none (.t 5))⟩,
    ⟨(some 7), none, .op (.mv (.t 1))⟩,
    ⟨(some 8), none, .call 24 [(.t 6), (.t 7)]⟩,
    ⟨(some 4), none, .op (.mv (.t 8))⟩] [])
  .ret))
theorem fn23 : Fn2 Try.prog 23 9 [4] fc23 := ⟨_, _, Try.func23, rfl, rfl, rfl, by kernel_rfl⟩
/- cmp.Compare[int] -/
def fc24 : FC := (.seq (.reg [⟨(some 4), none, .op (.mv (.v (.int .i64 0)))⟩] [])
  (.seq (.reg [⟨(some 7), none, .op (.mv (.t 0))⟩,
    ⟨(some 8), none, .call 34 [(.t 7)]⟩,
    ⟨(some 5), none, .op (.mv (.t 8))⟩] [])
  (.seq (.reg [⟨(some 9), none, .op (.mv (.t 1))⟩,
    ⟨(some 10), none, .call 34 [(.t 9)]⟩,
    ⟨(some 6), none, .op (.mv (.t 10))⟩] [])
  (.seq (.seq (.reg [⟨(some 11), none, .op (.mv (.t 5))⟩] [])
  (.cond (.t 11)
    (.seq (.seq (.reg [⟨(some 12), none, .op (.mv (.t 6))⟩] [])
    (.cond (.t 12)
      (.seq (.reg [⟨(some 4), none, .op (.mv (.v (.int .i64 0)))⟩] [])
      .ret)
      .skip))
    (.seq (.reg [⟨(some 4), none, .op (.mv (.v (.int .i64 (-1))))⟩] [])
    .ret))
    .skip))
  (.seq (.seq (.reg [⟨(some 13), none, .op (.mv (.t 6))⟩] [])
  (.cond (.t 13)
    (.seq (.reg [⟨(some 4), none, .op (.mv (.v (.int .i64 1)))⟩] [])
    .ret)
    .skip))
  (.seq (.seq (.reg [⟨(some 14), none, .op (.mv (.t 0))⟩,
    ⟨(some 15), none, .op (.mv (.t 1))⟩,
    ⟨(some 16), none, .op (.bin .none .lss (.t 14) (.t 15))⟩] [])
  (.cond (.t 16)
    (.seq (.reg [⟨(some 4), none, .op (.mv (.v (.int .i64 (-1))))⟩] [])
    .ret)
    .skip))
  (.seq (.seq (.reg [⟨(some 17), none, .op (.mv (.t 0))⟩,
    ⟨(some 18), none, .op (.mv (.t 1))⟩,
    ⟨(some 19), none, .op (.bin .none .gtr (.t 17) (.t 18))⟩] [])
  (.cond (.t 19)
    (.seq (.reg [⟨(some 4), none, .op (.mv (.v (.int .i64 1)))⟩] [])
    .ret)
    .skip))
  (.seq (.reg [⟨(some 4), none, .op (.mv (.v (.int .i64 0)))⟩] [])
  .ret))))))))
theorem fn24 : Fn2 Try.prog 24 20 [4] fc24 := ⟨_, _, Try.func24, rfl, rfl, rfl, by kernel_rfl⟩
/- windlass/windlassref19.word -/
def fc25 : FC := (.seq (.reg [⟨(some 4), none, .op (.mv (.v (.bool false)))⟩] [])
  (.seq (.reg [⟨(some 5), none, .op (.mv (.t 0))⟩,
    ⟨(some 6), none, .op (.bin .none .geq (.t 5) (.v (.int .i64 0)))⟩,
    ⟨(some 7), none, .op (.mv (.t 6))⟩,
    ⟨(some 8), some (7, true), .op (.mv (.t 0))⟩,
    ⟨(some 9), some (7, true), .op (.mv (.t 1))⟩,
    ⟨(some 10), some (7, true), .op (.bin .none .lss (.t 8) (.t 9))⟩,
    ⟨(some 11), none, .op (.pick (.t 7) (.t 10) (.v (.bool false)))⟩,
    ⟨(some 12), none, .op (.mv (.t 11))⟩,
    ⟨(some 13), some (12, true), .op (.mv (.t 0))⟩,
    ⟨(some 14), some (12, true), .op (.bin .none .rem (.t 13) (.v (.int .i64 8)))⟩,
    ⟨(some 15), some (12, true), .op (.bin .none .eql (.t 14) (.v (.int .i64 0)))⟩,
    ⟨(some 16), none, .op (.pick (.t 12) (.t 15) (.v (.bool false)))⟩,
    ⟨(some 4), none, .op (.mv (.t 16))⟩] [])
  .ret))
theorem fn25 : Fn2 Try.prog 25 17 [4] fc25 := ⟨_, _, Try.func25, rfl, rfl, rfl, by kernel_rfl⟩
/- windlass/windlassref19.Owner -/
def fc26 : FC := (.seq (.reg [⟨(some 2), none, .op (.box (.t 0))⟩,
    ⟨(some 4), none, .op (.mv (.v (.int .i64 0)))⟩] [])
  (.seq (.seq (.reg [⟨(some 6), none, .op (.fad 0 (.t 2))⟩,
    ⟨(some 7), none, .op (.load none (.t 6))⟩,
    ⟨(some 8), none, .op (.len .sl (.t 7))⟩,
    ⟨(some 9), none, .op (.mv (.v (.int .i64 0)))⟩] [])
  (.block 0 (.loop (.seq (.reg [⟨(some 10), none, .op (.bin .none .lss (.t 9) (.t 8))⟩] [])
    (.seq (.cond (.t 10)
      .skip
      (.exit 0))
    (.seq (.block 1 (.seq (.reg [⟨(some 11), none, .op (.mv (.t 9))⟩,
       ⟨(some 5), none, .op (.mv (.t 11))⟩] [])
     (.seq (.reg [⟨(some 12), none, .op (.fad 0 (.t 2))⟩,
       ⟨(some 13), none, .op (.load none (.t 12))⟩,
       ⟨(some 14), none, .op (.mv (.t 5))⟩,
       ⟨(some 15), none, .op (.iad none (some 6) (.t 13) (.t 14))⟩,
       ⟨(some 16), none, .op (.fad 0 (.t 15))⟩,
       ⟨(some 17), none, .op (.load none (.t 16))⟩,
       ⟨(some 18), none, .op (.mv (.t 1))⟩,
       ⟨(some 19), none, .op (.bin .none .lss (.t 17) (.t 18))⟩,
       ⟨(some 20), none, .op (.mv (.t 19))⟩,
       ⟨(some 21), some (20, true), .op (.mv (.t 1))⟩,
       ⟨(some 22), some (20, true), .op (.fad 0 (.t 2))⟩,
       ⟨(some 23), some (20, true), .op (.load none (.t 22))⟩,
       ⟨(some 24), some (20, true), .op (.mv (.t 5))⟩,
       ⟨(some 25), some (20, true), .op (.iad none (some 6) (.t 23) (.t 24))⟩,
       ⟨(some 26), some (20, true), .op (.fad 1 (.t 25))⟩,
       ⟨(some 27), some (20, true), .op (.load none (.t 26))⟩,
       ⟨(some 28), some (20, true), .op (.bin .none .leq (.t 21) (.t 27))⟩,
       ⟨(some 29), none, .op (.pick (.t 20) (.t 28) (.v (.bool false)))⟩] [])
     (.cond (.t 29)
       (.seq (.reg [⟨(some 30), none, .op (.mv (.t 5))⟩,
         ⟨(some 4), none, .op (.mv (.t 30))⟩] [])
       .ret)
       .skip))))
    (.reg [⟨(some 31), none, .op (.bin .none .add (.t 9) (.v (.int .i64 1)))⟩,
      ⟨(some 9), none, .op (.mv (.t 31))⟩] [])))))))
  (.seq (.reg [⟨(some 4), none, .op (.mv (.v (.int .i64 (-1))))⟩] [])
  .ret)))
theorem fn26 : Fn2 Try.prog 26 32 [4] fc26 := ⟨_, _, Try.func26, rfl, rfl, rfl, by kernel_rfl⟩
/- slices.BinarySearchFunc[[]windlass/api.Site,windlass/api.Site,int] -/
def fc27 : FC := (.seq (.reg [⟨(some 6), none, .op (.mv (.v (.int .i64 0)))⟩,
    ⟨(some 7), none, .op (.mv (.v (.bool false)))⟩] [])
  (.seq (.reg [⟨(some 12), none, .op (.mv (.t 0))⟩,
    ⟨(some 13), none, .op (.len .sl (.t 12))⟩,
    ⟨(some 8), none, .op (.mv (.t 13))⟩] [])
  (.seq (.reg [⟨(some 14), none, .op (.mv (.t 8))⟩,
    ⟨(some 9), none, .op (.mv (.v (.int .i64 0)))⟩,
    ⟨(some 10), none, .op (.mv (.t 14))⟩] [])
  (.seq (.block 0 (.loop (.seq (.seq (.reg [⟨(some 15), none, .op (.mv (.t 9))⟩,
      ⟨(some 16), none, .op (.mv (.t 10))⟩,
      ⟨(some 17), none, .op (.bin .none .lss (.t 15) (.t 16))⟩] [])
    (.cond (.t 17)
      .skip
      (.exit 0)))
    (.block 1 (.seq (.reg [⟨(some 18), none, .op (.mv (.t 9))⟩,
       ⟨(some 19), none, .op (.mv (.t 10))⟩,
       ⟨(some 20), none, .op (.bin .none .add (.t 18) (.t 19))⟩,
       ⟨(some 21), none, .op (.cint .u64 (.t 20))⟩,
       ⟨(some 22), none, .op (.bin .none .shr (.t 21) (.v (.int .u64 1)))⟩,
       ⟨(some 23), none, .op (.cint .i64 (.t 22))⟩,
       ⟨(some 11), none, .op (.mv (.t 23))⟩] [])
     (.seq (.reg [⟨(some 24), none, .op (.mv (.t 2))⟩,
       ⟨(some 25), none, .op (.mv (.t 0))⟩,
       ⟨(some 26), none, .op (.mv (.t 11))⟩,
       ⟨(some 27), none, .op (.iad none (some 2) (.t 25) (.t 26))⟩,
       ⟨(some 28), none, .op (.load (some 2) (.t 27))⟩,
       ⟨(some 29), none, .op (.mv (.t 1))⟩,
       ⟨(some 30), none, .callv (.t 24) [(.t 28), (.t 29)]⟩,
       ⟨(some 31), none, .op (.bin .none .lss (.t 30) (.v (.int .i64 0)))⟩] [])
     (.cond (.t 31)
       (.reg [⟨(some 32), none, .op (.mv (.t 11))⟩,
         ⟨(some 33), none, .op (.bin .none .add (.t 32) (.v (.int .i64 1)))⟩,
         ⟨(some 9), none, .op (.mv (.t 33))⟩] [])
       (.reg [⟨(some 34), none, .op (.mv (.t 11))⟩,
         ⟨(some 10), none, .op (.mv (.t 34))⟩] []))))))))
  (.seq (.reg [⟨(some 35), none, .op (.mv (.t 9))⟩,
    ⟨(some 36), none, .op (.mv (.t 9))⟩,
    ⟨(some 37), none, .op (.mv (.t 8))⟩,
    ⟨(some 38), none, .op (.bin .none .lss (.t 36) (.t 37))⟩,
    ⟨(some 39), none, .op (.mv (.t 38))⟩,
    ⟨(some 40), some (39, true), .op (.mv (.t 2))⟩,
    ⟨(some 41), some (39, true), .op (.mv (.t 0))⟩,
    ⟨(some 42), some (39, true), .op (.mv (.t 9))⟩,
    ⟨(some 43), some (39, true), .op (.iad none (some 2) (.t 41) (.t 42))⟩,
    ⟨(some 44), some (39, true), .op (.load (some 2) (.t 43))⟩,
    ⟨(some 45), some (39, true), .op (.mv (.t 1))⟩,
    ⟨(some 46), some (39, true), .callv (.t 40) [(.t 44), (.t 45)]⟩,
    ⟨(some 47), some (39, true), .op (.bin .none .eql (.t 46) (.v (.int .i64 0)))⟩,
    ⟨(some 48), none, .op (.pick (.t 39) (.t 47) (.v (.bool false)))⟩,
    ⟨(some 6), none, .op (.mv (.t 35))⟩,
    ⟨(some 7), none, .op (.mv (.t 48))⟩] [])
  .ret)))))
theorem fn27 : Fn2 Try.prog 27 49 [6, 7] fc27 := ⟨_, _, Try.func27, rfl, rfl, rfl, by kernel_rfl⟩
/- windlass/tables.Site$1 -/
def fc28 : FC := (.seq (.reg [⟨(some 2), none, .op (.box (.t 0))⟩,
    ⟨(some 4), none, .op (.mv (.v (.int .i64 0)))⟩] [])
  (.seq (.reg [⟨(some 5), none, .op (.fad 0 (.t 2))⟩,
    ⟨(some 6), none, .op (.load none (.t 5))⟩,
    ⟨(some 7), none, .op (.mv (.t 1))⟩,
    ⟨(some 8), none, .call 24 [(.t 6), (.t 7)]⟩,
    ⟨(some 4), none, .op (.mv (.t 8))⟩] [])
  .ret))
theorem fn28 : Fn2 Try.prog 28 9 [4] fc28 := ⟨_, _, Try.func28, rfl, rfl, rfl, by kernel_rfl⟩
/- windlass/tables.number -/
def fc29 : FC := (.seq (.reg [⟨(some 4), none, .op (.mv (.v .nils))⟩] [])
  (.seq (.reg [⟨(some 5), none, .op (.mv (.t 0))⟩,
    ⟨(some 6), none, .op (.mv (.t 1))⟩,
    ⟨(some 7), none, .op (.cint .u8 (.t 6))⟩,
    ⟨(some 8), none, .op (.mv (.t 1))⟩,
    ⟨(some 9), none, .op (.bin .none .shr (.t 8) (.v (.int .u64 8)))⟩,
    ⟨(some 10), none, .op (.cint .u8 (.t 9))⟩,
    ⟨(some 11), none, .op (.mv (.t 1))⟩,
    ⟨(some 12), none, .op (.bin .none .shr (.t 11) (.v (.int .u64 16)))⟩,
    ⟨(some 13), none, .op (.cint .u8 (.t 12))⟩,
    ⟨(some 14), none, .op (.mv (.t 1))⟩,
    ⟨(some 15), none, .op (.bin .none .shr (.t 14) (.v (.int .u64 24)))⟩,
    ⟨(some 16), none, .op (.cint .u8 (.t 15))⟩,
    ⟨(some 17), none, .op (.bsl none [(.int .u8 0)] 4 [(0, 1, (.t 7)), (1, 1, (.t 10)), (2, 1, (.t 13)), (3, 1, (.t 16))])⟩,
    ⟨(some 18), none, .op (.app none 1 (.t 5) (.t 17))⟩,
    ⟨(some 4), none, .op (.mv (.t 18))⟩] [])
  .ret))
theorem fn29 : Fn2 Try.prog 29 19 [4] fc29 := ⟨_, _, Try.func29, rfl, rfl, rfl, by kernel_rfl⟩
/- (*windlass/tables.reader).count -/
def fc30 : FC := (.seq (.reg [⟨(some 2), none, .op (.mv (.v (.int .i64 0)))⟩] [])
  (.seq (.reg [⟨(some 4), none, .op (.mv (.t 0))⟩,
    ⟨(some 5), none, .call 31 [(.t 4)]⟩,
    ⟨(some 3), none, .op (.mv (.t 5))⟩] [])
  (.seq (.seq (.reg [⟨(some 6), none, .op (.mv (.t 3))⟩,
    ⟨(some 7), none, .op (.mv (.t 0))⟩,
    ⟨(some 8), none, .op (.nchk (.t 7))⟩,
    ⟨(some 9), none, .op (.fad 0 (.t 8))⟩,
    ⟨(some 10), none, .op (.load none (.t 9))⟩,
    ⟨(some 11), none, .op (.len .sl (.t 10))⟩,
    ⟨(some 12), none, .op (.bin .none .quo (.t 11) (.v (.int .i64 4)))⟩,
    ⟨(some 13), none, .op (.bin .none .gtr (.t 6) (.t 12))⟩] [])
  (.cond (.t 13)
    (.seq (.reg [⟨(some 14), none, .op (.mv (.t 0))⟩,
      ⟨(some 15), none, .op (.nchk (.t 14))⟩,
      ⟨(some 16), none, .op (.fad 1 (.t 15))⟩,
      ⟨none, none, .op (.store 1 (.t 16) (.v (.bool true)))⟩] [])
    (.seq (.reg [⟨(some 2), none, .op (.mv (.v (.int .i64 0)))⟩] [])
    .ret))
    .skip))
  (.seq (.reg [⟨(some 17), none, .op (.mv (.t 3))⟩,
    ⟨(some 2), none, .op (.mv (.t 17))⟩] [])
  .ret))))
theorem fn30 : Fn2 Try.prog 30 18 [2] fc30 := ⟨_, _, Try.func30, rfl, rfl, rfl, by kernel_rfl⟩
/- (*windlass/tables.reader).number -/
def fc31 : FC := (.seq (.reg [⟨(some 2), none, .op (.mv (.v (.int .i64 0)))⟩] [])
  (.seq (.seq (.reg [⟨(some 4), none, .op (.mv (.t 0))⟩,
    ⟨(some 5), none, .op (.nchk (.t 4))⟩,
    ⟨(some 6), none, .op (.fad 1 (.t 5))⟩,
    ⟨(some 7), none, .op (.load none (.t 6))⟩,
    ⟨(some 8), none, .op (.mv (.t 7))⟩,
    ⟨(some 9), some (8, false), .op (.mv (.t 0))⟩,
    ⟨(some 10), some (8, false), .op (.nchk (.t 9))⟩,
    ⟨(some 11), some (8, false), .op (.fad 0 (.t 10))⟩,
    ⟨(some 12), some (8, false), .op (.load none (.t 11))⟩,
    ⟨(some 13), some (8, false), .op (.len .sl (.t 12))⟩,
    ⟨(some 14), some (8, false), .op (.bin .none .lss (.t 13) (.v (.int .i64 4)))⟩,
    ⟨(some 15), none, .op (.pick (.t 8) (.v (.bool true)) (.t 14))⟩] [])
  (.cond (.t 15)
    (.seq (.reg [⟨(some 16), none, .op (.mv (.t 0))⟩,
      ⟨(some 17), none, .op (.nchk (.t 16))⟩,
      ⟨(some 18), none, .op (.fad 1 (.t 17))⟩,
      ⟨none, none, .op (.store 1 (.t 18) (.v (.bool true)))⟩] [])
    (.seq (.reg [⟨(some 2), none, .op (.mv (.v (.int .i64 0)))⟩] [])
    .ret))
    .skip))
  (.seq (.reg [⟨(some 19), none, .op (.mv (.t 0))⟩,
    ⟨(some 20), none, .op (.nchk (.t 19))⟩,
    ⟨(some 21), none, .op (.fad 0 (.t 20))⟩,
    ⟨(some 22), none, .op (.load none (.t 21))⟩,
    ⟨(some 23), none, .op (.iad none none (.t 22) (.v (.int .i64 0)))⟩,
    ⟨(some 24), none, .op (.load none (.t 23))⟩,
    ⟨(some 25), none, .op (.cint .i64 (.t 24))⟩,
    ⟨(some 26), none, .op (.mv (.t 0))⟩,
    ⟨(some 27), none, .op (.nchk (.t 26))⟩,
    ⟨(some 28), none, .op (.fad 0 (.t 27))⟩,
    ⟨(some 29), none, .op (.load none (.t 28))⟩,
    ⟨(some 30), none, .op (.iad none none (.t 29) (.v (.int .i64 1)))⟩,
    ⟨(some 31), none, .op (.load none (.t 30))⟩,
    ⟨(some 32), none, .op (.cint .i64 (.t 31))⟩,
    ⟨(some 33), none, .op (.bin .none .shl (.t 32) (.v (.int .u64 8)))⟩,
    ⟨(some 34), none, .op (.bin .none .or (.t 25) (.t 33))⟩,
    ⟨(some 35), none, .op (.mv (.t 0))⟩,
    ⟨(some 36), none, .op (.nchk (.t 35))⟩,
    ⟨(some 37), none, .op (.fad 0 (.t 36))⟩,
    ⟨(some 38), none, .op (.load none (.t 37))⟩,
    ⟨(some 39), none, .op (.iad none none (.t 38) (.v (.int .i64 2)))⟩,
    ⟨(some 40), none, .op (.load none (.t 39))⟩,
    ⟨(some 41), none, .op (.cint .i64 (.t 40))⟩,
    ⟨(some 42), none, .op (.bin .none .shl (.t 41) (.v (.int .u64 16)))⟩,
    ⟨(some 43), none, .op (.bin .none .or (.t 34) (.t 42))⟩,
    ⟨(some 44), none, .op (.mv (.t 0))⟩,
    ⟨(some 45), none, .op (.nchk (.t 44))⟩,
    ⟨(some 46), none, .op (.fad 0 (.t 45))⟩,
    ⟨(some 47), none, .op (.load none (.t 46))⟩,
    ⟨(some 48), none, .op (.iad none none (.t 47) (.v (.int .i64 3)))⟩,
    ⟨(some 49), none, .op (.load none (.t 48))⟩,
    ⟨(some 50), none, .op (.cint .i64 (.t 49))⟩,
    ⟨(some 51), none, .op (.bin .none .shl (.t 50) (.v (.int .u64 24)))⟩,
    ⟨(some 52), none, .op (.bin .none .or (.t 43) (.t 51))⟩,
    ⟨(some 3), none, .op (.mv (.t 52))⟩] [])
  (.seq (.reg [⟨(some 53), none, .op (.mv (.t 0))⟩,
    ⟨(some 54), none, .op (.mv (.t 0))⟩,
    ⟨(some 55), none, .op (.nchk (.t 54))⟩,
    ⟨(some 56), none, .op (.fad 0 (.t 55))⟩,
    ⟨(some 57), none, .op (.load none (.t 56))⟩,
    ⟨(some 58), none, .op (.slc none (.t 57) (some (.v (.int .i64 4))) none none)⟩,
    ⟨(some 59), none, .op (.nchk (.t 53))⟩,
    ⟨(some 60), none, .op (.fad 0 (.t 59))⟩,
    ⟨none, none, .op (.store 1 (.t 60) (.t 58))⟩] [])
  (.seq (.reg [⟨(some 61), none, .op (.mv (.t 3))⟩,
    ⟨(some 2), none, .op (.mv (.t 61))⟩] [])
  .ret)))))
theorem fn31 : Fn2 Try.prog 31 62 [2] fc31 := ⟨_, _, Try.func31, rfl, rfl, rfl, by kernel_rfl⟩
/- windlass/windlassref19.put -/
def fc32 : FC := (.seq (.reg [⟨(some 4), none, .op (.mv (.v .nils))⟩] [])
  (.seq (.seq (.reg [⟨(some 5), none, .op (.mv (.v (.int .i64 0)))⟩] [])
  (.block 0 (.loop (.seq (.seq (.reg [⟨(some 6), none, .op (.mv (.t 5))⟩,
      ⟨(some 7), none, .op (.bin .none .lss (.t 6) (.v (.int .i64 4)))⟩] [])
    (.cond (.t 7)
      .skip
      (.exit 0)))
    (.seq (.block 1 (.seq (.reg [⟨(some 10), none, .op (.mv (.t 0))⟩,
       ⟨(some 11), none, .op (.mv (.t 1))⟩,
       ⟨(some 12), none, .op (.bin .none .rem (.t 11) (.v (.int .i64 256)))⟩,
       ⟨(some 13), none, .op (.cint .u8 (.t 12))⟩,
       ⟨(some 14), none, .op (.bsl none [(.int .u8 0)] 1 [(0, 1, (.t 13))])⟩,
       ⟨(some 15), none, .op (.app none 1 (.t 10) (.t 14))⟩,
       ⟨(some 0), none, .op (.mv (.t 15))⟩] [])
     (.reg [⟨(some 16), none, .op (.mv (.t 1))⟩,
       ⟨(some 17), none, .op (.bin .none .quo (.t 16) (.v (.int .i64 256)))⟩,
       ⟨(some 1), none, .op (.mv (.t 17))⟩] [])))
    (.reg [⟨(some 8), none, .op (.mv (.t 5))⟩,
      ⟨(some 9), none, .op (.bin .none .add (.t 8) (.v (.int .i64 1)))⟩,
      ⟨(some 5), none, .op (.mv (.t 9))⟩] []))))))
  (.seq (.reg [⟨(some 18), none, .op (.mv (.t 0))⟩,
    ⟨(some 4), none, .op (.mv (.t 18))⟩] [])
  .ret)))
theorem fn32 : Fn2 Try.prog 32 19 [4] fc32 := ⟨_, _, Try.func32, rfl, rfl, rfl, by kernel_rfl⟩
/- (*windlass/windlassref19.Tape).next -/
def fc33 : FC := (.seq (.reg [⟨(some 2), none, .op (.mv (.v (.int .i64 0)))⟩] [])
  (.seq (.seq (.reg [⟨(some 5), none, .op (.mv (.t 0))⟩,
    ⟨(some 6), none, .op (.nchk (.t 5))⟩,
    ⟨(some 7), none, .op (.fad 2 (.t 6))⟩,
    ⟨(some 8), none, .op (.load none (.t 7))⟩,
    ⟨(some 9), none, .op (.mv (.t 8))⟩,
    ⟨(some 10), some (9, false), .op (.mv (.t 0))⟩,
    ⟨(some 11), some (9, false), .op (.nchk (.t 10))⟩,
    ⟨(some 12), some (9, false), .op (.fad 1 (.t 11))⟩,
    ⟨(some 13), some (9, false), .op (.load none (.t 12))⟩,
    ⟨(some 14), some (9, false), .op (.bin .none .add (.t 13) (.v (.int .i64 4)))⟩,
    ⟨(some 15), some (9, false), .op (.mv (.t 0))⟩,
    ⟨(some 16), some (9, false), .op (.nchk (.t 15))⟩,
    ⟨(some 17), some (9, false), .op (.fad 0 (.t 16))⟩,
    ⟨(some 18), some (9, false), .op (.load none (.t 17))⟩,
    ⟨(some 19), some (9, false), .op (.len .sl (.t 18))⟩,
    ⟨(some 20), some (9, false), .op (.bin .none .gtr (.t 14) (.t 19))⟩,
    ⟨(some 21), none, .op (.pick (.t 9) (.v (.bool true)) (.t 20))⟩] [])
  (.cond (.t 21)
    (.seq (.reg [⟨(some 22), none, .op (.mv (.t 0))⟩,
      ⟨(some 23), none, .op (.nchk (.t 22))⟩,
      ⟨(some 24), none, .op (.fad 2 (.t 23))⟩,
      ⟨none, none, .op (.store 1 (.t 24) (.v (.bool true)))⟩] [])
    (.seq (.reg [⟨(some 2), none, .op (.mv (.v (.int .i64 0)))⟩] [])
    .ret))
    .skip))
  (.seq (.reg [⟨(some 3), none, .op (.mv (.v (.int .i64 0)))⟩] [])
  (.seq (.seq (.reg [⟨(some 4), none, .op (.mv (.v (.int .i64 3)))⟩] [])
  (.block 0 (.loop (.seq (.seq (.reg [⟨(some 25), none, .op (.mv (.t 4))⟩,
      ⟨(some 26), none, .op (.bin .none .geq (.t 25) (.v (.int .i64 0)))⟩] [])
    (.cond (.t 26)
      .skip
      (.exit 0)))
    (.seq (.block 1 (.reg [⟨(some 29), none, .op (.mv (.t 3))⟩,
       ⟨(some 30), none, .op (.bin .none .mul (.t 29) (.v (.int .i64 256)))⟩,
       ⟨(some 31), none, .op (.mv (.t 0))⟩,
       ⟨(some 32), none, .op (.nchk (.t 31))⟩,
       ⟨(some 33), none, .op (.fad 0 (.t 32))⟩,
       ⟨(some 34), none, .op (.load none (.t 33))⟩,
       ⟨(some 35), none, .op (.mv (.t 0))⟩,
       ⟨(some 36), none, .op (.nchk (.t 35))⟩,
       ⟨(some 37), none, .op (.fad 1 (.t 36))⟩,
       ⟨(some 38), none, .op (.load none (.t 37))⟩,
       ⟨(some 39), none, .op (.mv (.t 4))⟩,
       ⟨(some 40), none, .op (.bin .none .add (.t 38) (.t 39))⟩,
       ⟨(some 41), none, .op (.iad none none (.t 34) (.t 40))⟩,
       ⟨(some 42), none, .op (.load none (.t 41))⟩,
       ⟨(some 43), none, .op (.cint .i64 (.t 42))⟩,
       ⟨(some 44), none, .op (.bin .none .add (.t 30) (.t 43))⟩,
       ⟨(some 3), none, .op (.mv (.t 44))⟩] []))
    (.reg [⟨(some 27), none, .op (.mv (.t 4))⟩,
      ⟨(some 28), none, .op (.bin .none .sub (.t 27) (.v (.int .i64 1)))⟩,
      ⟨(some 4), none, .op (.mv (.t 28))⟩] []))))))
  (.seq (.reg [⟨(some 45), none, .op (.mv (.t 0))⟩,
    ⟨(some 46), none, .op (.nchk (.t 45))⟩,
    ⟨(some 47), none, .op (.fad 1 (.t 46))⟩,
    ⟨(some 48), none, .op (.load none (.t 47))⟩,
    ⟨(some 49), none, .op (.bin .none .add (.t 48) (.v (.int .i64 4)))⟩,
    ⟨(some 50), none, .op (.nchk (.t 45))⟩,
    ⟨(some 51), none, .op (.fad 1 (.t 50))⟩,
    ⟨none, none, .op (.store 1 (.t 51) (.t 49))⟩] [])
  (.seq (.reg [⟨(some 52), none, .op (.mv (.t 3))⟩,
    ⟨(some 2), none, .op (.mv (.t 52))⟩] [])
  .ret))))))
theorem fn33 : Fn2 Try.prog 33 53 [2] fc33 := ⟨_, _, Try.func33, rfl, rfl, rfl, by kernel_rfl⟩
/- cmp.isNaN[int] -/
def fc34 : FC := (.seq (.reg [⟨(some 2), none, .op (.mv (.v (.bool false)))⟩] [])
  (.seq (.reg [⟨(some 3), none, .op (.mv (.t 0))⟩,
    ⟨(some 4), none, .op (.mv (.t 0))⟩,
    ⟨(some 5), none, .op (.bin .none .neq (.t 3) (.t 4))⟩,
    ⟨(some 2), none, .op (.mv (.t 5))⟩] [])
  .ret))
theorem fn34 : Fn2 Try.prog 34 6 [2] fc34 := ⟨_, _, Try.func34, rfl, rfl, rfl, by kernel_rfl⟩

end Go.Proofs.Ytnmicfhdpnabcaa
