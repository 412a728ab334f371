/- The code of the functions that are met, resolved: read off the program's own text while this is built. Printed by a program. -/
import Derived.Test.YtklmiejnopdabaaGreatDoorWlM5
import Derived.Test.YtklmiejnopdabaaGreatDoorRows
namespace Go.Proofs.YtklmiejnopdabaaGreatDoor
set_option linter.constructorNameAsVariable false
set_option linter.unusedSimpArgs false
set_option linter.unusedVariables false
open Go Go.Ab Go.RowKit
set_option maxRecDepth 100000
set_option maxHeartbeats 4000000
set_option linter.unusedVariables false
def c5 : {x // codeOf Tryz.prog 5 = x} := ⟨_, by conv => lhs; reduce⟩
def c13 : {x // codeOf Tryz.prog 13 = x} := ⟨_, by conv => lhs; reduce⟩
def c16 : {x // codeOf Tryz.prog 16 = x} := ⟨_, by conv => lhs; reduce⟩
def c22 : {x // codeOf Tryz.prog 22 = x} := ⟨_, by conv => lhs; reduce⟩
def c23 : {x // codeOf Tryz.prog 23 = x} := ⟨_, by conv => lhs; reduce⟩
def c26 : {x // codeOf Tryz.prog 26 = x} := ⟨_, by conv => lhs; reduce⟩
def c30 : {x // codeOf Tryz.prog 30 = x} := ⟨_, by conv => lhs; reduce⟩
def c32 : {x // codeOf Tryz.prog 32 = x} := ⟨_, by conv => lhs; reduce⟩
def c36 : {x // codeOf Tryz.prog 36 = x} := ⟨some (26, [(4, none)], (.seq (.reg [⟨(some 4), none, .op (.mv (.v (.bool false)))⟩] [])
  (.seq (.seq (.reg [⟨(some 6), none, .op (.mv (.t 0))⟩,
  ⟨(some 7), none, .op (.len .sl (.t 6))⟩,
  ⟨(some 8), none, .op (.mv (.t 1))⟩,
  ⟨(some 9), none, .op (.len .sl (.t 8))⟩,
  ⟨(some 10), none, .op (.bin .none .gtr (.t 7) (.t 9))⟩] [])
  (.cond (.t 10)
  (.seq (.reg [⟨(some 4), none, .op (.mv (.v (.bool false)))⟩] [])
  .ret)
  .skip))
  (.seq (.seq (.reg [⟨(some 11), none, .op (.mv (.t 0))⟩,
  ⟨(some 12), none, .op (.len .sl (.t 11))⟩,
  ⟨(some 13), none, .op (.mv (.v (.int .i64 0)))⟩] [])
  (.block 0 (.loop (.seq (.reg [⟨(some 14), none, .op (.bin .none .lss (.t 13) (.t 12))⟩] [])
  (.seq (.cond (.t 14)
  .skip
  (.exit 0))
  (.seq (.block 1 (.seq (.reg [⟨(some 15), none, .op (.mv (.t 13))⟩,
  ⟨(some 5), none, .op (.mv (.t 15))⟩] [])
  (.seq (.reg [⟨(some 16), none, .op (.mv (.t 0))⟩,
  ⟨(some 17), none, .op (.mv (.t 5))⟩,
  ⟨(some 18), none, .op (.iad none (some 2) (.t 16) (.t 17))⟩,
  ⟨(some 19), none, .op (.load (some 2) (.t 18))⟩,
  ⟨(some 20), none, .op (.mv (.t 1))⟩,
  ⟨(some 21), none, .op (.mv (.t 5))⟩,
  ⟨(some 22), none, .op (.iad none (some 2) (.t 20) (.t 21))⟩,
  ⟨(some 23), none, .op (.load (some 2) (.t 22))⟩,
  ⟨(some 24), none, .op (.eqs [.int, .int] .neq (.t 19) (.t 23))⟩] [])
  (.cond (.t 24)
  (.seq (.reg [⟨(some 4), none, .op (.mv (.v (.bool false)))⟩] [])
  .ret)
  .skip))))
  (.reg [⟨(some 25), none, .op (.bin .none .add (.t 13) (.v (.int .i64 1)))⟩,
  ⟨(some 13), none, .op (.mv (.t 25))⟩] [])))))))
  (.seq (.reg [⟨(some 4), none, .op (.mv (.v (.bool true)))⟩] [])
  .ret))))), by kernel_rfl⟩
def c43 : {x // codeOf Tryz.prog 43 = x} := ⟨_, by conv => lhs; reduce⟩
def c47 : {x // codeOf Tryz.prog 47 = x} := ⟨_, by conv => lhs; reduce⟩
def c52 : {x // codeOf Tryz.prog 52 = x} := ⟨_, by conv => lhs; reduce⟩
def c55 : {x // codeOf Tryz.prog 55 = x} := ⟨_, by conv => lhs; reduce⟩
def c59 : {x // codeOf Tryz.prog 59 = x} := ⟨_, by conv => lhs; reduce⟩
def c60 : {x // codeOf Tryz.prog 60 = x} := ⟨_, by conv => lhs; reduce⟩
def c62 : {x // codeOf Tryz.prog 62 = x} := ⟨_, by conv => lhs; reduce⟩
def c64 : {x // codeOf Tryz.prog 64 = x} := ⟨_, by conv => lhs; reduce⟩
def c69 : {x // codeOf Tryz.prog 69 = x} := ⟨_, by conv => lhs; reduce⟩
def c76 : {x // codeOf Tryz.prog 76 = x} := ⟨_, by conv => lhs; reduce⟩
def c84 : {x // codeOf Tryz.prog 84 = x} := ⟨_, by conv => lhs; reduce⟩
def c89 : {x // codeOf Tryz.prog 89 = x} := ⟨_, by conv => lhs; reduce⟩
def c91 : {x // codeOf Tryz.prog 91 = x} := ⟨_, by conv => lhs; reduce⟩
def c95 : {x // codeOf Tryz.prog 95 = x} := ⟨_, by conv => lhs; reduce⟩
def c97 : {x // codeOf Tryz.prog 97 = x} := ⟨_, by conv => lhs; reduce⟩
def c99 : {x // codeOf Tryz.prog 99 = x} := ⟨_, by conv => lhs; reduce⟩
def c105 : {x // codeOf Tryz.prog 105 = x} := ⟨_, by conv => lhs; reduce⟩
def c113 : {x // codeOf Tryz.prog 113 = x} := ⟨_, by conv => lhs; reduce⟩
def c118 : {x // codeOf Tryz.prog 118 = x} := ⟨_, by conv => lhs; reduce⟩
def c124 : {x // codeOf Tryz.prog 124 = x} := ⟨_, by conv => lhs; reduce⟩
def c125 : {x // codeOf Tryz.prog 125 = x} := ⟨_, by conv => lhs; reduce⟩
def c130 : {x // codeOf Tryz.prog 130 = x} := ⟨_, by conv => lhs; reduce⟩
def c138 : {x // codeOf Tryz.prog 138 = x} := ⟨_, by conv => lhs; reduce⟩
def c139 : {x // codeOf Tryz.prog 139 = x} := ⟨_, by conv => lhs; reduce⟩
def c143 : {x // codeOf Tryz.prog 143 = x} := ⟨_, by conv => lhs; reduce⟩
def c147 : {x // codeOf Tryz.prog 147 = x} := ⟨_, by conv => lhs; reduce⟩
def c148 : {x // codeOf Tryz.prog 148 = x} := ⟨_, by conv => lhs; reduce⟩
def c156 : {x // codeOf Tryz.prog 156 = x} := ⟨_, by conv => lhs; reduce⟩
def c159 : {x // codeOf Tryz.prog 159 = x} := ⟨_, by conv => lhs; reduce⟩
def c163 : {x // codeOf Tryz.prog 163 = x} := ⟨_, by conv => lhs; reduce⟩
def c165 : {x // codeOf Tryz.prog 165 = x} := ⟨_, by conv => lhs; reduce⟩
def c167 : {x // codeOf Tryz.prog 167 = x} := ⟨_, by conv => lhs; reduce⟩
def c178 : {x // codeOf Tryz.prog 178 = x} := ⟨_, by conv => lhs; reduce⟩
def c181 : {x // codeOf Tryz.prog 181 = x} := ⟨_, by conv => lhs; reduce⟩
def c184 : {x // codeOf Tryz.prog 184 = x} := ⟨_, by conv => lhs; reduce⟩
def c186 : {x // codeOf Tryz.prog 186 = x} := ⟨_, by conv => lhs; reduce⟩
def c194 : {x // codeOf Tryz.prog 194 = x} := ⟨_, by conv => lhs; reduce⟩
def c207 : {x // codeOf Tryz.prog 207 = x} := ⟨_, by conv => lhs; reduce⟩
def c213 : {x // codeOf Tryz.prog 213 = x} := ⟨_, by conv => lhs; reduce⟩
def c214 : {x // codeOf Tryz.prog 214 = x} := ⟨_, by conv => lhs; reduce⟩
def c217 : {x // codeOf Tryz.prog 217 = x} := ⟨_, by conv => lhs; reduce⟩
def c220 : {x // codeOf Tryz.prog 220 = x} := ⟨_, by conv => lhs; reduce⟩
def c221 : {x // codeOf Tryz.prog 221 = x} := ⟨_, by conv => lhs; reduce⟩
def c227 : {x // codeOf Tryz.prog 227 = x} := ⟨_, by conv => lhs; reduce⟩
def c228 : {x // codeOf Tryz.prog 228 = x} := ⟨_, by conv => lhs; reduce⟩
def c229 : {x // codeOf Tryz.prog 229 = x} := ⟨_, by conv => lhs; reduce⟩
def c230 : {x // codeOf Tryz.prog 230 = x} := ⟨_, by conv => lhs; reduce⟩
def c232 : {x // codeOf Tryz.prog 232 = x} := ⟨_, by conv => lhs; reduce⟩
def c233 : {x // codeOf Tryz.prog 233 = x} := ⟨_, by conv => lhs; reduce⟩
def c234 : {x // codeOf Tryz.prog 234 = x} := ⟨_, by conv => lhs; reduce⟩
def c262 : {x // codeOf Tryz.prog 262 = x} := ⟨_, by conv => lhs; reduce⟩
def c267 : {x // codeOf Tryz.prog 267 = x} := ⟨_, by conv => lhs; reduce⟩
def c273 : {x // codeOf Tryz.prog 273 = x} := ⟨_, by conv => lhs; reduce⟩
def c274 : {x // codeOf Tryz.prog 274 = x} := ⟨_, by conv => lhs; reduce⟩
def c276 : {x // codeOf Tryz.prog 276 = x} := ⟨_, by conv => lhs; reduce⟩
end Go.Proofs.YtklmiejnopdabaaGreatDoor
