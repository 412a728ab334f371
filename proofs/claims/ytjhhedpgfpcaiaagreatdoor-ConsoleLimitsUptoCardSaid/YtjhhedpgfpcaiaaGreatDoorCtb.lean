/- The code of the functions that are met, resolved: read off the program's own text while this is built. Printed by a program. -/
import Derived.Test.YtjhhedpgfpcaiaaGreatDoorWlL2
import Derived.Test.YtjhhedpgfpcaiaaGreatDoorRows
namespace Go.Proofs.YtjhhedpgfpcaiaaGreatDoor
set_option linter.constructorNameAsVariable false
set_option linter.unusedSimpArgs false
set_option linter.unusedVariables false
open Go Go.Ab Go.RowKit
set_option maxRecDepth 100000
set_option maxHeartbeats 4000000
set_option linter.unusedVariables false
def c15 : {x // codeOf Tryz.prog 15 = x} := ⟨_, by conv => lhs; reduce⟩
def c20 : {x // codeOf Tryz.prog 20 = x} := ⟨_, by conv => lhs; reduce⟩
def c27 : {x // codeOf Tryz.prog 27 = x} := ⟨_, by conv => lhs; reduce⟩
def c29 : {x // codeOf Tryz.prog 29 = x} := ⟨_, by conv => lhs; reduce⟩
def c34 : {x // codeOf Tryz.prog 34 = x} := ⟨_, by conv => lhs; reduce⟩
def c36 : {x // codeOf Tryz.prog 36 = x} := ⟨_, by conv => lhs; reduce⟩
def c44 : {x // codeOf Tryz.prog 44 = x} := ⟨_, by conv => lhs; reduce⟩
def c47 : {x // codeOf Tryz.prog 47 = x} := ⟨_, by conv => lhs; reduce⟩
def c53 : {x // codeOf Tryz.prog 53 = x} := ⟨_, by conv => lhs; reduce⟩
def c57 : {x // codeOf Tryz.prog 57 = x} := ⟨_, by conv => lhs; reduce⟩
def c64 : {x // codeOf Tryz.prog 64 = x} := ⟨_, by conv => lhs; reduce⟩
def c70 : {x // codeOf Tryz.prog 70 = x} := ⟨_, by conv => lhs; reduce⟩
def c74 : {x // codeOf Tryz.prog 74 = x} := ⟨_, by conv => lhs; reduce⟩
def c80 : {x // codeOf Tryz.prog 80 = x} := ⟨_, by conv => lhs; reduce⟩
def c84 : {x // codeOf Tryz.prog 84 = x} := ⟨_, by conv => lhs; reduce⟩
def c88 : {x // codeOf Tryz.prog 88 = x} := ⟨_, by conv => lhs; reduce⟩
def c89 : {x // codeOf Tryz.prog 89 = x} := ⟨_, by conv => lhs; reduce⟩
def c99 : {x // codeOf Tryz.prog 99 = x} := ⟨_, by conv => lhs; reduce⟩
def c102 : {x // codeOf Tryz.prog 102 = x} := ⟨_, by conv => lhs; reduce⟩
def c106 : {x // codeOf Tryz.prog 106 = x} := ⟨_, by conv => lhs; reduce⟩
def c130 : {x // codeOf Tryz.prog 130 = x} := ⟨_, by conv => lhs; reduce⟩
def c133 : {x // codeOf Tryz.prog 133 = x} := ⟨_, by conv => lhs; reduce⟩
def c140 : {x // codeOf Tryz.prog 140 = x} := ⟨_, by conv => lhs; reduce⟩
def c147 : {x // codeOf Tryz.prog 147 = x} := ⟨_, by conv => lhs; reduce⟩
def c157 : {x // codeOf Tryz.prog 157 = x} := ⟨_, by conv => lhs; reduce⟩
def c158 : {x // codeOf Tryz.prog 158 = x} := ⟨_, by conv => lhs; reduce⟩
def c160 : {x // codeOf Tryz.prog 160 = x} := ⟨_, by conv => lhs; reduce⟩
def c163 : {x // codeOf Tryz.prog 163 = x} := ⟨_, by conv => lhs; reduce⟩
def c165 : {x // codeOf Tryz.prog 165 = x} := ⟨_, by conv => lhs; reduce⟩
def c170 : {x // codeOf Tryz.prog 170 = x} := ⟨_, by conv => lhs; reduce⟩
def c196 : {x // codeOf Tryz.prog 196 = x} := ⟨_, by conv => lhs; reduce⟩
def c197 : {x // codeOf Tryz.prog 197 = x} := ⟨_, by conv => lhs; reduce⟩
def c199 : {x // codeOf Tryz.prog 199 = x} := ⟨_, by conv => lhs; reduce⟩
def c216 : {x // codeOf Tryz.prog 216 = x} := ⟨_, by conv => lhs; reduce⟩
def c219 : {x // codeOf Tryz.prog 219 = x} := ⟨_, by conv => lhs; reduce⟩
def c231 : {x // codeOf Tryz.prog 231 = x} := ⟨_, by conv => lhs; reduce⟩
def c259 : {x // codeOf Tryz.prog 259 = x} := ⟨_, by conv => lhs; reduce⟩
def c261 : {x // codeOf Tryz.prog 261 = x} := ⟨_, by conv => lhs; reduce⟩
def c262 : {x // codeOf Tryz.prog 262 = x} := ⟨_, by conv => lhs; reduce⟩
def c263 : {x // codeOf Tryz.prog 263 = x} := ⟨_, by conv => lhs; reduce⟩
def c267 : {x // codeOf Tryz.prog 267 = x} := ⟨_, by conv => lhs; reduce⟩
def c270 : {x // codeOf Tryz.prog 270 = x} := ⟨_, by conv => lhs; reduce⟩
def c283 : {x // codeOf Tryz.prog 283 = x} := ⟨_, by conv => lhs; reduce⟩
def c285 : {x // codeOf Tryz.prog 285 = x} := ⟨_, by conv => lhs; reduce⟩
def c288 : {x // codeOf Tryz.prog 288 = x} := ⟨_, by conv => lhs; reduce⟩
def c293 : {x // codeOf Tryz.prog 293 = x} := ⟨_, by conv => lhs; reduce⟩
def c306 : {x // codeOf Tryz.prog 306 = x} := ⟨_, by conv => lhs; reduce⟩
def c311 : {x // codeOf Tryz.prog 311 = x} := ⟨_, by conv => lhs; reduce⟩
end Go.Proofs.YtjhhedpgfpcaiaaGreatDoor
