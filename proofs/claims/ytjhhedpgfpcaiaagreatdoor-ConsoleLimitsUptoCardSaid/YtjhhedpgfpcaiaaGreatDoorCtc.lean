/- The code of the functions that are met, resolved: read off the program's own text while this is built. Printed by a program. -/
import Derived.Test.YtjhhedpgfpcaiaaGreatDoorWlL2
import Derived.Test.YtjhhedpgfpcaiaaGreatDoorRows
namespace Go.Proofs.YtjhhedpgfpcaiaaGreatDoor
set_option linter.constructorNameAsVariable false
set_option linter.unusedSimpArgs false
set_option linter.unusedVariables false
open Go Go.Ab Go.RowKit
set_option maxRecDepth 100000
set_option maxHeartbeats 4000000
set_option linter.unusedVariables false
def c35 : {x // codeOf Tryz.prog 35 = x} := ⟨_, by conv => lhs; reduce⟩
def c49 : {x // codeOf Tryz.prog 49 = x} := ⟨_, by conv => lhs; reduce⟩
def c50 : {x // codeOf Tryz.prog 50 = x} := ⟨_, by conv => lhs; reduce⟩
def c62 : {x // codeOf Tryz.prog 62 = x} := ⟨_, by conv => lhs; reduce⟩
def c63 : {x // codeOf Tryz.prog 63 = x} := ⟨_, by conv => lhs; reduce⟩
def c67 : {x // codeOf Tryz.prog 67 = x} := ⟨_, by conv => lhs; reduce⟩
def c77 : {x // codeOf Tryz.prog 77 = x} := ⟨_, by conv => lhs; reduce⟩
def c83 : {x // codeOf Tryz.prog 83 = x} := ⟨_, by conv => lhs; reduce⟩
def c93 : {x // codeOf Tryz.prog 93 = x} := ⟨_, by conv => lhs; reduce⟩
def c103 : {x // codeOf Tryz.prog 103 = x} := ⟨_, by conv => lhs; reduce⟩
def c105 : {x // codeOf Tryz.prog 105 = x} := ⟨_, by conv => lhs; reduce⟩
def c110 : {x // codeOf Tryz.prog 110 = x} := ⟨_, by conv => lhs; reduce⟩
def c112 : {x // codeOf Tryz.prog 112 = x} := ⟨_, by conv => lhs; reduce⟩
def c116 : {x // codeOf Tryz.prog 116 = x} := ⟨_, by conv => lhs; reduce⟩
def c118 : {x // codeOf Tryz.prog 118 = x} := ⟨_, by conv => lhs; reduce⟩
def c123 : {x // codeOf Tryz.prog 123 = x} := ⟨_, by conv => lhs; reduce⟩
def c126 : {x // codeOf Tryz.prog 126 = x} := ⟨_, by conv => lhs; reduce⟩
def c128 : {x // codeOf Tryz.prog 128 = x} := ⟨_, by conv => lhs; reduce⟩
def c141 : {x // codeOf Tryz.prog 141 = x} := ⟨_, by conv => lhs; reduce⟩
def c142 : {x // codeOf Tryz.prog 142 = x} := ⟨_, by conv => lhs; reduce⟩
def c143 : {x // codeOf Tryz.prog 143 = x} := ⟨_, by conv => lhs; reduce⟩
def c146 : {x // codeOf Tryz.prog 146 = x} := ⟨_, by conv => lhs; reduce⟩
def c153 : {x // codeOf Tryz.prog 153 = x} := ⟨_, by conv => lhs; reduce⟩
def c154 : {x // codeOf Tryz.prog 154 = x} := ⟨_, by conv => lhs; reduce⟩
def c159 : {x // codeOf Tryz.prog 159 = x} := ⟨_, by conv => lhs; reduce⟩
def c161 : {x // codeOf Tryz.prog 161 = x} := ⟨_, by conv => lhs; reduce⟩
def c171 : {x // codeOf Tryz.prog 171 = x} := ⟨_, by conv => lhs; reduce⟩
def c198 : {x // codeOf Tryz.prog 198 = x} := ⟨_, by conv => lhs; reduce⟩
def c208 : {x // codeOf Tryz.prog 208 = x} := ⟨_, by conv => lhs; reduce⟩
def c209 : {x // codeOf Tryz.prog 209 = x} := ⟨_, by conv => lhs; reduce⟩
def c217 : {x // codeOf Tryz.prog 217 = x} := ⟨_, by conv => lhs; reduce⟩
def c224 : {x // codeOf Tryz.prog 224 = x} := ⟨_, by conv => lhs; reduce⟩
def c233 : {x // codeOf Tryz.prog 233 = x} := ⟨_, by conv => lhs; reduce⟩
def c252 : {x // codeOf Tryz.prog 252 = x} := ⟨_, by conv => lhs; reduce⟩
def c253 : {x // codeOf Tryz.prog 253 = x} := ⟨_, by conv => lhs; reduce⟩
def c256 : {x // codeOf Tryz.prog 256 = x} := ⟨_, by conv => lhs; reduce⟩
def c257 : {x // codeOf Tryz.prog 257 = x} := ⟨_, by conv => lhs; reduce⟩
def c279 : {x // codeOf Tryz.prog 279 = x} := ⟨_, by conv => lhs; reduce⟩
def c286 : {x // codeOf Tryz.prog 286 = x} := ⟨_, by conv => lhs; reduce⟩
def c290 : {x // codeOf Tryz.prog 290 = x} := ⟨_, by conv => lhs; reduce⟩
def c302 : {x // codeOf Tryz.prog 302 = x} := ⟨_, by conv => lhs; reduce⟩
def c305 : {x // codeOf Tryz.prog 305 = x} := ⟨_, by conv => lhs; reduce⟩
def c307 : {x // codeOf Tryz.prog 307 = x} := ⟨_, by conv => lhs; reduce⟩
def c309 : {x // codeOf Tryz.prog 309 = x} := ⟨_, by conv => lhs; reduce⟩
def c313 : {x // codeOf Tryz.prog 313 = x} := ⟨_, by conv => lhs; reduce⟩
def c341 : {x // codeOf Tryz.prog 341 = x} := ⟨_, by conv => lhs; reduce⟩
def c342 : {x // codeOf Tryz.prog 342 = x} := ⟨_, by conv => lhs; reduce⟩
def c350 : {x // codeOf Tryz.prog 350 = x} := ⟨_, by conv => lhs; reduce⟩
def c360 : {x // codeOf Tryz.prog 360 = x} := ⟨_, by conv => lhs; reduce⟩
end Go.Proofs.YtjhhedpgfpcaiaaGreatDoor
