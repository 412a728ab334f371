/- The code of the functions that are met, resolved: read off the program's own text while this is built. Printed by a program. -/
import Derived.Test.YtcicbbceknhkfaaGreatDoorWlL2
import Derived.Test.YtcicbbceknhkfaaGreatDoorRows
namespace Go.Proofs.YtcicbbceknhkfaaGreatDoor
set_option linter.constructorNameAsVariable false
set_option linter.unusedSimpArgs false
set_option linter.unusedVariables false
open Go Go.Ab Go.RowKit
set_option maxRecDepth 100000
set_option maxHeartbeats 4000000
set_option linter.unusedVariables false
def c15 : {x // codeOf Tryz.prog 15 = x} := ⟨_, by conv => lhs; reduce⟩
def c17 : {x // codeOf Tryz.prog 17 = x} := ⟨_, by conv => lhs; reduce⟩
def c23 : {x // codeOf Tryz.prog 23 = x} := ⟨_, by conv => lhs; reduce⟩
def c26 : {x // codeOf Tryz.prog 26 = x} := ⟨_, by conv => lhs; reduce⟩
def c28 : {x // codeOf Tryz.prog 28 = x} := ⟨_, by conv => lhs; reduce⟩
def c36 : {x // codeOf Tryz.prog 36 = x} := ⟨_, by conv => lhs; reduce⟩
def c48 : {x // codeOf Tryz.prog 48 = x} := ⟨_, by conv => lhs; reduce⟩
def c51 : {x // codeOf Tryz.prog 51 = x} := ⟨_, by conv => lhs; reduce⟩
def c53 : {x // codeOf Tryz.prog 53 = x} := ⟨_, by conv => lhs; reduce⟩
def c60 : {x // codeOf Tryz.prog 60 = x} := ⟨_, by conv => lhs; reduce⟩
def c62 : {x // codeOf Tryz.prog 62 = x} := ⟨_, by conv => lhs; reduce⟩
def c63 : {x // codeOf Tryz.prog 63 = x} := ⟨_, by conv => lhs; reduce⟩
def c66 : {x // codeOf Tryz.prog 66 = x} := ⟨_, by conv => lhs; reduce⟩
def c69 : {x // codeOf Tryz.prog 69 = x} := ⟨_, by conv => lhs; reduce⟩
def c70 : {x // codeOf Tryz.prog 70 = x} := ⟨_, by conv => lhs; reduce⟩
def c73 : {x // codeOf Tryz.prog 73 = x} := ⟨_, by conv => lhs; reduce⟩
def c74 : {x // codeOf Tryz.prog 74 = x} := ⟨_, by conv => lhs; reduce⟩
def c86 : {x // codeOf Tryz.prog 86 = x} := ⟨_, by conv => lhs; reduce⟩
def c87 : {x // codeOf Tryz.prog 87 = x} := ⟨_, by conv => lhs; reduce⟩
def c90 : {x // codeOf Tryz.prog 90 = x} := ⟨_, by conv => lhs; reduce⟩
def c97 : {x // codeOf Tryz.prog 97 = x} := ⟨_, by conv => lhs; reduce⟩
def c99 : {x // codeOf Tryz.prog 99 = x} := ⟨_, by conv => lhs; reduce⟩
def c103 : {x // codeOf Tryz.prog 103 = x} := ⟨_, by conv => lhs; reduce⟩
def c105 : {x // codeOf Tryz.prog 105 = x} := ⟨_, by conv => lhs; reduce⟩
def c108 : {x // codeOf Tryz.prog 108 = x} := ⟨_, by conv => lhs; reduce⟩
def c109 : {x // codeOf Tryz.prog 109 = x} := ⟨_, by conv => lhs; reduce⟩
def c110 : {x // codeOf Tryz.prog 110 = x} := ⟨_, by conv => lhs; reduce⟩
def c114 : {x // codeOf Tryz.prog 114 = x} := ⟨_, by conv => lhs; reduce⟩
def c124 : {x // codeOf Tryz.prog 124 = x} := ⟨_, by conv => lhs; reduce⟩
def c131 : {x // codeOf Tryz.prog 131 = x} := ⟨_, by conv => lhs; reduce⟩
def c139 : {x // codeOf Tryz.prog 139 = x} := ⟨_, by conv => lhs; reduce⟩
def c147 : {x // codeOf Tryz.prog 147 = x} := ⟨_, by conv => lhs; reduce⟩
def c148 : {x // codeOf Tryz.prog 148 = x} := ⟨_, by conv => lhs; reduce⟩
def c150 : {x // codeOf Tryz.prog 150 = x} := ⟨_, by conv => lhs; reduce⟩
def c154 : {x // codeOf Tryz.prog 154 = x} := ⟨_, by conv => lhs; reduce⟩
def c155 : {x // codeOf Tryz.prog 155 = x} := ⟨_, by conv => lhs; reduce⟩
def c159 : {x // codeOf Tryz.prog 159 = x} := ⟨_, by conv => lhs; reduce⟩
def c160 : {x // codeOf Tryz.prog 160 = x} := ⟨_, by conv => lhs; reduce⟩
def c163 : {x // codeOf Tryz.prog 163 = x} := ⟨_, by conv => lhs; reduce⟩
def c166 : {x // codeOf Tryz.prog 166 = x} := ⟨_, by conv => lhs; reduce⟩
def c168 : {x // codeOf Tryz.prog 168 = x} := ⟨_, by conv => lhs; reduce⟩
def c170 : {x // codeOf Tryz.prog 170 = x} := ⟨_, by conv => lhs; reduce⟩
def c172 : {x // codeOf Tryz.prog 172 = x} := ⟨_, by conv => lhs; reduce⟩
def c174 : {x // codeOf Tryz.prog 174 = x} := ⟨_, by conv => lhs; reduce⟩
def c178 : {x // codeOf Tryz.prog 178 = x} := ⟨_, by conv => lhs; reduce⟩
def c179 : {x // codeOf Tryz.prog 179 = x} := ⟨_, by conv => lhs; reduce⟩
def c182 : {x // codeOf Tryz.prog 182 = x} := ⟨_, by conv => lhs; reduce⟩
def c186 : {x // codeOf Tryz.prog 186 = x} := ⟨_, by conv => lhs; reduce⟩
def c187 : {x // codeOf Tryz.prog 187 = x} := ⟨_, by conv => lhs; reduce⟩
def c189 : {x // codeOf Tryz.prog 189 = x} := ⟨_, by conv => lhs; reduce⟩
def c191 : {x // codeOf Tryz.prog 191 = x} := ⟨_, by conv => lhs; reduce⟩
def c201 : {x // codeOf Tryz.prog 201 = x} := ⟨_, by conv => lhs; reduce⟩
def c203 : {x // codeOf Tryz.prog 203 = x} := ⟨_, by conv => lhs; reduce⟩
def c205 : {x // codeOf Tryz.prog 205 = x} := ⟨_, by conv => lhs; reduce⟩
def c212 : {x // codeOf Tryz.prog 212 = x} := ⟨_, by conv => lhs; reduce⟩
def c220 : {x // codeOf Tryz.prog 220 = x} := ⟨_, by conv => lhs; reduce⟩
def c223 : {x // codeOf Tryz.prog 223 = x} := ⟨_, by conv => lhs; reduce⟩
def c251 : {x // codeOf Tryz.prog 251 = x} := ⟨_, by conv => lhs; reduce⟩
def c256 : {x // codeOf Tryz.prog 256 = x} := ⟨_, by conv => lhs; reduce⟩
def c260 : {x // codeOf Tryz.prog 260 = x} := ⟨_, by conv => lhs; reduce⟩
def c263 : {x // codeOf Tryz.prog 263 = x} := ⟨_, by conv => lhs; reduce⟩
def c265 : {x // codeOf Tryz.prog 265 = x} := ⟨_, by conv => lhs; reduce⟩
end Go.Proofs.YtcicbbceknhkfaaGreatDoor
