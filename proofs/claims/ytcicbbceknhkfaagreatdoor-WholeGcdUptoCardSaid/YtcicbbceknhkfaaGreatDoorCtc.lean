/- The code of the functions that are met, resolved: read off the program's own text while this is built. Printed by a program. -/
import Derived.Test.YtcicbbceknhkfaaGreatDoorWlL2
import Derived.Test.YtcicbbceknhkfaaGreatDoorRows
namespace Go.Proofs.YtcicbbceknhkfaaGreatDoor
set_option linter.constructorNameAsVariable false
set_option linter.unusedSimpArgs false
set_option linter.unusedVariables false
open Go Go.Ab Go.RowKit
set_option maxRecDepth 100000
set_option maxHeartbeats 4000000
set_option linter.unusedVariables false
def c7 : {x // codeOf Tryz.prog 7 = x} := ⟨_, by conv => lhs; reduce⟩
def c9 : {x // codeOf Tryz.prog 9 = x} := ⟨_, by conv => lhs; reduce⟩
def c13 : {x // codeOf Tryz.prog 13 = x} := ⟨_, by conv => lhs; reduce⟩
def c20 : {x // codeOf Tryz.prog 20 = x} := ⟨_, by conv => lhs; reduce⟩
def c24 : {x // codeOf Tryz.prog 24 = x} := ⟨_, by conv => lhs; reduce⟩
def c27 : {x // codeOf Tryz.prog 27 = x} := ⟨_, by conv => lhs; reduce⟩
def c29 : {x // codeOf Tryz.prog 29 = x} := ⟨_, by conv => lhs; reduce⟩
def c40 : {x // codeOf Tryz.prog 40 = x} := ⟨_, by conv => lhs; reduce⟩
def c44 : {x // codeOf Tryz.prog 44 = x} := ⟨_, by conv => lhs; reduce⟩
def c49 : {x // codeOf Tryz.prog 49 = x} := ⟨_, by conv => lhs; reduce⟩
def c50 : {x // codeOf Tryz.prog 50 = x} := ⟨_, by conv => lhs; reduce⟩
def c54 : {x // codeOf Tryz.prog 54 = x} := ⟨_, by conv => lhs; reduce⟩
def c57 : {x // codeOf Tryz.prog 57 = x} := ⟨_, by conv => lhs; reduce⟩
def c58 : {x // codeOf Tryz.prog 58 = x} := ⟨_, by conv => lhs; reduce⟩
def c65 : {x // codeOf Tryz.prog 65 = x} := ⟨_, by conv => lhs; reduce⟩
def c75 : {x // codeOf Tryz.prog 75 = x} := ⟨_, by conv => lhs; reduce⟩
def c78 : {x // codeOf Tryz.prog 78 = x} := ⟨_, by conv => lhs; reduce⟩
def c80 : {x // codeOf Tryz.prog 80 = x} := ⟨_, by conv => lhs; reduce⟩
def c81 : {x // codeOf Tryz.prog 81 = x} := ⟨_, by conv => lhs; reduce⟩
def c85 : {x // codeOf Tryz.prog 85 = x} := ⟨_, by conv => lhs; reduce⟩
def c89 : {x // codeOf Tryz.prog 89 = x} := ⟨_, by conv => lhs; reduce⟩
def c91 : {x // codeOf Tryz.prog 91 = x} := ⟨_, by conv => lhs; reduce⟩
def c92 : {x // codeOf Tryz.prog 92 = x} := ⟨_, by conv => lhs; reduce⟩
def c96 : {x // codeOf Tryz.prog 96 = x} := ⟨_, by conv => lhs; reduce⟩
def c112 : {x // codeOf Tryz.prog 112 = x} := ⟨_, by conv => lhs; reduce⟩
def c115 : {x // codeOf Tryz.prog 115 = x} := ⟨_, by conv => lhs; reduce⟩
def c116 : {x // codeOf Tryz.prog 116 = x} := ⟨_, by conv => lhs; reduce⟩
def c117 : {x // codeOf Tryz.prog 117 = x} := ⟨_, by conv => lhs; reduce⟩
def c120 : {x // codeOf Tryz.prog 120 = x} := ⟨_, by conv => lhs; reduce⟩
def c127 : {x // codeOf Tryz.prog 127 = x} := ⟨_, by conv => lhs; reduce⟩
def c129 : {x // codeOf Tryz.prog 129 = x} := ⟨_, by conv => lhs; reduce⟩
def c132 : {x // codeOf Tryz.prog 132 = x} := ⟨_, by conv => lhs; reduce⟩
def c133 : {x // codeOf Tryz.prog 133 = x} := ⟨_, by conv => lhs; reduce⟩
def c134 : {x // codeOf Tryz.prog 134 = x} := ⟨_, by conv => lhs; reduce⟩
def c140 : {x // codeOf Tryz.prog 140 = x} := ⟨_, by conv => lhs; reduce⟩
def c141 : {x // codeOf Tryz.prog 141 = x} := ⟨_, by conv => lhs; reduce⟩
def c142 : {x // codeOf Tryz.prog 142 = x} := ⟨_, by conv => lhs; reduce⟩
def c149 : {x // codeOf Tryz.prog 149 = x} := ⟨_, by conv => lhs; reduce⟩
def c151 : {x // codeOf Tryz.prog 151 = x} := ⟨_, by conv => lhs; reduce⟩
def c152 : {x // codeOf Tryz.prog 152 = x} := ⟨_, by conv => lhs; reduce⟩
def c153 : {x // codeOf Tryz.prog 153 = x} := ⟨_, by conv => lhs; reduce⟩
def c164 : {x // codeOf Tryz.prog 164 = x} := ⟨_, by conv => lhs; reduce⟩
def c165 : {x // codeOf Tryz.prog 165 = x} := ⟨_, by conv => lhs; reduce⟩
def c173 : {x // codeOf Tryz.prog 173 = x} := ⟨_, by conv => lhs; reduce⟩
def c175 : {x // codeOf Tryz.prog 175 = x} := ⟨_, by conv => lhs; reduce⟩
def c177 : {x // codeOf Tryz.prog 177 = x} := ⟨_, by conv => lhs; reduce⟩
def c180 : {x // codeOf Tryz.prog 180 = x} := ⟨_, by conv => lhs; reduce⟩
def c192 : {x // codeOf Tryz.prog 192 = x} := ⟨_, by conv => lhs; reduce⟩
def c195 : {x // codeOf Tryz.prog 195 = x} := ⟨_, by conv => lhs; reduce⟩
def c196 : {x // codeOf Tryz.prog 196 = x} := ⟨_, by conv => lhs; reduce⟩
def c197 : {x // codeOf Tryz.prog 197 = x} := ⟨_, by conv => lhs; reduce⟩
def c200 : {x // codeOf Tryz.prog 200 = x} := ⟨_, by conv => lhs; reduce⟩
def c202 : {x // codeOf Tryz.prog 202 = x} := ⟨_, by conv => lhs; reduce⟩
def c204 : {x // codeOf Tryz.prog 204 = x} := ⟨_, by conv => lhs; reduce⟩
def c208 : {x // codeOf Tryz.prog 208 = x} := ⟨_, by conv => lhs; reduce⟩
def c211 : {x // codeOf Tryz.prog 211 = x} := ⟨_, by conv => lhs; reduce⟩
def c214 : {x // codeOf Tryz.prog 214 = x} := ⟨_, by conv => lhs; reduce⟩
def c217 : {x // codeOf Tryz.prog 217 = x} := ⟨_, by conv => lhs; reduce⟩
def c226 : {x // codeOf Tryz.prog 226 = x} := ⟨_, by conv => lhs; reduce⟩
def c227 : {x // codeOf Tryz.prog 227 = x} := ⟨_, by conv => lhs; reduce⟩
def c262 : {x // codeOf Tryz.prog 262 = x} := ⟨_, by conv => lhs; reduce⟩
def c270 : {x // codeOf Tryz.prog 270 = x} := ⟨_, by conv => lhs; reduce⟩
end Go.Proofs.YtcicbbceknhkfaaGreatDoor
