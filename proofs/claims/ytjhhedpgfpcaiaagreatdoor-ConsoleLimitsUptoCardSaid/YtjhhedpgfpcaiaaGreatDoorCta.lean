/- The code of the functions that are met, resolved: read off the program's own text while this is built. Printed by a program. -/
import Derived.Test.YtjhhedpgfpcaiaaGreatDoorWlL2
import Derived.Test.YtjhhedpgfpcaiaaGreatDoorRows
namespace Go.Proofs.YtjhhedpgfpcaiaaGreatDoor
set_option linter.constructorNameAsVariable false
set_option linter.unusedSimpArgs false
set_option linter.unusedVariables false
open Go Go.Ab Go.RowKit
set_option maxRecDepth 100000
set_option maxHeartbeats 4000000
set_option linter.unusedVariables false
def c7 : {x // codeOf Tryz.prog 7 = x} := ⟨_, by conv => lhs; reduce⟩
def c16 : {x // codeOf Tryz.prog 16 = x} := ⟨_, by conv => lhs; reduce⟩
def c42 : {x // codeOf Tryz.prog 42 = x} := ⟨_, by conv => lhs; reduce⟩
def c46 : {x // codeOf Tryz.prog 46 = x} := ⟨_, by conv => lhs; reduce⟩
def c51 : {x // codeOf Tryz.prog 51 = x} := ⟨_, by conv => lhs; reduce⟩
def c65 : {x // codeOf Tryz.prog 65 = x} := ⟨_, by conv => lhs; reduce⟩
def c68 : {x // codeOf Tryz.prog 68 = x} := ⟨_, by conv => lhs; reduce⟩
def c71 : {x // codeOf Tryz.prog 71 = x} := ⟨_, by conv => lhs; reduce⟩
def c73 : {x // codeOf Tryz.prog 73 = x} := ⟨_, by conv => lhs; reduce⟩
def c75 : {x // codeOf Tryz.prog 75 = x} := ⟨_, by conv => lhs; reduce⟩
def c78 : {x // codeOf Tryz.prog 78 = x} := ⟨_, by conv => lhs; reduce⟩
def c85 : {x // codeOf Tryz.prog 85 = x} := ⟨_, by conv => lhs; reduce⟩
def c87 : {x // codeOf Tryz.prog 87 = x} := ⟨_, by conv => lhs; reduce⟩
def c91 : {x // codeOf Tryz.prog 91 = x} := ⟨_, by conv => lhs; reduce⟩
def c95 : {x // codeOf Tryz.prog 95 = x} := ⟨_, by conv => lhs; reduce⟩
def c100 : {x // codeOf Tryz.prog 100 = x} := ⟨_, by conv => lhs; reduce⟩
def c109 : {x // codeOf Tryz.prog 109 = x} := ⟨_, by conv => lhs; reduce⟩
def c113 : {x // codeOf Tryz.prog 113 = x} := ⟨_, by conv => lhs; reduce⟩
def c114 : {x // codeOf Tryz.prog 114 = x} := ⟨_, by conv => lhs; reduce⟩
def c117 : {x // codeOf Tryz.prog 117 = x} := ⟨_, by conv => lhs; reduce⟩
def c131 : {x // codeOf Tryz.prog 131 = x} := ⟨_, by conv => lhs; reduce⟩
def c144 : {x // codeOf Tryz.prog 144 = x} := ⟨_, by conv => lhs; reduce⟩
def c148 : {x // codeOf Tryz.prog 148 = x} := ⟨_, by conv => lhs; reduce⟩
def c149 : {x // codeOf Tryz.prog 149 = x} := ⟨_, by conv => lhs; reduce⟩
def c155 : {x // codeOf Tryz.prog 155 = x} := ⟨_, by conv => lhs; reduce⟩
def c156 : {x // codeOf Tryz.prog 156 = x} := ⟨_, by conv => lhs; reduce⟩
def c162 : {x // codeOf Tryz.prog 162 = x} := ⟨_, by conv => lhs; reduce⟩
def c167 : {x // codeOf Tryz.prog 167 = x} := ⟨_, by conv => lhs; reduce⟩
def c195 : {x // codeOf Tryz.prog 195 = x} := ⟨_, by conv => lhs; reduce⟩
def c210 : {x // codeOf Tryz.prog 210 = x} := ⟨_, by conv => lhs; reduce⟩
def c211 : {x // codeOf Tryz.prog 211 = x} := ⟨_, by conv => lhs; reduce⟩
def c214 : {x // codeOf Tryz.prog 214 = x} := ⟨_, by conv => lhs; reduce⟩
def c218 : {x // codeOf Tryz.prog 218 = x} := ⟨_, by conv => lhs; reduce⟩
def c221 : {x // codeOf Tryz.prog 221 = x} := ⟨_, by conv => lhs; reduce⟩
def c226 : {x // codeOf Tryz.prog 226 = x} := ⟨_, by conv => lhs; reduce⟩
def c228 : {x // codeOf Tryz.prog 228 = x} := ⟨_, by conv => lhs; reduce⟩
def c229 : {x // codeOf Tryz.prog 229 = x} := ⟨_, by conv => lhs; reduce⟩
def c242 : {x // codeOf Tryz.prog 242 = x} := ⟨_, by conv => lhs; reduce⟩
def c271 : {x // codeOf Tryz.prog 271 = x} := ⟨_, by conv => lhs; reduce⟩
def c273 : {x // codeOf Tryz.prog 273 = x} := ⟨_, by conv => lhs; reduce⟩
def c274 : {x // codeOf Tryz.prog 274 = x} := ⟨_, by conv => lhs; reduce⟩
def c276 : {x // codeOf Tryz.prog 276 = x} := ⟨_, by conv => lhs; reduce⟩
def c277 : {x // codeOf Tryz.prog 277 = x} := ⟨_, by conv => lhs; reduce⟩
def c278 : {x // codeOf Tryz.prog 278 = x} := ⟨_, by conv => lhs; reduce⟩
def c281 : {x // codeOf Tryz.prog 281 = x} := ⟨_, by conv => lhs; reduce⟩
def c287 : {x // codeOf Tryz.prog 287 = x} := ⟨_, by conv => lhs; reduce⟩
def c301 : {x // codeOf Tryz.prog 301 = x} := ⟨_, by conv => lhs; reduce⟩
def c310 : {x // codeOf Tryz.prog 310 = x} := ⟨_, by conv => lhs; reduce⟩
end Go.Proofs.YtjhhedpgfpcaiaaGreatDoor
