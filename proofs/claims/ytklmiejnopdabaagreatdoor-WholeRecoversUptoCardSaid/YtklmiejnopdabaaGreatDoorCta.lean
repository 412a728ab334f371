/- The code of the functions that are met, resolved: read off the program's own text while this is built. Printed by a program. -/
import Derived.Test.YtklmiejnopdabaaGreatDoorWlM5
import Derived.Test.YtklmiejnopdabaaGreatDoorRows
namespace Go.Proofs.YtklmiejnopdabaaGreatDoor
set_option linter.constructorNameAsVariable false
set_option linter.unusedSimpArgs false
set_option linter.unusedVariables false
open Go Go.Ab Go.RowKit
set_option maxRecDepth 100000
set_option maxHeartbeats 4000000
set_option linter.unusedVariables false
def c6 : {x // codeOf Tryz.prog 6 = x} := ⟨_, by conv => lhs; reduce⟩
def c11 : {x // codeOf Tryz.prog 11 = x} := ⟨_, by conv => lhs; reduce⟩
def c14 : {x // codeOf Tryz.prog 14 = x} := ⟨_, by conv => lhs; reduce⟩
def c20 : {x // codeOf Tryz.prog 20 = x} := ⟨_, by conv => lhs; reduce⟩
def c24 : {x // codeOf Tryz.prog 24 = x} := ⟨_, by conv => lhs; reduce⟩
def c33 : {x // codeOf Tryz.prog 33 = x} := ⟨_, by conv => lhs; reduce⟩
def c34 : {x // codeOf Tryz.prog 34 = x} := ⟨_, by conv => lhs; reduce⟩
def c38 : {x // codeOf Tryz.prog 38 = x} := ⟨_, by conv => lhs; reduce⟩
def c46 : {x // codeOf Tryz.prog 46 = x} := ⟨_, by conv => lhs; reduce⟩
def c48 : {x // codeOf Tryz.prog 48 = x} := ⟨_, by conv => lhs; reduce⟩
def c49 : {x // codeOf Tryz.prog 49 = x} := ⟨_, by conv => lhs; reduce⟩
def c50 : {x // codeOf Tryz.prog 50 = x} := ⟨_, by conv => lhs; reduce⟩
def c57 : {x // codeOf Tryz.prog 57 = x} := ⟨_, by conv => lhs; reduce⟩
def c66 : {x // codeOf Tryz.prog 66 = x} := ⟨_, by conv => lhs; reduce⟩
def c72 : {x // codeOf Tryz.prog 72 = x} := ⟨_, by conv => lhs; reduce⟩
def c75 : {x // codeOf Tryz.prog 75 = x} := ⟨_, by conv => lhs; reduce⟩
def c79 : {x // codeOf Tryz.prog 79 = x} := ⟨_, by conv => lhs; reduce⟩
def c83 : {x // codeOf Tryz.prog 83 = x} := ⟨_, by conv => lhs; reduce⟩
def c87 : {x // codeOf Tryz.prog 87 = x} := ⟨_, by conv => lhs; reduce⟩
def c100 : {x // codeOf Tryz.prog 100 = x} := ⟨_, by conv => lhs; reduce⟩
def c109 : {x // codeOf Tryz.prog 109 = x} := ⟨_, by conv => lhs; reduce⟩
def c111 : {x // codeOf Tryz.prog 111 = x} := ⟨_, by conv => lhs; reduce⟩
def c114 : {x // codeOf Tryz.prog 114 = x} := ⟨_, by conv => lhs; reduce⟩
def c115 : {x // codeOf Tryz.prog 115 = x} := ⟨_, by conv => lhs; reduce⟩
def c116 : {x // codeOf Tryz.prog 116 = x} := ⟨_, by conv => lhs; reduce⟩
def c121 : {x // codeOf Tryz.prog 121 = x} := ⟨_, by conv => lhs; reduce⟩
def c122 : {x // codeOf Tryz.prog 122 = x} := ⟨_, by conv => lhs; reduce⟩
def c129 : {x // codeOf Tryz.prog 129 = x} := ⟨_, by conv => lhs; reduce⟩
def c134 : {x // codeOf Tryz.prog 134 = x} := ⟨_, by conv => lhs; reduce⟩
def c136 : {x // codeOf Tryz.prog 136 = x} := ⟨_, by conv => lhs; reduce⟩
def c141 : {x // codeOf Tryz.prog 141 = x} := ⟨_, by conv => lhs; reduce⟩
def c145 : {x // codeOf Tryz.prog 145 = x} := ⟨_, by conv => lhs; reduce⟩
def c152 : {x // codeOf Tryz.prog 152 = x} := ⟨_, by conv => lhs; reduce⟩
def c153 : {x // codeOf Tryz.prog 153 = x} := ⟨_, by conv => lhs; reduce⟩
def c154 : {x // codeOf Tryz.prog 154 = x} := ⟨_, by conv => lhs; reduce⟩
def c161 : {x // codeOf Tryz.prog 161 = x} := ⟨_, by conv => lhs; reduce⟩
def c162 : {x // codeOf Tryz.prog 162 = x} := ⟨_, by conv => lhs; reduce⟩
def c164 : {x // codeOf Tryz.prog 164 = x} := ⟨_, by conv => lhs; reduce⟩
def c169 : {x // codeOf Tryz.prog 169 = x} := ⟨_, by conv => lhs; reduce⟩
def c170 : {x // codeOf Tryz.prog 170 = x} := ⟨_, by conv => lhs; reduce⟩
def c171 : {x // codeOf Tryz.prog 171 = x} := ⟨_, by conv => lhs; reduce⟩
def c172 : {x // codeOf Tryz.prog 172 = x} := ⟨_, by conv => lhs; reduce⟩
def c175 : {x // codeOf Tryz.prog 175 = x} := ⟨_, by conv => lhs; reduce⟩
def c187 : {x // codeOf Tryz.prog 187 = x} := ⟨_, by conv => lhs; reduce⟩
def c189 : {x // codeOf Tryz.prog 189 = x} := ⟨_, by conv => lhs; reduce⟩
def c190 : {x // codeOf Tryz.prog 190 = x} := ⟨_, by conv => lhs; reduce⟩
def c197 : {x // codeOf Tryz.prog 197 = x} := ⟨_, by conv => lhs; reduce⟩
def c199 : {x // codeOf Tryz.prog 199 = x} := ⟨_, by conv => lhs; reduce⟩
def c208 : {x // codeOf Tryz.prog 208 = x} := ⟨_, by conv => lhs; reduce⟩
def c211 : {x // codeOf Tryz.prog 211 = x} := ⟨_, by conv => lhs; reduce⟩
def c212 : {x // codeOf Tryz.prog 212 = x} := ⟨_, by conv => lhs; reduce⟩
def c216 : {x // codeOf Tryz.prog 216 = x} := ⟨_, by conv => lhs; reduce⟩
def c222 : {x // codeOf Tryz.prog 222 = x} := ⟨_, by conv => lhs; reduce⟩
def c226 : {x // codeOf Tryz.prog 226 = x} := ⟨_, by conv => lhs; reduce⟩
def c231 : {x // codeOf Tryz.prog 231 = x} := ⟨_, by conv => lhs; reduce⟩
def c236 : {x // codeOf Tryz.prog 236 = x} := ⟨_, by conv => lhs; reduce⟩
def c254 : {x // codeOf Tryz.prog 254 = x} := ⟨_, by conv => lhs; reduce⟩
def c257 : {x // codeOf Tryz.prog 257 = x} := ⟨_, by conv => lhs; reduce⟩
def c258 : {x // codeOf Tryz.prog 258 = x} := ⟨_, by conv => lhs; reduce⟩
def c259 : {x // codeOf Tryz.prog 259 = x} := ⟨_, by conv => lhs; reduce⟩
def c266 : {x // codeOf Tryz.prog 266 = x} := ⟨_, by conv => lhs; reduce⟩
def c268 : {x // codeOf Tryz.prog 268 = x} := ⟨_, by conv => lhs; reduce⟩
def c271 : {x // codeOf Tryz.prog 271 = x} := ⟨_, by conv => lhs; reduce⟩
end Go.Proofs.YtklmiejnopdabaaGreatDoor
