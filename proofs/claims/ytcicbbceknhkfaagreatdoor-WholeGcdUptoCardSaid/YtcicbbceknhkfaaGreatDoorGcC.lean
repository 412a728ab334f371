/- WholeGcd: the program and its image, as values. -/
import Derived.Test.YtcicbbceknhkfaaGreatDoorGc1
import Derived.Test.YtcicbbceknhkfaaGreatDoorWlL7
import Derived.Test.YtcicbbceknhkfaaGreatDoorGc_gm2
import Derived.Test.YtcicbbceknhkfaaGreatDoorGc_gm4
import Derived.Test.YtcicbbceknhkfaaGreatDoorGc_gm5
namespace Go.Proofs.YtcicbbceknhkfaaGreatDoor
set_option linter.constructorNameAsVariable false
set_option linter.unusedSimpArgs false
set_option linter.unusedVariables false
open Go Go.Ab Go.RowKit
abbrev ins (o a : Nat) : XV := .agg [.int .u8 (.ofNat o), .int .i64 (.ofNat a), .int .u64 0]
def progV : XV := .agg [.sl false 5 [.agg [.int .i64 0, .sl false 1 [.int .u8 0, .int .u8 0, .int .u8 0], .bool false, .int .i64 (-1), .sl false 3 [ins 28 0, ins 3 0, ins 28 0, ins 3 1, ins 2 1, ins 22 15, ins 2 0, ins 2 1, ins 11 0, ins 3 2, ins 2 1, ins 3 0, ins 2 2, ins 3 1, ins 21 4, ins 2 0, ins 29 0, ins 24 0]]]]
def imgT : XV := .tup [.agg [.sl false 1 [.int .u8 13, .int .u8 0, .int .u8 0, .int .u8 0, .int .u8 0, .int .u8 0, .int .u8 0, .int .u8 0, .int .u8 13, .int .u8 0, .int .u8 0, .int .u8 0, .int .u8 1, .int .u8 0, .int .u8 0, .int .u8 0, .int .u8 11, .int .u8 0, .int .u8 0, .int .u8 0, .int .u8 0, .int .u8 0, .int .u8 0, .int .u8 0, .int .u8 13, .int .u8 0, .int .u8 0, .int .u8 0, .int .u8 3, .int .u8 0, .int .u8 0, .int .u8 0, .int .u8 3, .int .u8 1, .int .u8 0, .int .u8 0, .int .u8 0, .int .u8 0, .int .u8 0, .int .u8 0, .int .u8 13, .int .u8 0, .int .u8 0, .int .u8 0, .int .u8 3, .int .u8 0, .int .u8 0, .int .u8 0, .int .u8 3, .int .u8 2, .int .u8 0, .int .u8 0, .int .u8 0, .int .u8 0, .int .u8 0, .int .u8 0, .int .u8 3, .int .u8 0, .int .u8 2, .int .u8 0, .int .u8 0, .int .u8 0, .int .u8 0, .int .u8 0, .int .u8 8, .int .u8 0, .int .u8 0, .int .u8 0, .int .u8 19, .int .u8 0, .int .u8 0, .int .u8 0, .int .u8 3, .int .u8 0, .int .u8 1, .int .u8 0, .int .u8 0, .int .u8 0, .int .u8 0, .int .u8 0, .int .u8 3, .int .u8 3, .int .u8 2, .int .u8 0, .int .u8 0, .int .u8 0, .int .u8 0, .int .u8 0, .int .u8 8, .int .u8 0, .int .u8 3, .int .u8 0, .int .u8 24, .int .u8 0, .int .u8 0, .int .u8 0, .int .u8 43, .int .u8 0, .int .u8 0, .int .u8 3, .int .u8 0, .int .u8 0, .int .u8 0, .int .u8 0, .int .u8 3, .int .u8 3, .int .u8 0, .int .u8 0, .int .u8 0, .int .u8 0, .int .u8 0, .int .u8 0, .int .u8 3, .int .u8 0, .int .u8 2, .int .u8 0, .int .u8 0, .int .u8 0, .int .u8 0, .int .u8 0, .int .u8 3, .int .u8 1, .int .u8 0, .int .u8 0, .int .u8 0, .int .u8 0, .int .u8 0, .int .u8 0, .int .u8 3, .int .u8 0, .int .u8 3, .int .u8 0, .int .u8 0, .int .u8 0, .int .u8 0, .int .u8 0, .int .u8 3, .int .u8 2, .int .u8 0, .int .u8 0, .int .u8 0, .int .u8 0, .int .u8 0, .int .u8 0, .int .u8 7, .int .u8 0, .int .u8 0, .int .u8 0, .int .u8 7, .int .u8 0, .int .u8 0, .int .u8 0, .int .u8 3, .int .u8 0, .int .u8 1, .int .u8 0, .int .u8 0, .int .u8 0, .int .u8 0, .int .u8 0, .int .u8 13, .int .u8 0, .int .u8 0, .int .u8 0, .int .u8 2, .int .u8 0, .int .u8 0, .int .u8 0, .int .u8 7, .int .u8 0, .int .u8 0, .int .u8 0, .int .u8 22, .int .u8 0, .int .u8 0, .int .u8 0, .int .u8 12, .int .u8 0, .int .u8 0, .int .u8 0, .int .u8 0, .int .u8 0, .int .u8 0, .int .u8 0, .int .u8 10, .int .u8 0, .int .u8 0, .int .u8 0, .int .u8 0, .int .u8 0, .int .u8 0, .int .u8 0, .int .u8 1, .int .u8 13, .int .u8 0, .int .u8 0, .int .u8 255, .int .u8 255, .int .u8 255, .int .u8 255, .int .u8 13, .int .u8 0, .int .u8 13, .int .u8 0, .int .u8 5, .int .u8 0, .int .u8 0, .int .u8 0], .sl false 6 [.agg [.int .i64 2, .int .i64 26, .int .i64 0, .nils, .nils, .int .i64 (-1)]], .nils], .bool true]
end Go.Proofs.YtcicbbceknhkfaaGreatDoor
/- WholeGcd: known calls on the way to the image, evaluated by the kernel. Printed by a program. -/
namespace Go.Proofs.YtcicbbceknhkfaaGreatDoor
set_option linter.constructorNameAsVariable false
set_option linter.unusedSimpArgs false
set_option linter.unusedVariables false
open Go Go.Ab Go.RowKit
set_option maxRecDepth 100000
set_option linter.unusedVariables false
theorem compiled_e : isZ imgT (runR Tryz.prog pvZ (codeT tabL) (ovA ovL [gm2, gm4, gm5]) 200 10 [progV] ⟨0, .e, ⟨[], .e, 1000000000, false, 0⟩⟩) = true := by kernel_rfl
theorem compiled_ev (ρ : Env) (ht : blwL 0 ρ.t = true) (hφ : ρ.φ = []) (hN : 1000000000 ≤ ρ.N) : PureEv Tryz.prog 10 (List.map (XV.av ρ) [progV]) (imgT.av ρ) := call_Z ρ ht (fs := []) nofun pvZ_ok mixed hφ hN tabL_ok (ovA_ok (fs := []) nofun ovL_ok (ms := [gm2, gm4, gm5]) ⟨gm2_ok, gm4_ok, gm5_ok, trivial⟩) compiled_e
end Go.Proofs.YtcicbbceknhkfaaGreatDoor
