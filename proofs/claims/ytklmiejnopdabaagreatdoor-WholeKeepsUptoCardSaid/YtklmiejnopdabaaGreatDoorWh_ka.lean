/- One case: known calls, evaluated by the kernel. Printed by a program. -/
import Derived.Test.YtklmiejnopdabaaGreatDoorWh_ka7
namespace Go.Proofs.YtklmiejnopdabaaGreatDoor
set_option linter.constructorNameAsVariable false
set_option linter.unusedSimpArgs false
set_option linter.unusedVariables false
open Go Go.Ab Go.RowKit
set_option maxRecDepth 100000
set_option linter.unusedVariables false
theorem ka_e : isT (runR Tryz.prog pvZ (codeT tabL) (ovA ovL [ka6, ka7]) 200 4 [.sym .u64 (.var 0), .sym .u64 (.var 1), .bool true] ⟨0, .e, ⟨kTT, .e, 1000000000, false, 0⟩⟩) = true := by kernel_rfl
theorem ka_ev {ρ : Env} (hf : FactsOK ρ kTT) (hφ : ρ.φ = []) (hN : 1000000000 ≤ ρ.N) : PureEv Tryz.prog 4 (List.map (XV.av ρ) [.sym .u64 (.var 0), .sym .u64 (.var 1), .bool true]) (.bool true) := case_ev (ms := [ka6, ka7]) ⟨ka6_ok, ka7_ok, trivial⟩ hf hφ hN ka_e
end Go.Proofs.YtklmiejnopdabaaGreatDoor
