/- One case: known calls, evaluated by the kernel. Printed by a program. -/
import Derived.Test.YtklmiejnopdabaaGreatDoorWh_kd7
namespace Go.Proofs.YtklmiejnopdabaaGreatDoor
set_option linter.constructorNameAsVariable false
set_option linter.unusedSimpArgs false
set_option linter.unusedVariables false
open Go Go.Ab Go.RowKit
set_option maxRecDepth 100000
set_option linter.unusedVariables false
theorem kd_e : isT (runR Tryz.prog pvZ (codeT tabL) (ovA ovL [kd6, kd7]) 200 4 [.sym .u64 (.var 0), .sym .u64 (.var 1), .bool true] ⟨0, .e, ⟨kFF, .e, 1000000000, false, 0⟩⟩) = true := by kernel_rfl
theorem kd_ev {ρ : Env} (hf : FactsOK ρ kFF) (hφ : ρ.φ = []) (hN : 1000000000 ≤ ρ.N) : PureEv Tryz.prog 4 (List.map (XV.av ρ) [.sym .u64 (.var 0), .sym .u64 (.var 1), .bool true]) (.bool true) := case_ev (ms := [kd6, kd7]) ⟨kd6_ok, kd7_ok, trivial⟩ hf hφ hN kd_e
end Go.Proofs.YtklmiejnopdabaaGreatDoor
