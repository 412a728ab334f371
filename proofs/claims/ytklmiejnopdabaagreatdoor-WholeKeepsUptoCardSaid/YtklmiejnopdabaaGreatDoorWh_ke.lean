/- One case: known calls, evaluated by the kernel. Printed by a program. -/
import Derived.Test.YtklmiejnopdabaaGreatDoorWh_ke7
namespace Go.Proofs.YtklmiejnopdabaaGreatDoor
set_option linter.constructorNameAsVariable false
set_option linter.unusedSimpArgs false
set_option linter.unusedVariables false
open Go Go.Ab Go.RowKit
set_option maxRecDepth 100000
set_option linter.unusedVariables false
theorem ke_e : isT (runR Tryz.prog pvZ (codeT tabL) (ovA ovL [ke6, ke7]) 200 4 [.sym .u64 (.var 0), .sym .u64 (.var 1), .bool false] ⟨0, .e, ⟨uT, .e, 1000000000, false, 0⟩⟩) = true := by kernel_rfl
theorem ke_ev {ρ : Env} (hf : FactsOK ρ uT) (hφ : ρ.φ = []) (hN : 1000000000 ≤ ρ.N) : PureEv Tryz.prog 4 (List.map (XV.av ρ) [.sym .u64 (.var 0), .sym .u64 (.var 1), .bool false]) (.bool true) := case_ev (ms := [ke6, ke7]) ⟨ke6_ok, ke7_ok, trivial⟩ hf hφ hN ke_e
end Go.Proofs.YtklmiejnopdabaaGreatDoor
