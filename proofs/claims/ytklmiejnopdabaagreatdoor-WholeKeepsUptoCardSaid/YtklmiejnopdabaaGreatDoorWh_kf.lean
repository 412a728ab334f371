/- One case: known calls, evaluated by the kernel. Printed by a program. -/
import Derived.Test.YtklmiejnopdabaaGreatDoorWh_kf7
namespace Go.Proofs.YtklmiejnopdabaaGreatDoor
set_option linter.constructorNameAsVariable false
set_option linter.unusedSimpArgs false
set_option linter.unusedVariables false
open Go Go.Ab Go.RowKit
set_option maxRecDepth 100000
set_option linter.unusedVariables false
theorem kf_e : isT (runR Tryz.prog pvZ (codeT tabL) (ovA ovL [kf6, kf7]) 200 4 [.sym .u64 (.var 0), .sym .u64 (.var 1), .bool false] ⟨0, .e, ⟨uF, .e, 1000000000, false, 0⟩⟩) = true := by kernel_rfl
theorem kf_ev {ρ : Env} (hf : FactsOK ρ uF) (hφ : ρ.φ = []) (hN : 1000000000 ≤ ρ.N) : PureEv Tryz.prog 4 (List.map (XV.av ρ) [.sym .u64 (.var 0), .sym .u64 (.var 1), .bool false]) (.bool true) := case_ev (ms := [kf6, kf7]) ⟨kf6_ok, kf7_ok, trivial⟩ hf hφ hN kf_e
end Go.Proofs.YtklmiejnopdabaaGreatDoor
