/- One case: known calls, evaluated by the kernel. Printed by a program. -/
import Derived.Test.YtklmiejnopdabaaGreatDoorWh_kc7
namespace Go.Proofs.YtklmiejnopdabaaGreatDoor
set_option linter.constructorNameAsVariable false
set_option linter.unusedSimpArgs false
set_option linter.unusedVariables false
open Go Go.Ab Go.RowKit
set_option maxRecDepth 100000
set_option linter.unusedVariables false
theorem kc_e : isT (runR Tryz.prog pvZ (codeT tabL) (ovA ovL [kc6, kc7]) 200 4 [.sym .u64 (.var 0), .sym .u64 (.var 1), .bool true] ⟨0, .e, ⟨kTF, .e, 1000000000, false, 0⟩⟩) = true := by kernel_rfl
theorem kc_ev {ρ : Env} (hf : FactsOK ρ kTF) (hφ : ρ.φ = []) (hN : 1000000000 ≤ ρ.N) : PureEv Tryz.prog 4 (List.map (XV.av ρ) [.sym .u64 (.var 0), .sym .u64 (.var 1), .bool true]) (.bool true) := case_ev (ms := [kc6, kc7]) ⟨kc6_ok, kc7_ok, trivial⟩ hf hφ hN kc_e
end Go.Proofs.YtklmiejnopdabaaGreatDoor
