/- One case: known calls, evaluated by the kernel. Printed by a program. -/
import Derived.Test.YtklmiejnopdabaaGreatDoorWh_kb7
namespace Go.Proofs.YtklmiejnopdabaaGreatDoor
set_option linter.constructorNameAsVariable false
set_option linter.unusedSimpArgs false
set_option linter.unusedVariables false
open Go Go.Ab Go.RowKit
set_option maxRecDepth 100000
set_option linter.unusedVariables false
theorem kb_e : isT (runR Tryz.prog pvZ (codeT tabL) (ovA ovL [kb6, kb7]) 200 4 [.sym .u64 (.var 0), .sym .u64 (.var 1), .bool true] ⟨0, .e, ⟨kFT, .e, 1000000000, false, 0⟩⟩) = true := by kernel_rfl
theorem kb_ev {ρ : Env} (hf : FactsOK ρ kFT) (hφ : ρ.φ = []) (hN : 1000000000 ≤ ρ.N) : PureEv Tryz.prog 4 (List.map (XV.av ρ) [.sym .u64 (.var 0), .sym .u64 (.var 1), .bool true]) (.bool true) := case_ev (ms := [kb6, kb7]) ⟨kb6_ok, kb7_ok, trivial⟩ hf hφ hN kb_e
end Go.Proofs.YtklmiejnopdabaaGreatDoor
