/- One case: known calls, evaluated by the kernel. Printed by a program. -/
import Derived.Test.YtklmiejnopdabaaGreatDoorWh_nc6
namespace Go.Proofs.YtklmiejnopdabaaGreatDoor
set_option linter.constructorNameAsVariable false
set_option linter.unusedSimpArgs false
set_option linter.unusedVariables false
open Go Go.Ab Go.RowKit
set_option maxRecDepth 100000
set_option linter.unusedVariables false
theorem nc_e : isT (runR Tryz.prog pvZ (codeT tabL) (ovA ovL [nc5, nc6]) 200 3 [.bool false, .bool true] ⟨0, .e, ⟨fs0, .e, 1000000000, false, 0⟩⟩) = true := by kernel_rfl
theorem nc_ev {ρ : Env} (hf : FactsOK ρ fs0) (hφ : ρ.φ = []) (hN : 1000000000 ≤ ρ.N) : PureEv Tryz.prog 3 (List.map (XV.av ρ) [.bool false, .bool true]) (.bool true) := case_ev (ms := [nc5, nc6]) ⟨nc5_ok, nc6_ok, trivial⟩ hf hφ hN nc_e
end Go.Proofs.YtklmiejnopdabaaGreatDoor
