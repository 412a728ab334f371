/- One case: known calls, evaluated by the kernel. Printed by a program. -/
import Derived.Test.YtklmiejnopdabaaGreatDoorWh_na5
namespace Go.Proofs.YtklmiejnopdabaaGreatDoor
set_option linter.constructorNameAsVariable false
set_option linter.unusedSimpArgs false
set_option linter.unusedVariables false
open Go Go.Ab Go.RowKit
set_option maxRecDepth 100000
set_option linter.unusedVariables false
theorem na_e : isT (runR Tryz.prog pvZ (codeT tabL) (ovA ovL [na5]) 200 3 [.bool false, .bool false] ⟨0, .e, ⟨fs0, .e, 1000000000, false, 0⟩⟩) = true := by kernel_rfl
theorem na_ev {ρ : Env} (hf : FactsOK ρ fs0) (hφ : ρ.φ = []) (hN : 1000000000 ≤ ρ.N) : PureEv Tryz.prog 3 (List.map (XV.av ρ) [.bool false, .bool false]) (.bool true) := case_ev (ms := [na5]) ⟨na5_ok, trivial⟩ hf hφ hN na_e
end Go.Proofs.YtklmiejnopdabaaGreatDoor
