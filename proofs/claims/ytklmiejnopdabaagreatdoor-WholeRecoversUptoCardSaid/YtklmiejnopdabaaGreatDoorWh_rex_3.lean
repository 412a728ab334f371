/- One case: known calls, evaluated by the kernel. Printed by a program. -/
import Derived.Test.YtklmiejnopdabaaGreatDoorWh_rex8
namespace Go.Proofs.YtklmiejnopdabaaGreatDoor
set_option linter.constructorNameAsVariable false
set_option linter.unusedSimpArgs false
set_option linter.unusedVariables false
open Go Go.Ab Go.RowKit
set_option maxRecDepth 100000
set_option linter.unusedVariables false
theorem rex_ttf_e : isT (runR Tryz.prog pvZ (codeT tabL) (ovA (ovC 58 [(1, true), (2, true), (3, false)] ovL) [rex6, rex7, rex8]) 200 6 [.sym .u64 (.var 0), .sym .i64 (.var 1), .agg [.slt false 1 [], .sym .i64 (.var 2)]] ⟨0, .e, ⟨r4F, .e, 1000000000, false, 0⟩⟩) = true := by kernel_rfl
theorem rex_ttf_ev {ρ : Env} (hf : FactsOK ρ r4F) (hφ : ρ.φ = []) (hN : 1000000000 ≤ ρ.N) {l : List Int} (ht : ρ.t = l.map (AV.int .i64)) (hl : l.length ≤ 9223372036854775807) (hp : PicksOK l [(1, true), (2, true), (3, false)]) : PureEv Tryz.prog 6 (List.map (XV.av ρ) [.sym .u64 (.var 0), .sym .i64 (.var 1), .agg [.slt false 1 [], .sym .i64 (.var 2)]]) (.bool true) := case_pk (ms := [rex6, rex7, rex8]) ⟨rex6_ok, rex7_ok, rex8_ok, trivial⟩ hf hφ hN ht hl hp rex_ttf_e
end Go.Proofs.YtklmiejnopdabaaGreatDoor
