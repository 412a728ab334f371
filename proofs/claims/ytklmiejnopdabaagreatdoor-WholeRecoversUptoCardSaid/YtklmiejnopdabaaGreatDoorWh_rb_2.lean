/- One case: known calls, evaluated by the kernel. Printed by a program. -/
import Derived.Test.YtklmiejnopdabaaGreatDoorWh_rb7
namespace Go.Proofs.YtklmiejnopdabaaGreatDoor
set_option linter.constructorNameAsVariable false
set_option linter.unusedSimpArgs false
set_option linter.unusedVariables false
open Go Go.Ab Go.RowKit
set_option maxRecDepth 100000
set_option linter.unusedVariables false
theorem rb_tff_e : isT (runR Tryz.prog pvZ (codeT tabL) (ovA (ovC 58 [(1, true), (2, false), (3, false)] ovL) [rb6, rb7]) 200 6 [.sym .u64 (.var 0), .sym .i64 (.var 1), .agg [.slt false 1 [], .sym .i64 (.var 2)]] ⟨0, .e, ⟨r1T, .e, 1000000000, false, 0⟩⟩) = true := by kernel_rfl
theorem rb_tff_ev {ρ : Env} (hf : FactsOK ρ r1T) (hφ : ρ.φ = []) (hN : 1000000000 ≤ ρ.N) {l : List Int} (ht : ρ.t = l.map (AV.int .i64)) (hl : l.length ≤ 9223372036854775807) (hp : PicksOK l [(1, true), (2, false), (3, false)]) : PureEv Tryz.prog 6 (List.map (XV.av ρ) [.sym .u64 (.var 0), .sym .i64 (.var 1), .agg [.slt false 1 [], .sym .i64 (.var 2)]]) (.bool true) := case_pk (ms := [rb6, rb7]) ⟨rb6_ok, rb7_ok, trivial⟩ hf hφ hN ht hl hp rb_tff_e
theorem rb_tft_e : isT (runR Tryz.prog pvZ (codeT tabL) (ovA (ovC 58 [(1, true), (2, false), (3, true)] ovL) [rb6, rb7]) 200 6 [.sym .u64 (.var 0), .sym .i64 (.var 1), .agg [.slt false 1 [], .sym .i64 (.var 2)]] ⟨0, .e, ⟨r1T, .e, 1000000000, false, 0⟩⟩) = true := by kernel_rfl
theorem rb_tft_ev {ρ : Env} (hf : FactsOK ρ r1T) (hφ : ρ.φ = []) (hN : 1000000000 ≤ ρ.N) {l : List Int} (ht : ρ.t = l.map (AV.int .i64)) (hl : l.length ≤ 9223372036854775807) (hp : PicksOK l [(1, true), (2, false), (3, true)]) : PureEv Tryz.prog 6 (List.map (XV.av ρ) [.sym .u64 (.var 0), .sym .i64 (.var 1), .agg [.slt false 1 [], .sym .i64 (.var 2)]]) (.bool true) := case_pk (ms := [rb6, rb7]) ⟨rb6_ok, rb7_ok, trivial⟩ hf hφ hN ht hl hp rb_tft_e
end Go.Proofs.YtklmiejnopdabaaGreatDoor
