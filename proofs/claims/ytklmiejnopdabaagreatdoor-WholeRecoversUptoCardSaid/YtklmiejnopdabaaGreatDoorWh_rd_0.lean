/- One case: known calls, evaluated by the kernel. Printed by a program. -/
import Derived.Test.YtklmiejnopdabaaGreatDoorWh_rd7
namespace Go.Proofs.YtklmiejnopdabaaGreatDoor
set_option linter.constructorNameAsVariable false
set_option linter.unusedSimpArgs false
set_option linter.unusedVariables false
open Go Go.Ab Go.RowKit
set_option maxRecDepth 100000
set_option linter.unusedVariables false
theorem rd_ff_e : isT (runR Tryz.prog pvZ (codeT tabL) (ovA (ovC 58 [(1, false), (2, false)] ovL) [rd6, rd7]) 200 6 [.sym .u64 (.var 0), .sym .i64 (.var 1), .agg [.slt false 1 [], .sym .i64 (.var 2)]] ⟨0, .e, ⟨r3N, .e, 1000000000, false, 0⟩⟩) = true := by kernel_rfl
theorem rd_ff_ev {ρ : Env} (hf : FactsOK ρ r3N) (hφ : ρ.φ = []) (hN : 1000000000 ≤ ρ.N) {l : List Int} (ht : ρ.t = l.map (AV.int .i64)) (hl : l.length ≤ 9223372036854775807) (hp : PicksOK l [(1, false), (2, false)]) : PureEv Tryz.prog 6 (List.map (XV.av ρ) [.sym .u64 (.var 0), .sym .i64 (.var 1), .agg [.slt false 1 [], .sym .i64 (.var 2)]]) (.bool true) := case_pk (ms := [rd6, rd7]) ⟨rd6_ok, rd7_ok, trivial⟩ hf hφ hN ht hl hp rd_ff_e
theorem rd_ft_e : isT (runR Tryz.prog pvZ (codeT tabL) (ovA (ovC 58 [(1, false), (2, true)] ovL) [rd6, rd7]) 200 6 [.sym .u64 (.var 0), .sym .i64 (.var 1), .agg [.slt false 1 [], .sym .i64 (.var 2)]] ⟨0, .e, ⟨r3N, .e, 1000000000, false, 0⟩⟩) = true := by kernel_rfl
theorem rd_ft_ev {ρ : Env} (hf : FactsOK ρ r3N) (hφ : ρ.φ = []) (hN : 1000000000 ≤ ρ.N) {l : List Int} (ht : ρ.t = l.map (AV.int .i64)) (hl : l.length ≤ 9223372036854775807) (hp : PicksOK l [(1, false), (2, true)]) : PureEv Tryz.prog 6 (List.map (XV.av ρ) [.sym .u64 (.var 0), .sym .i64 (.var 1), .agg [.slt false 1 [], .sym .i64 (.var 2)]]) (.bool true) := case_pk (ms := [rd6, rd7]) ⟨rd6_ok, rd7_ok, trivial⟩ hf hφ hN ht hl hp rd_ft_e
theorem rd_tf_e : isT (runR Tryz.prog pvZ (codeT tabL) (ovA (ovC 58 [(1, true), (2, false)] ovL) [rd6, rd7]) 200 6 [.sym .u64 (.var 0), .sym .i64 (.var 1), .agg [.slt false 1 [], .sym .i64 (.var 2)]] ⟨0, .e, ⟨r3N, .e, 1000000000, false, 0⟩⟩) = true := by kernel_rfl
theorem rd_tf_ev {ρ : Env} (hf : FactsOK ρ r3N) (hφ : ρ.φ = []) (hN : 1000000000 ≤ ρ.N) {l : List Int} (ht : ρ.t = l.map (AV.int .i64)) (hl : l.length ≤ 9223372036854775807) (hp : PicksOK l [(1, true), (2, false)]) : PureEv Tryz.prog 6 (List.map (XV.av ρ) [.sym .u64 (.var 0), .sym .i64 (.var 1), .agg [.slt false 1 [], .sym .i64 (.var 2)]]) (.bool true) := case_pk (ms := [rd6, rd7]) ⟨rd6_ok, rd7_ok, trivial⟩ hf hφ hN ht hl hp rd_tf_e
theorem rd_tt_e : isT (runR Tryz.prog pvZ (codeT tabL) (ovA (ovC 58 [(1, true), (2, true)] ovL) [rd6, rd7]) 200 6 [.sym .u64 (.var 0), .sym .i64 (.var 1), .agg [.slt false 1 [], .sym .i64 (.var 2)]] ⟨0, .e, ⟨r3N, .e, 1000000000, false, 0⟩⟩) = true := by kernel_rfl
theorem rd_tt_ev {ρ : Env} (hf : FactsOK ρ r3N) (hφ : ρ.φ = []) (hN : 1000000000 ≤ ρ.N) {l : List Int} (ht : ρ.t = l.map (AV.int .i64)) (hl : l.length ≤ 9223372036854775807) (hp : PicksOK l [(1, true), (2, true)]) : PureEv Tryz.prog 6 (List.map (XV.av ρ) [.sym .u64 (.var 0), .sym .i64 (.var 1), .agg [.slt false 1 [], .sym .i64 (.var 2)]]) (.bool true) := case_pk (ms := [rd6, rd7]) ⟨rd6_ok, rd7_ok, trivial⟩ hf hφ hN ht hl hp rd_tt_e
end Go.Proofs.YtklmiejnopdabaaGreatDoor
