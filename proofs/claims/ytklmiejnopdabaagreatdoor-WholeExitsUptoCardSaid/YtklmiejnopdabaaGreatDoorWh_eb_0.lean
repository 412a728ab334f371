/- One case: known calls, evaluated by the kernel. Printed by a program. -/
import Derived.Test.YtklmiejnopdabaaGreatDoorWh_eb7
namespace Go.Proofs.YtklmiejnopdabaaGreatDoor
set_option linter.constructorNameAsVariable false
set_option linter.unusedSimpArgs false
set_option linter.unusedVariables false
open Go Go.Ab Go.RowKit
set_option maxRecDepth 100000
set_option linter.unusedVariables false
theorem eb_ff_e : isT (runR Tryz.prog pvZ (codeT tabL) (ovA (ovC 58 [(1, false), (2, false)] ovL) [eb6, eb7]) 200 5 [.sym .u64 (.var 0), .sym .i64 (.var 1), .agg [.slt false 1 [], .sym .i64 (.var 2)]] ⟨0, .e, ⟨e1T, .e, 1000000000, false, 0⟩⟩) = true := by kernel_rfl
theorem eb_ff_ev {ρ : Env} (hf : FactsOK ρ e1T) (hφ : ρ.φ = []) (hN : 1000000000 ≤ ρ.N) {l : List Int} (ht : ρ.t = l.map (AV.int .i64)) (hl : l.length ≤ 9223372036854775807) (hp : PicksOK l [(1, false), (2, false)]) : PureEv Tryz.prog 5 (List.map (XV.av ρ) [.sym .u64 (.var 0), .sym .i64 (.var 1), .agg [.slt false 1 [], .sym .i64 (.var 2)]]) (.bool true) := case_pk (ms := [eb6, eb7]) ⟨eb6_ok, eb7_ok, trivial⟩ hf hφ hN ht hl hp eb_ff_e
theorem eb_ft_e : isT (runR Tryz.prog pvZ (codeT tabL) (ovA (ovC 58 [(1, false), (2, true)] ovL) [eb6, eb7]) 200 5 [.sym .u64 (.var 0), .sym .i64 (.var 1), .agg [.slt false 1 [], .sym .i64 (.var 2)]] ⟨0, .e, ⟨e1T, .e, 1000000000, false, 0⟩⟩) = true := by kernel_rfl
theorem eb_ft_ev {ρ : Env} (hf : FactsOK ρ e1T) (hφ : ρ.φ = []) (hN : 1000000000 ≤ ρ.N) {l : List Int} (ht : ρ.t = l.map (AV.int .i64)) (hl : l.length ≤ 9223372036854775807) (hp : PicksOK l [(1, false), (2, true)]) : PureEv Tryz.prog 5 (List.map (XV.av ρ) [.sym .u64 (.var 0), .sym .i64 (.var 1), .agg [.slt false 1 [], .sym .i64 (.var 2)]]) (.bool true) := case_pk (ms := [eb6, eb7]) ⟨eb6_ok, eb7_ok, trivial⟩ hf hφ hN ht hl hp eb_ft_e
theorem eb_tf_e : isT (runR Tryz.prog pvZ (codeT tabL) (ovA (ovC 58 [(1, true), (2, false)] ovL) [eb6, eb7]) 200 5 [.sym .u64 (.var 0), .sym .i64 (.var 1), .agg [.slt false 1 [], .sym .i64 (.var 2)]] ⟨0, .e, ⟨e1T, .e, 1000000000, false, 0⟩⟩) = true := by kernel_rfl
theorem eb_tf_ev {ρ : Env} (hf : FactsOK ρ e1T) (hφ : ρ.φ = []) (hN : 1000000000 ≤ ρ.N) {l : List Int} (ht : ρ.t = l.map (AV.int .i64)) (hl : l.length ≤ 9223372036854775807) (hp : PicksOK l [(1, true), (2, false)]) : PureEv Tryz.prog 5 (List.map (XV.av ρ) [.sym .u64 (.var 0), .sym .i64 (.var 1), .agg [.slt false 1 [], .sym .i64 (.var 2)]]) (.bool true) := case_pk (ms := [eb6, eb7]) ⟨eb6_ok, eb7_ok, trivial⟩ hf hφ hN ht hl hp eb_tf_e
theorem eb_tt_e : isT (runR Tryz.prog pvZ (codeT tabL) (ovA (ovC 58 [(1, true), (2, true)] ovL) [eb6, eb7]) 200 5 [.sym .u64 (.var 0), .sym .i64 (.var 1), .agg [.slt false 1 [], .sym .i64 (.var 2)]] ⟨0, .e, ⟨e1T, .e, 1000000000, false, 0⟩⟩) = true := by kernel_rfl
theorem eb_tt_ev {ρ : Env} (hf : FactsOK ρ e1T) (hφ : ρ.φ = []) (hN : 1000000000 ≤ ρ.N) {l : List Int} (ht : ρ.t = l.map (AV.int .i64)) (hl : l.length ≤ 9223372036854775807) (hp : PicksOK l [(1, true), (2, true)]) : PureEv Tryz.prog 5 (List.map (XV.av ρ) [.sym .u64 (.var 0), .sym .i64 (.var 1), .agg [.slt false 1 [], .sym .i64 (.var 2)]]) (.bool true) := case_pk (ms := [eb6, eb7]) ⟨eb6_ok, eb7_ok, trivial⟩ hf hφ hN ht hl hp eb_tt_e
end Go.Proofs.YtklmiejnopdabaaGreatDoor
