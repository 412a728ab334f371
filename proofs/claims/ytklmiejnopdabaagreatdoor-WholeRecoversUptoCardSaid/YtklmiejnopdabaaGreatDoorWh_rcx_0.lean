/- One case: known calls, evaluated by the kernel. Printed by a program. -/
import Derived.Test.YtklmiejnopdabaaGreatDoorWh_rcx7
namespace Go.Proofs.YtklmiejnopdabaaGreatDoor
set_option linter.constructorNameAsVariable false
set_option linter.unusedSimpArgs false
set_option linter.unusedVariables false
open Go Go.Ab Go.RowKit
set_option maxRecDepth 100000
set_option linter.unusedVariables false
theorem rcx_ff_e : isT (runR Tryz.prog pvZ (codeT tabL) (ovA (ovC 58 [(1, false), (2, false)] ovL) [rcx6, rcx7]) 200 6 [.sym .u64 (.var 0), .sym .i64 (.var 1), .agg [.slt false 1 [], .sym .i64 (.var 2)]] ⟨0, .e, ⟨r2F, .e, 1000000000, false, 0⟩⟩) = true := by kernel_rfl
theorem rcx_ff_ev {ρ : Env} (hf : FactsOK ρ r2F) (hφ : ρ.φ = []) (hN : 1000000000 ≤ ρ.N) {l : List Int} (ht : ρ.t = l.map (AV.int .i64)) (hl : l.length ≤ 9223372036854775807) (hp : PicksOK l [(1, false), (2, false)]) : PureEv Tryz.prog 6 (List.map (XV.av ρ) [.sym .u64 (.var 0), .sym .i64 (.var 1), .agg [.slt false 1 [], .sym .i64 (.var 2)]]) (.bool true) := case_pk (ms := [rcx6, rcx7]) ⟨rcx6_ok, rcx7_ok, trivial⟩ hf hφ hN ht hl hp rcx_ff_e
theorem rcx_ft_e : isT (runR Tryz.prog pvZ (codeT tabL) (ovA (ovC 58 [(1, false), (2, true)] ovL) [rcx6, rcx7]) 200 6 [.sym .u64 (.var 0), .sym .i64 (.var 1), .agg [.slt false 1 [], .sym .i64 (.var 2)]] ⟨0, .e, ⟨r2F, .e, 1000000000, false, 0⟩⟩) = true := by kernel_rfl
theorem rcx_ft_ev {ρ : Env} (hf : FactsOK ρ r2F) (hφ : ρ.φ = []) (hN : 1000000000 ≤ ρ.N) {l : List Int} (ht : ρ.t = l.map (AV.int .i64)) (hl : l.length ≤ 9223372036854775807) (hp : PicksOK l [(1, false), (2, true)]) : PureEv Tryz.prog 6 (List.map (XV.av ρ) [.sym .u64 (.var 0), .sym .i64 (.var 1), .agg [.slt false 1 [], .sym .i64 (.var 2)]]) (.bool true) := case_pk (ms := [rcx6, rcx7]) ⟨rcx6_ok, rcx7_ok, trivial⟩ hf hφ hN ht hl hp rcx_ft_e
theorem rcx_tf_e : isT (runR Tryz.prog pvZ (codeT tabL) (ovA (ovC 58 [(1, true), (2, false)] ovL) [rcx6, rcx7]) 200 6 [.sym .u64 (.var 0), .sym .i64 (.var 1), .agg [.slt false 1 [], .sym .i64 (.var 2)]] ⟨0, .e, ⟨r2F, .e, 1000000000, false, 0⟩⟩) = true := by kernel_rfl
theorem rcx_tf_ev {ρ : Env} (hf : FactsOK ρ r2F) (hφ : ρ.φ = []) (hN : 1000000000 ≤ ρ.N) {l : List Int} (ht : ρ.t = l.map (AV.int .i64)) (hl : l.length ≤ 9223372036854775807) (hp : PicksOK l [(1, true), (2, false)]) : PureEv Tryz.prog 6 (List.map (XV.av ρ) [.sym .u64 (.var 0), .sym .i64 (.var 1), .agg [.slt false 1 [], .sym .i64 (.var 2)]]) (.bool true) := case_pk (ms := [rcx6, rcx7]) ⟨rcx6_ok, rcx7_ok, trivial⟩ hf hφ hN ht hl hp rcx_tf_e
theorem rcx_tt_e : isT (runR Tryz.prog pvZ (codeT tabL) (ovA (ovC 58 [(1, true), (2, true)] ovL) [rcx6, rcx7]) 200 6 [.sym .u64 (.var 0), .sym .i64 (.var 1), .agg [.slt false 1 [], .sym .i64 (.var 2)]] ⟨0, .e, ⟨r2F, .e, 1000000000, false, 0⟩⟩) = true := by kernel_rfl
theorem rcx_tt_ev {ρ : Env} (hf : FactsOK ρ r2F) (hφ : ρ.φ = []) (hN : 1000000000 ≤ ρ.N) {l : List Int} (ht : ρ.t = l.map (AV.int .i64)) (hl : l.length ≤ 9223372036854775807) (hp : PicksOK l [(1, true), (2, true)]) : PureEv Tryz.prog 6 (List.map (XV.av ρ) [.sym .u64 (.var 0), .sym .i64 (.var 1), .agg [.slt false 1 [], .sym .i64 (.var 2)]]) (.bool true) := case_pk (ms := [rcx6, rcx7]) ⟨rcx6_ok, rcx7_ok, trivial⟩ hf hφ hN ht hl hp rcx_tt_e
end Go.Proofs.YtklmiejnopdabaaGreatDoor
