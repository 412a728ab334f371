/- One case: known calls, evaluated by the kernel. Printed by a program. -/
import Derived.Test.YtklmiejnopdabaaGreatDoorWh_rc7
namespace Go.Proofs.YtklmiejnopdabaaGreatDoor
set_option linter.constructorNameAsVariable false
set_option linter.unusedSimpArgs false
set_option linter.unusedVariables false
open Go Go.Ab Go.RowKit
set_option maxRecDepth 100000
set_option linter.unusedVariables false
theorem rc_ff_e : isT (runR Tryz.prog pvZ (codeT tabL) (ovA (ovC 58 [(1, false), (2, false)] ovL) [rc6, rc7]) 200 6 [.sym .u64 (.var 0), .sym .i64 (.var 1), .agg [.slt false 1 [], .sym .i64 (.var 2)]] ⟨0, .e, ⟨r2T, .e, 1000000000, false, 0⟩⟩) = true := by kernel_rfl
theorem rc_ff_ev {ρ : Env} (hf : FactsOK ρ r2T) (hφ : ρ.φ = []) (hN : 1000000000 ≤ ρ.N) {l : List Int} (ht : ρ.t = l.map (AV.int .i64)) (hl : l.length ≤ 9223372036854775807) (hp : PicksOK l [(1, false), (2, false)]) : PureEv Tryz.prog 6 (List.map (XV.av ρ) [.sym .u64 (.var 0), .sym .i64 (.var 1), .agg [.slt false 1 [], .sym .i64 (.var 2)]]) (.bool true) := case_pk (ms := [rc6, rc7]) ⟨rc6_ok, rc7_ok, trivial⟩ hf hφ hN ht hl hp rc_ff_e
theorem rc_ft_e : isT (runR Tryz.prog pvZ (codeT tabL) (ovA (ovC 58 [(1, false), (2, true)] ovL) [rc6, rc7]) 200 6 [.sym .u64 (.var 0), .sym .i64 (.var 1), .agg [.slt false 1 [], .sym .i64 (.var 2)]] ⟨0, .e, ⟨r2T, .e, 1000000000, false, 0⟩⟩) = true := by kernel_rfl
theorem rc_ft_ev {ρ : Env} (hf : FactsOK ρ r2T) (hφ : ρ.φ = []) (hN : 1000000000 ≤ ρ.N) {l : List Int} (ht : ρ.t = l.map (AV.int .i64)) (hl : l.length ≤ 9223372036854775807) (hp : PicksOK l [(1, false), (2, true)]) : PureEv Tryz.prog 6 (List.map (XV.av ρ) [.sym .u64 (.var 0), .sym .i64 (.var 1), .agg [.slt false 1 [], .sym .i64 (.var 2)]]) (.bool true) := case_pk (ms := [rc6, rc7]) ⟨rc6_ok, rc7_ok, trivial⟩ hf hφ hN ht hl hp rc_ft_e
theorem rc_tf_e : isT (runR Tryz.prog pvZ (codeT tabL) (ovA (ovC 58 [(1, true), (2, false)] ovL) [rc6, rc7]) 200 6 [.sym .u64 (.var 0), .sym .i64 (.var 1), .agg [.slt false 1 [], .sym .i64 (.var 2)]] ⟨0, .e, ⟨r2T, .e, 1000000000, false, 0⟩⟩) = true := by kernel_rfl
theorem rc_tf_ev {ρ : Env} (hf : FactsOK ρ r2T) (hφ : ρ.φ = []) (hN : 1000000000 ≤ ρ.N) {l : List Int} (ht : ρ.t = l.map (AV.int .i64)) (hl : l.length ≤ 9223372036854775807) (hp : PicksOK l [(1, true), (2, false)]) : PureEv Tryz.prog 6 (List.map (XV.av ρ) [.sym .u64 (.var 0), .sym .i64 (.var 1), .agg [.slt false 1 [], .sym .i64 (.var 2)]]) (.bool true) := case_pk (ms := [rc6, rc7]) ⟨rc6_ok, rc7_ok, trivial⟩ hf hφ hN ht hl hp rc_tf_e
theorem rc_tt_e : isT (runR Tryz.prog pvZ (codeT tabL) (ovA (ovC 58 [(1, true), (2, true)] ovL) [rc6, rc7]) 200 6 [.sym .u64 (.var 0), .sym .i64 (.var 1), .agg [.slt false 1 [], .sym .i64 (.var 2)]] ⟨0, .e, ⟨r2T, .e, 1000000000, false, 0⟩⟩) = true := by kernel_rfl
theorem rc_tt_ev {ρ : Env} (hf : FactsOK ρ r2T) (hφ : ρ.φ = []) (hN : 1000000000 ≤ ρ.N) {l : List Int} (ht : ρ.t = l.map (AV.int .i64)) (hl : l.length ≤ 9223372036854775807) (hp : PicksOK l [(1, true), (2, true)]) : PureEv Tryz.prog 6 (List.map (XV.av ρ) [.sym .u64 (.var 0), .sym .i64 (.var 1), .agg [.slt false 1 [], .sym .i64 (.var 2)]]) (.bool true) := case_pk (ms := [rc6, rc7]) ⟨rc6_ok, rc7_ok, trivial⟩ hf hφ hN ht hl hp rc_tt_e
end Go.Proofs.YtklmiejnopdabaaGreatDoor
