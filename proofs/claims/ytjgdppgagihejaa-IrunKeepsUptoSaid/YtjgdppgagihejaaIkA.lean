/- IrunKeeps, evaluated by the kernel for each register. Printed by a program. -/
import Derived.Test.YtjgdppgagihejaaIk1
import Derived.Test.YtjgdppgagihejaaIk2
namespace Go.Proofs.Ytjgdppgagihejaa
open Go Go.Ab Go.RowKit
set_option maxRecDepth 100000
set_option linter.unusedVariables false
theorem kAll (p : Nat) (h : p < 16) : isT (runR Try.prog (codeT tabL) (ovF 10) 200 3 [.sym .i64 (.var 0), .sym .u64 (.var 1), .sym .u64 (.var 2)] ⟨0, .e, [(rem16, p)]⟩) = true := by
  match p, h with
  | 0, _ => exact k0
  | 1, _ => exact k1
  | 2, _ => exact k2
  | 3, _ => exact k3
  | 4, _ => exact k4
  | 5, _ => exact k5
  | 6, _ => exact k6
  | 7, _ => exact k7
  | 8, _ => exact k8
  | 9, _ => exact k9
  | 10, _ => exact k10
  | 11, _ => exact k11
  | 12, _ => exact k12
  | 13, _ => exact k13
  | 14, _ => exact k14
  | 15, _ => exact k15
  | n + 16, h => exact absurd h (by omega)
theorem rem16_ok (ρ : Env) : ∃ p : Nat, p < 16 ∧ rem16.val ρ = (p : Int) := by
  have h0 : 0 ≤ IntKind.u64.wrap (ρ.v 0) := by
    have e : IntKind.u64.wrap (ρ.v 0) = (ρ.v 0) % (2 ^ IntKind.u64.bits : Int) := rfl
    rw [e]; exact Int.emod_nonneg _ (by decide)
  have e : rem16.val ρ = (IntKind.u64.wrap (ρ.v 0)).tmod 16 := rfl
  refine ⟨((IntKind.u64.wrap (ρ.v 0)).tmod 16).toNat, ?_, ?_⟩
  · rw [Int.tmod_eq_emod_of_nonneg h0]; omega
  · rw [e, Int.tmod_eq_emod_of_nonneg h0]; omega
theorem law0 (r v u : Int) : PureEv Try.prog 3 [avI .i64 r, avI .u64 v, avI .u64 u] (.bool true) := by
  obtain ⟨p, hp, he⟩ := rem16_ok ⟨fun i => [r, v, u].getD i 0, []⟩
  have hf : FactsOK ⟨fun i => [r, v, u].getD i 0, []⟩ [(rem16, p)] := by
    intro q hq
    simp only [List.mem_singleton] at hq
    subst hq; exact he
  have := law_R _ hf mixed tabL_ok (ovF_ok first_ev) (kAll p hp)
  exact this
end Go.Proofs.Ytjgdppgagihejaa
