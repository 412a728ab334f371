/- The law's function answers true, whatever the list. Printed by a program. -/
import Derived.Test.YtjgdppgagihejaaSc1
import Derived.Test.YtjgdppgagihejaaSc2
import Derived.Test.YtjgdppgagihejaaSc3
import Derived.Test.YtjgdppgagihejaaSc4
import Derived.Test.YtjgdppgagihejaaSc5
import Derived.Test.YtjgdppgagihejaaSc6
import Derived.Test.YtjgdppgagihejaaSc7
import Derived.Test.YtjgdppgagihejaaSc8
namespace Go.Proofs.Ytjgdppgagihejaa
open Go Go.Ab Go.RowKit
set_option linter.unusedVariables false
theorem sh0 (l : List Int) (h : l.length ≤ 30) : isT (runR Try.prog (codeT tabL) (ovF 12) 200 6 [.sl false 1 (symL l.length)] ⟨0, .e⟩) = true := by
  generalize l.length = n at h
  match n, h with
  | 0, _ => exact e0_0
  | 1, _ => exact e0_1
  | 2, _ => exact e0_2
  | 3, _ => exact e0_3
  | 4, _ => exact e0_4
  | 5, _ => exact e0_5
  | 6, _ => exact e0_6
  | 7, _ => exact e0_7
  | 8, _ => exact e0_8
  | 9, _ => exact e0_9
  | 10, _ => exact e0_10
  | 11, _ => exact e0_11
  | 12, _ => exact e0_12
  | 13, _ => exact e0_13
  | 14, _ => exact e0_14
  | 15, _ => exact e0_15
  | 16, _ => exact e0_16
  | 17, _ => exact e0_17
  | 18, _ => exact e0_18
  | 19, _ => exact e0_19
  | 20, _ => exact e0_20
  | 21, _ => exact e0_21
  | 22, _ => exact e0_22
  | 23, _ => exact e0_23
  | 24, _ => exact e0_24
  | 25, _ => exact e0_25
  | 26, _ => exact e0_26
  | 27, _ => exact e0_27
  | 28, _ => exact e0_28
  | 29, _ => exact e0_29
  | 30, _ => exact e0_30
  | k + 31, h => exact absurd h (by omega)
theorem law0 (l : List Int) : PureEv Try.prog 6 [avL 1 (avI .u64) l] (.bool true) := by
  by_cases h : l.length ≤ 30
  · have := law_R ⟨fun i => l.getD i 0, []⟩ mixed tabL_ok (ovF_ok first_ev) (sh0 l h)
    simp only [List.map_cons, List.map_nil, sym_len] at this
    exact this
  · have := law_R ⟨fun i => l.getD i 0, (l.drop 30).map (avI .u64)⟩ mixed tabL_ok (ovF_ok first_ev) e0_L
    simp only [List.map_cons, List.map_nil, sym_long l 30 (by omega)] at this
    exact this
end Go.Proofs.Ytjgdppgagihejaa
