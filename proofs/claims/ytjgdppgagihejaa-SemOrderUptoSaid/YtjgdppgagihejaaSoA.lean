/- The law's function answers true, whatever the list. Printed by a program. -/
import Derived.Test.YtjgdppgagihejaaSo1
import Derived.Test.YtjgdppgagihejaaSo2
import Derived.Test.YtjgdppgagihejaaSo3
import Derived.Test.YtjgdppgagihejaaSo4
import Derived.Test.YtjgdppgagihejaaSo5
import Derived.Test.YtjgdppgagihejaaSo6
import Derived.Test.YtjgdppgagihejaaSo7
import Derived.Test.YtjgdppgagihejaaSo8
import Derived.Test.YtjgdppgagihejaaSo9
import Derived.Test.YtjgdppgagihejaaSo10
import Derived.Test.YtjgdppgagihejaaSo11
import Derived.Test.YtjgdppgagihejaaSo12
import Derived.Test.YtjgdppgagihejaaSo13
import Derived.Test.YtjgdppgagihejaaSo14
import Derived.Test.YtjgdppgagihejaaSo15
import Derived.Test.YtjgdppgagihejaaSo16
import Derived.Test.YtjgdppgagihejaaSo17
namespace Go.Proofs.Ytjgdppgagihejaa
open Go Go.Ab Go.RowKit
set_option linter.unusedVariables false
theorem sh0 (l : List Int) (h : l.length ≤ 40) : isT (runR Try.prog (codeT tabL) (ovF 12) 200 5 [.sl false 1 (symL l.length), .bool true] .nil) = true := by
  generalize l.length = n at h
  match n, h with
  | 0, _ => exact e0_0
  | 1, _ => exact e0_1
  | 2, _ => exact e0_2
  | 3, _ => exact e0_3
  | 4, _ => exact e0_4
  | 5, _ => exact e0_5
  | 6, _ => exact e0_6
  | 7, _ => exact e0_7
  | 8, _ => exact e0_8
  | 9, _ => exact e0_9
  | 10, _ => exact e0_10
  | 11, _ => exact e0_11
  | 12, _ => exact e0_12
  | 13, _ => exact e0_13
  | 14, _ => exact e0_14
  | 15, _ => exact e0_15
  | 16, _ => exact e0_16
  | 17, _ => exact e0_17
  | 18, _ => exact e0_18
  | 19, _ => exact e0_19
  | 20, _ => exact e0_20
  | 21, _ => exact e0_21
  | 22, _ => exact e0_22
  | 23, _ => exact e0_23
  | 24, _ => exact e0_24
  | 25, _ => exact e0_25
  | 26, _ => exact e0_26
  | 27, _ => exact e0_27
  | 28, _ => exact e0_28
  | 29, _ => exact e0_29
  | 30, _ => exact e0_30
  | 31, _ => exact e0_31
  | 32, _ => exact e0_32
  | 33, _ => exact e0_33
  | 34, _ => exact e0_34
  | 35, _ => exact e0_35
  | 36, _ => exact e0_36
  | 37, _ => exact e0_37
  | 38, _ => exact e0_38
  | 39, _ => exact e0_39
  | 40, _ => exact e0_40
  | k + 41, h => exact absurd h (by omega)
theorem law0 (l : List Int) : PureEv Try.prog 5 [avL 1 (avI .u64) l, XV.av ⟨fun _ => 0, []⟩ (.bool true)] (.bool true) := by
  by_cases h : l.length ≤ 40
  · have := law_R ⟨fun i => l.getD i 0, []⟩ (fs := []) nofun mixed tabL_ok (ovF_ok first_ev) (sh0 l h)
    simp only [List.map_cons, List.map_nil, sym_len] at this
    exact this
  · have := law_R ⟨fun i => l.getD i 0, (l.drop 40).map (avI .u64)⟩ (fs := []) nofun mixed tabL_ok (ovF_ok first_ev) e0_L
    simp only [List.map_cons, List.map_nil, sym_long l 40 (by omega)] at this
    exact this
theorem sh1 (l : List Int) (h : l.length ≤ 40) : isT (runR Try.prog (codeT tabL) (ovF 12) 200 5 [.sl false 1 (symL l.length), .bool false] .nil) = true := by
  generalize l.length = n at h
  match n, h with
  | 0, _ => exact e1_0
  | 1, _ => exact e1_1
  | 2, _ => exact e1_2
  | 3, _ => exact e1_3
  | 4, _ => exact e1_4
  | 5, _ => exact e1_5
  | 6, _ => exact e1_6
  | 7, _ => exact e1_7
  | 8, _ => exact e1_8
  | 9, _ => exact e1_9
  | 10, _ => exact e1_10
  | 11, _ => exact e1_11
  | 12, _ => exact e1_12
  | 13, _ => exact e1_13
  | 14, _ => exact e1_14
  | 15, _ => exact e1_15
  | 16, _ => exact e1_16
  | 17, _ => exact e1_17
  | 18, _ => exact e1_18
  | 19, _ => exact e1_19
  | 20, _ => exact e1_20
  | 21, _ => exact e1_21
  | 22, _ => exact e1_22
  | 23, _ => exact e1_23
  | 24, _ => exact e1_24
  | 25, _ => exact e1_25
  | 26, _ => exact e1_26
  | 27, _ => exact e1_27
  | 28, _ => exact e1_28
  | 29, _ => exact e1_29
  | 30, _ => exact e1_30
  | 31, _ => exact e1_31
  | 32, _ => exact e1_32
  | 33, _ => exact e1_33
  | 34, _ => exact e1_34
  | 35, _ => exact e1_35
  | 36, _ => exact e1_36
  | 37, _ => exact e1_37
  | 38, _ => exact e1_38
  | 39, _ => exact e1_39
  | 40, _ => exact e1_40
  | k + 41, h => exact absurd h (by omega)
theorem law1 (l : List Int) : PureEv Try.prog 5 [avL 1 (avI .u64) l, XV.av ⟨fun _ => 0, []⟩ (.bool false)] (.bool true) := by
  by_cases h : l.length ≤ 40
  · have := law_R ⟨fun i => l.getD i 0, []⟩ (fs := []) nofun mixed tabL_ok (ovF_ok first_ev) (sh1 l h)
    simp only [List.map_cons, List.map_nil, sym_len] at this
    exact this
  · have := law_R ⟨fun i => l.getD i 0, (l.drop 40).map (avI .u64)⟩ (fs := []) nofun mixed tabL_ok (ovF_ok first_ev) e1_L
    simp only [List.map_cons, List.map_nil, sym_long l 40 (by omega)] at this
    exact this
end Go.Proofs.Ytjgdppgagihejaa
