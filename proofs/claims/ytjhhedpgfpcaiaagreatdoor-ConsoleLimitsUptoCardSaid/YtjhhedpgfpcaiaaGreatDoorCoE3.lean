/- ConsoleLimits: the lines that ask for the program's meaning and its run, and one that is not known, evaluated by the kernel. Printed by a program. -/
import Derived.Test.YtjhhedpgfpcaiaaGreatDoorCoE2
namespace Go.Proofs.YtjhhedpgfpcaiaaGreatDoor
set_option linter.constructorNameAsVariable false
set_option linter.unusedSimpArgs false
set_option linter.unusedVariables false
open Go Go.Ab Go.RowKit
set_option maxRecDepth 100000
set_option linter.unusedVariables false
def c1f : XV := .cptr [.bool true, .sl false 5 [.agg [.int .i64 0, .nils, .bool false, .int .i64 (-1), .sl false 3 [.agg [.int .u8 1, .int .i64 0, .int .u64 7], .agg [.int .u8 29, .int .i64 0, .int .u64 0], .agg [.int .u8 24, .int .i64 0, .int .u64 0]]]], .sl false 1 [.int .u8 13, .int .u8 0, .int .u8 0, .int .u8 0, .int .u8 0, .int .u8 0, .int .u8 0, .int .u8 0, .int .u8 13, .int .u8 0, .int .u8 0, .int .u8 0, .int .u8 1, .int .u8 0, .int .u8 0, .int .u8 0, .int .u8 11, .int .u8 0, .int .u8 0, .int .u8 0, .int .u8 0, .int .u8 0, .int .u8 0, .int .u8 0, .int .u8 1, .int .u8 0, .int .u8 0, .int .u8 0, .int .u8 7, .int .u8 0, .int .u8 0, .int .u8 0, .int .u8 13, .int .u8 0, .int .u8 0, .int .u8 0, .int .u8 2, .int .u8 0, .int .u8 0, .int .u8 0, .int .u8 7, .int .u8 0, .int .u8 0, .int .u8 0, .int .u8 6, .int .u8 0, .int .u8 0, .int .u8 0, .int .u8 12, .int .u8 0, .int .u8 0, .int .u8 0, .int .u8 0, .int .u8 0, .int .u8 0, .int .u8 0, .int .u8 10, .int .u8 0, .int .u8 0, .int .u8 0, .int .u8 0, .int .u8 0, .int .u8 0, .int .u8 0], .sl false 6 [.agg [.int .i64 2, .int .i64 8, .int .i64 0, .nils, .nils, .int .i64 (-1)]], .nils, .nils] 0
def c0f : XV := .cptr [.bool false, .nils, .nils, .nils, .nils, .nils] 0
theorem mean_e : isV (.str [111, 107, 32, 111, 117, 116, 61, 55, 32, 101, 120, 105, 116, 61, 48, 32, 51, 32, 49, 32, 48, 32, 48]) (runR Tryz.prog pv0 (codeT tabL) ovJ 200 7 [c1f, .str [109, 101, 97, 110, 32, 49, 48, 48]] ⟨0, .e, ⟨[], .e, 1000000000, false, 0⟩⟩) = true := by kernel_rfl
theorem mean_ev : PureEv Tryz.prog 7 ([c1f, .str [109, 101, 97, 110, 32, 49, 48, 48]].map (XV.av env0)) (.str (strB [111, 107, 32, 111, 117, 116, 61, 55, 32, 101, 120, 105, 116, 61, 48, 32, 51, 32, 49, 32, 48, 32, 48])) := call_R env0 (fs := []) nofun pv0_ok mixed rfl (Nat.le_refl _) tabL_ok ovJ_ok rfl mean_e
theorem runl_e : isV (.str [111, 107, 32, 111, 117, 116, 61, 55, 32, 101, 120, 105, 116, 61, 48, 32, 48]) (runR Tryz.prog pv0 (codeT tabL) ovJ 200 7 [c1f, .str [114, 117, 110, 32, 49, 48, 48, 32, 53, 49, 50]] ⟨0, .e, ⟨[], .e, 1000000000, false, 0⟩⟩) = true := by kernel_rfl
theorem runl_ev : PureEv Tryz.prog 7 ([c1f, .str [114, 117, 110, 32, 49, 48, 48, 32, 53, 49, 50]].map (XV.av env0)) (.str (strB [111, 107, 32, 111, 117, 116, 61, 55, 32, 101, 120, 105, 116, 61, 48, 32, 48])) := call_R env0 (fs := []) nofun pv0_ok mixed rfl (Nat.le_refl _) tabL_ok ovJ_ok rfl runl_e
theorem ukn_e : isV (.str [101, 114, 114, 111, 114, 32, 50, 53, 49]) (runR Tryz.prog pv0 (codeT tabL) ovJ 200 7 [c0f, .str [120]] ⟨0, .e, ⟨[], .e, 1000000000, false, 0⟩⟩) = true := by kernel_rfl
theorem ukn_ev : PureEv Tryz.prog 7 ([c0f, .str [120]].map (XV.av env0)) (.str (strB [101, 114, 114, 111, 114, 32, 50, 53, 49])) := call_R env0 (fs := []) nofun pv0_ok mixed rfl (Nat.le_refl _) tabL_ok ovJ_ok rfl ukn_e
end Go.Proofs.YtjhhedpgfpcaiaaGreatDoor
