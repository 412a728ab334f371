/- A pointer is no number: by computing all cases. -/
import Derived.Test.YtiocagilhbomgaaKdR
namespace Go.Proofs.Ytiocagilhbomgaa
open Go Go.Ab Go.RowKit
set_option maxRecDepth 100000
set_option maxHeartbeats 2000000
set_option linter.unusedVariables false
def ptrF (xx0 xx1 : Int) : Option Bool :=
  ((windlasslaw05_first_s 1048577).bind fun fir_1 => (if (!fir_1) then (some false) else (gd ((U64 (List.length [[(Instr.mk 4 0 0), (Instr.mk 29 0 0), (Instr.mk 24 0 0)], [(Instr.mk 4 0 0), (Instr.mk 1 0 0), (Instr.mk 7 0 0), (Instr.mk 31 0 0), (Instr.mk 24 0 0)], [(Instr.mk 4 0 0), (Instr.mk 26 0 0)], [(Instr.mk 4 0 0), (Instr.mk 30 0 0)], [(Instr.mk 4 0 0), (Instr.mk 22 2 0), (Instr.mk 24 0 0)], [(Instr.mk 1 0 0), (Instr.mk 5 0 0), (Instr.mk 31 0 0), (Instr.mk 24 0 0)], [(Instr.mk 1 0 0), (Instr.mk 1 0 0), (Instr.mk 6 0 0), (Instr.mk 24 0 0)], [(Instr.mk 4 0 0), (Instr.mk 3 0 0), (Instr.mk 24 0 0)], [(Instr.mk 1 0 0), (Instr.mk 3 1 0), (Instr.mk 24 0 0)], [(Instr.mk 4 1 0), (Instr.mk 31 0 0), (Instr.mk 24 0 0)], [(Instr.mk 4 0 0), (Instr.mk 4 0 0), (Instr.mk 6 0 0), (Instr.mk 24 0 0)], [(Instr.mk 1 0 0), (Instr.mk 23 1 0), (Instr.mk 24 0 0)], [(Instr.mk 1 0 0), (Instr.mk 25 1 0), (Instr.mk 24 0 0)]] : Int)) ≠ 0) ((getI [[(Instr.mk 4 0 0), (Instr.mk 29 0 0), (Instr.mk 24 0 0)], [(Instr.mk 4 0 0), (Instr.mk 1 0 0), (Instr.mk 7 0 0), (Instr.mk 31 0 0), (Instr.mk 24 0 0)], [(Instr.mk 4 0 0), (Instr.mk 26 0 0)], [(Instr.mk 4 0 0), (Instr.mk 30 0 0)], [(Instr.mk 4 0 0), (Instr.mk 22 2 0), (Instr.mk 24 0 0)], [(Instr.mk 1 0 0), (Instr.mk 5 0 0), (Instr.mk 31 0 0), (Instr.mk 24 0 0)], [(Instr.mk 1 0 0), (Instr.mk 1 0 0), (Instr.mk 6 0 0), (Instr.mk 24 0 0)], [(Instr.mk 4 0 0), (Instr.mk 3 0 0), (Instr.mk 24 0 0)], [(Instr.mk 1 0 0), (Instr.mk 3 1 0), (Instr.mk 24 0 0)], [(Instr.mk 4 1 0), (Instr.mk 31 0 0), (Instr.mk 24 0 0)], [(Instr.mk 4 0 0), (Instr.mk 4 0 0), (Instr.mk 6 0 0), (Instr.mk 24 0 0)], [(Instr.mk 1 0 0), (Instr.mk 23 1 0), (Instr.mk 24 0 0)], [(Instr.mk 1 0 0), (Instr.mk 25 1 0), (Instr.mk 24 0 0)]] (I64 xx0)).bind fun y_3 => ((kinds_Check_s 1048577 (Program.mk ([(Func.mk 0 ([0, 1]) false (-1) y_3), (Func.mk 1 ([1]) false (-1) ([(Instr.mk 24 0 0)]))]))).bind fun che_4 => (gd ((U64 (List.length [[(Instr.mk 4 0 0), (Instr.mk 3 1 0), (Instr.mk 2 1 0), (Instr.mk 5 0 0), (Instr.mk 29 0 0), (Instr.mk 24 0 0)], [(Instr.mk 4 0 0), (Instr.mk 32 0 0), (Instr.mk 23 1 0), (Instr.mk 25 1 0), (Instr.mk 24 0 0)]] : Int)) ≠ 0) ((getI [[(Instr.mk 4 0 0), (Instr.mk 3 1 0), (Instr.mk 2 1 0), (Instr.mk 5 0 0), (Instr.mk 29 0 0), (Instr.mk 24 0 0)], [(Instr.mk 4 0 0), (Instr.mk 32 0 0), (Instr.mk 23 1 0), (Instr.mk 25 1 0), (Instr.mk 24 0 0)]] (I64 xx1)).bind fun y_6 => ((kinds_Check_s 1048577 (Program.mk ([(Func.mk 0 ([0, 1]) false (-1) y_6), (Func.mk 1 ([1]) false (-1) ([(Instr.mk 24 0 0)]))]))).bind fun che_7 => (jp (fun (s_9 : Bool) => (some s_9)) (fun k_8 => (if (che_4.2 == 50) then (k_8 (che_7.2 == 0)) else (k_8 false))))))))))))
theorem ptr_body (how : Int) : windlasslaw05_KindsPointers_s 1048577 how = ptrF (Int.tmod (U64 how) 13) (Int.tmod (U64 how) 2) := by kernel_rfl
theorem ptr_0_0 : ptrF 0 0 = some true := by kernel_rfl
theorem ptr_0_1 : ptrF 0 1 = some true := by kernel_rfl
theorem ptr_1_0 : ptrF 1 0 = some true := by kernel_rfl
theorem ptr_1_1 : ptrF 1 1 = some true := by kernel_rfl
theorem ptr_2_0 : ptrF 2 0 = some true := by kernel_rfl
theorem ptr_2_1 : ptrF 2 1 = some true := by kernel_rfl
theorem ptr_3_0 : ptrF 3 0 = some true := by kernel_rfl
theorem ptr_3_1 : ptrF 3 1 = some true := by kernel_rfl
theorem ptr_4_0 : ptrF 4 0 = some true := by kernel_rfl
theorem ptr_4_1 : ptrF 4 1 = some true := by kernel_rfl
theorem ptr_5_0 : ptrF 5 0 = some true := by kernel_rfl
theorem ptr_5_1 : ptrF 5 1 = some true := by kernel_rfl
theorem ptr_6_0 : ptrF 6 0 = some true := by kernel_rfl
theorem ptr_6_1 : ptrF 6 1 = some true := by kernel_rfl
theorem ptr_7_0 : ptrF 7 0 = some true := by kernel_rfl
theorem ptr_7_1 : ptrF 7 1 = some true := by kernel_rfl
theorem ptr_8_0 : ptrF 8 0 = some true := by kernel_rfl
theorem ptr_8_1 : ptrF 8 1 = some true := by kernel_rfl
theorem ptr_9_0 : ptrF 9 0 = some true := by kernel_rfl
theorem ptr_9_1 : ptrF 9 1 = some true := by kernel_rfl
theorem ptr_10_0 : ptrF 10 0 = some true := by kernel_rfl
theorem ptr_10_1 : ptrF 10 1 = some true := by kernel_rfl
theorem ptr_11_0 : ptrF 11 0 = some true := by kernel_rfl
theorem ptr_11_1 : ptrF 11 1 = some true := by kernel_rfl
theorem ptr_12_0 : ptrF 12 0 = some true := by kernel_rfl
theorem ptr_12_1 : ptrF 12 1 = some true := by kernel_rfl
theorem u64_rng (x : Int) : 0 ≤ U64 x ∧ U64 x < 18446744073709551616 := by
  have : U64 x = x % 18446744073709551616 := by simp [U64, IntKind.wrap, IntKind.bits, IntKind.signed]
  rw [this]; omega
theorem ptr_law (how : Int) : windlasslaw05_KindsPointers_s 1048577 how = some true := by
  rw [ptr_body]
  have h := u64_rng how
  generalize U64 how = u at h ⊢
  rw [Int.tmod_eq_emod_of_nonneg h.1, Int.tmod_eq_emod_of_nonneg h.1]
  have h1 : u % 13 = 0 ∨ u % 13 = 1 ∨ u % 13 = 2 ∨ u % 13 = 3 ∨ u % 13 = 4 ∨ u % 13 = 5 ∨ u % 13 = 6 ∨ u % 13 = 7 ∨ u % 13 = 8 ∨ u % 13 = 9 ∨ u % 13 = 10 ∨ u % 13 = 11 ∨ u % 13 = 12 := by omega
  have h2 : u % 2 = 0 ∨ u % 2 = 1 := by omega
  rcases h1 with h1 | h1 | h1 | h1 | h1 | h1 | h1 | h1 | h1 | h1 | h1 | h1 | h1 <;> rcases h2 with h2 | h2 <;> rw [h1, h2]
  · exact ptr_0_0
  · exact ptr_0_1
  · exact ptr_1_0
  · exact ptr_1_1
  · exact ptr_2_0
  · exact ptr_2_1
  · exact ptr_3_0
  · exact ptr_3_1
  · exact ptr_4_0
  · exact ptr_4_1
  · exact ptr_5_0
  · exact ptr_5_1
  · exact ptr_6_0
  · exact ptr_6_1
  · exact ptr_7_0
  · exact ptr_7_1
  · exact ptr_8_0
  · exact ptr_8_1
  · exact ptr_9_0
  · exact ptr_9_1
  · exact ptr_10_0
  · exact ptr_10_1
  · exact ptr_11_0
  · exact ptr_11_1
  · exact ptr_12_0
  · exact ptr_12_1
end Go.Proofs.Ytiocagilhbomgaa
