/- How deep a stack may be: by computing all cases. -/
import Derived.Test.YtiocagilhbomgaaKdR
namespace Go.Proofs.Ytiocagilhbomgaa
open Go Go.Ab Go.RowKit
set_option maxRecDepth 100000
set_option maxHeartbeats 2000000
set_option linter.unusedVariables false
def deepF (kk : Int) (dup_01 : Bool) : Option Bool :=
  ((windlasslaw05_first_s 1048577).bind fun fir_1 => (if (!fir_1) then (some false) else ((whileN (fun (s_2 : (List Instr)) => ((if (decide ((List.length s_2 : Int) < kk)) then (if dup_01 then ((appL 24 s_2 [(Instr.mk 32 0 0)]).bind fun l_3 => (some (.nxt l_3))) else ((appL 24 s_2 [(Instr.mk 28 0 0)]).bind fun l_4 => (some (.nxt l_4)))) else (some (.brk s_2))) : Option (Stp (List Instr) (Option Bool)))) 1048577 ([(Instr.mk 1 0 5)] : List Instr)).bind (oc (fun (s_2 : (List Instr)) => ((rni (fun (i_6 : Nat) (s_5 : (List Instr)) => (((appL 24 s_5 [(Instr.mk 31 0 0)]).bind fun l_7 => (some (.nxt l_7))) : Option (Stp (List Instr) (Option Bool)))) kk s_2).bind (oc (fun (s_5 : (List Instr)) => ((appL 24 s_5 [(Instr.mk 24 0 0)]).bind fun l_8 => ((kinds_Check_s 1048577 (Program.mk ([(Func.mk 0 [] false (-1) l_8)]))).bind fun che_9 => (if (decide (kk > 16)) then (jp (fun (s_11 : Bool) => (some s_11)) (fun k_10 => (if (che_9.2 == 31) then (k_10 (Option.isNone che_9.1)) else (k_10 false)))) else (jp (fun (s_13 : Bool) => (some s_13)) (fun k_12 => (if (che_9.2 == 0) then (if (Option.isSome che_9.1) then (che_9.1.bind fun p_14 => ((getI p_14.Stacks 0).bind fun y_15 => ((getI y_15 kk).bind fun y_16 => (if ((List.length y_16 : Int) == kk) then ((getI y_15 (I64 (2 * kk))).bind fun y_17 => (k_12 ((List.length y_17 : Int) == 0))) else (k_12 false))))) else (k_12 false)) else (k_12 false)))))))))))))))
theorem deep_body (n : Int) (d : Bool) : windlasslaw05_KindsDeep_s 1048577 n d = deepF (I64 (1 + (I64 (Int.tmod (U64 n) 30)))) d := by kernel_rfl
theorem deep_1_true : deepF 1 true = some true := by kernel_rfl
theorem deep_1_false : deepF 1 false = some true := by kernel_rfl
theorem deep_2_true : deepF 2 true = some true := by kernel_rfl
theorem deep_2_false : deepF 2 false = some true := by kernel_rfl
theorem deep_3_true : deepF 3 true = some true := by kernel_rfl
theorem deep_3_false : deepF 3 false = some true := by kernel_rfl
theorem deep_4_true : deepF 4 true = some true := by kernel_rfl
theorem deep_4_false : deepF 4 false = some true := by kernel_rfl
theorem deep_5_true : deepF 5 true = some true := by kernel_rfl
theorem deep_5_false : deepF 5 false = some true := by kernel_rfl
theorem deep_6_true : deepF 6 true = some true := by kernel_rfl
theorem deep_6_false : deepF 6 false = some true := by kernel_rfl
theorem deep_7_true : deepF 7 true = some true := by kernel_rfl
theorem deep_7_false : deepF 7 false = some true := by kernel_rfl
theorem deep_8_true : deepF 8 true = some true := by kernel_rfl
theorem deep_8_false : deepF 8 false = some true := by kernel_rfl
theorem deep_9_true : deepF 9 true = some true := by kernel_rfl
theorem deep_9_false : deepF 9 false = some true := by kernel_rfl
theorem deep_10_true : deepF 10 true = some true := by kernel_rfl
theorem deep_10_false : deepF 10 false = some true := by kernel_rfl
theorem deep_11_true : deepF 11 true = some true := by kernel_rfl
theorem deep_11_false : deepF 11 false = some true := by kernel_rfl
theorem deep_12_true : deepF 12 true = some true := by kernel_rfl
theorem deep_12_false : deepF 12 false = some true := by kernel_rfl
theorem deep_13_true : deepF 13 true = some true := by kernel_rfl
theorem deep_13_false : deepF 13 false = some true := by kernel_rfl
theorem deep_14_true : deepF 14 true = some true := by kernel_rfl
theorem deep_14_false : deepF 14 false = some true := by kernel_rfl
theorem deep_15_true : deepF 15 true = some true := by kernel_rfl
theorem deep_15_false : deepF 15 false = some true := by kernel_rfl
theorem deep_16_true : deepF 16 true = some true := by kernel_rfl
theorem deep_16_false : deepF 16 false = some true := by kernel_rfl
theorem deep_17_true : deepF 17 true = some true := by kernel_rfl
theorem deep_17_false : deepF 17 false = some true := by kernel_rfl
theorem deep_18_true : deepF 18 true = some true := by kernel_rfl
theorem deep_18_false : deepF 18 false = some true := by kernel_rfl
theorem deep_19_true : deepF 19 true = some true := by kernel_rfl
theorem deep_19_false : deepF 19 false = some true := by kernel_rfl
theorem deep_20_true : deepF 20 true = some true := by kernel_rfl
theorem deep_20_false : deepF 20 false = some true := by kernel_rfl
theorem deep_21_true : deepF 21 true = some true := by kernel_rfl
theorem deep_21_false : deepF 21 false = some true := by kernel_rfl
theorem deep_22_true : deepF 22 true = some true := by kernel_rfl
theorem deep_22_false : deepF 22 false = some true := by kernel_rfl
theorem deep_23_true : deepF 23 true = some true := by kernel_rfl
theorem deep_23_false : deepF 23 false = some true := by kernel_rfl
theorem deep_24_true : deepF 24 true = some true := by kernel_rfl
theorem deep_24_false : deepF 24 false = some true := by kernel_rfl
theorem deep_25_true : deepF 25 true = some true := by kernel_rfl
theorem deep_25_false : deepF 25 false = some true := by kernel_rfl
theorem deep_26_true : deepF 26 true = some true := by kernel_rfl
theorem deep_26_false : deepF 26 false = some true := by kernel_rfl
theorem deep_27_true : deepF 27 true = some true := by kernel_rfl
theorem deep_27_false : deepF 27 false = some true := by kernel_rfl
theorem deep_28_true : deepF 28 true = some true := by kernel_rfl
theorem deep_28_false : deepF 28 false = some true := by kernel_rfl
theorem deep_29_true : deepF 29 true = some true := by kernel_rfl
theorem deep_29_false : deepF 29 false = some true := by kernel_rfl
theorem deep_30_true : deepF 30 true = some true := by kernel_rfl
theorem deep_30_false : deepF 30 false = some true := by kernel_rfl
theorem u64_rng (x : Int) : 0 ≤ U64 x ∧ U64 x < 18446744073709551616 := by
  have : U64 x = x % 18446744073709551616 := by simp [U64, IntKind.wrap, IntKind.bits, IntKind.signed]
  rw [this]; omega
theorem i64_small {x : Int} (h : 0 ≤ x ∧ x ≤ 100) : I64 x = x := wrap_i64 (by omega)
theorem deep_law (n : Int) (d : Bool) : windlasslaw05_KindsDeep_s 1048577 n d = some true := by
  rw [deep_body]
  have h := u64_rng n
  generalize U64 n = u at h ⊢
  rw [Int.tmod_eq_emod_of_nonneg h.1]
  have hm : 0 ≤ u % 30 ∧ u % 30 < 30 := by omega
  generalize u % 30 = m at hm ⊢
  rw [i64_small (x := m) (by omega), i64_small (x := 1 + m) (by omega)]
  have h1 : m = 0 ∨ m = 1 ∨ m = 2 ∨ m = 3 ∨ m = 4 ∨ m = 5 ∨ m = 6 ∨ m = 7 ∨ m = 8 ∨ m = 9 ∨ m = 10 ∨ m = 11 ∨ m = 12 ∨ m = 13 ∨ m = 14 ∨ m = 15 ∨ m = 16 ∨ m = 17 ∨ m = 18 ∨ m = 19 ∨ m = 20 ∨ m = 21 ∨ m = 22 ∨ m = 23 ∨ m = 24 ∨ m = 25 ∨ m = 26 ∨ m = 27 ∨ m = 28 ∨ m = 29 := by omega
  rcases h1 with rfl | rfl | rfl | rfl | rfl | rfl | rfl | rfl | rfl | rfl | rfl | rfl | rfl | rfl | rfl | rfl | rfl | rfl | rfl | rfl | rfl | rfl | rfl | rfl | rfl | rfl | rfl | rfl | rfl | rfl <;> cases d
  · exact deep_1_false
  · exact deep_1_true
  · exact deep_2_false
  · exact deep_2_true
  · exact deep_3_false
  · exact deep_3_true
  · exact deep_4_false
  · exact deep_4_true
  · exact deep_5_false
  · exact deep_5_true
  · exact deep_6_false
  · exact deep_6_true
  · exact deep_7_false
  · exact deep_7_true
  · exact deep_8_false
  · exact deep_8_true
  · exact deep_9_false
  · exact deep_9_true
  · exact deep_10_false
  · exact deep_10_true
  · exact deep_11_false
  · exact deep_11_true
  · exact deep_12_false
  · exact deep_12_true
  · exact deep_13_false
  · exact deep_13_true
  · exact deep_14_false
  · exact deep_14_true
  · exact deep_15_false
  · exact deep_15_true
  · exact deep_16_false
  · exact deep_16_true
  · exact deep_17_false
  · exact deep_17_true
  · exact deep_18_false
  · exact deep_18_true
  · exact deep_19_false
  · exact deep_19_true
  · exact deep_20_false
  · exact deep_20_true
  · exact deep_21_false
  · exact deep_21_true
  · exact deep_22_false
  · exact deep_22_true
  · exact deep_23_false
  · exact deep_23_true
  · exact deep_24_false
  · exact deep_24_true
  · exact deep_25_false
  · exact deep_25_true
  · exact deep_26_false
  · exact deep_26_true
  · exact deep_27_false
  · exact deep_27_true
  · exact deep_28_false
  · exact deep_28_true
  · exact deep_29_false
  · exact deep_29_true
  · exact deep_30_false
  · exact deep_30_true
end Go.Proofs.Ytiocagilhbomgaa
