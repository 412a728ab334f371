/- Plain laws of the tables: the document's reader. -/
import Derived.Test.YtnmicfhdpnabcaaTbL10
namespace Go.Proofs.Ytnmicfhdpnabcaa
open Go Go.Ab
set_option maxRecDepth 20000
set_option linter.unusedVariables false
set_option linter.unusedSimpArgs false

def bodyP (fuel : Nat) (n : Int) : (Int × List Int × Int × Bool × List Int) → Option (Stp (Int × List Int × Int × Bool × List Int) (Option (Stp (Int × (List Int) × Int × Bool × (List FuncRow)) (Option (Tables × Bool))))) :=
  fun (s_10 : (Int × (List Int) × Int × Bool × (List Int))) => ((jp (fun (s_12 : Bool) => (if s_12 then ((windlassref19_Tape_next_pNNN_s fuel s_10.2.1 s_10.2.2.1 s_10.2.2.2.1).bind fun (nex_13 : (Int × (List Int) × Int × Bool)) => (if (decide (nex_13.1 > 1)) then (some (.ret (some (.ret (some ((Tables.mk [] []), false)))))) else ((appL 1 s_10.2.2.2.2 [(U8 nex_13.1)]).bind fun l_14 => (some (.nxt ((I64 (s_10.1 + 1)), nex_13.2.1, nex_13.2.2.1, nex_13.2.2.2, l_14)))))) else (some (.brk (s_10.1, s_10.2.1, s_10.2.2.1, s_10.2.2.2.1, s_10.2.2.2.2))))) (fun k_11 => (if (decide (s_10.1 < n)) then (k_11 (!s_10.2.2.2.1)) else (k_11 false)))) : Option (Stp (Int × (List Int) × Int × Bool × (List Int)) (Option (Stp (Int × (List Int) × Int × Bool × (List FuncRow)) (Option (Tables × Bool))))))
def bodyV (fuel : Nat) (n : Int) : (Int × List Int × Int × Bool × List Save) → Option (Stp (Int × List Int × Int × Bool × List Save) (Option (Stp (Int × (List Int) × Int × Bool × (List FuncRow)) (Option (Tables × Bool))))) :=
  fun (s_16 : (Int × (List Int) × Int × Bool × (List Save))) => ((jp (fun (s_18 : Bool) => (if s_18 then ((windlassref19_Tape_next_pNNN_s fuel s_16.2.1 s_16.2.2.1 s_16.2.2.2.1).bind fun (nex_19 : (Int × (List Int) × Int × Bool)) => ((windlassref19_Tape_next_pNNN_s fuel nex_19.2.1 nex_19.2.2.1 nex_19.2.2.2).bind fun (nex_20 : (Int × (List Int) × Int × Bool)) => ((appL 16 s_16.2.2.2.2 [(Save.mk nex_19.1 nex_20.1)]).bind fun l_21 => (some (.nxt ((I64 (s_16.1 + 1)), nex_20.2.1, nex_20.2.2.1, nex_20.2.2.2, l_21)))))) else (some (.brk (s_16.1, s_16.2.1, s_16.2.2.1, s_16.2.2.2.1, s_16.2.2.2.2))))) (fun k_17 => (if (decide (s_16.1 < n)) then (k_17 (!s_16.2.2.2.1)) else (k_17 false)))) : Option (Stp (Int × (List Int) × Int × Bool × (List Save)) (Option (Stp (Int × (List Int) × Int × Bool × (List FuncRow)) (Option (Tables × Bool))))))
def bodyF (fuel : Nat) (n : Int) : (Int × List Int × Int × Bool × List FuncRow) → Option (Stp (Int × List Int × Int × Bool × List FuncRow) (Option (Tables × Bool))) :=
  fun (s_2 : (Int × (List Int) × Int × Bool × (List FuncRow))) => ((jp (fun (s_4 : Bool) => (if s_4 then ((windlassref19_Tape_next_pNNN_s fuel s_2.2.1 s_2.2.2.1 s_2.2.2.2.1).bind fun (nex_5 : (Int × (List Int) × Int × Bool)) => ((windlassref19_Tape_next_pNNN_s fuel nex_5.2.1 nex_5.2.2.1 nex_5.2.2.2).bind fun (nex_6 : (Int × (List Int) × Int × Bool)) => ((windlassref19_Tape_next_pNNN_s fuel nex_6.2.1 nex_6.2.2.1 nex_6.2.2.2).bind fun (nex_7 : (Int × (List Int) × Int × Bool)) => ((windlassref19_Tape_next_pNNN_s fuel nex_7.2.1 nex_7.2.2.1 nex_7.2.2.2).bind fun (nex_8 : (Int × (List Int) × Int × Bool)) => ((windlassref19_Tape_next_pNNN_s fuel nex_8.2.1 nex_8.2.2.1 nex_8.2.2.2).bind fun (nex_9 : (Int × (List Int) × Int × Bool)) => ((whileN (bodyP fuel nex_9.1) fuel (0, nex_9.2.1, nex_9.2.2.1, nex_9.2.2.2, [])).bind (oc (fun (s_10 : (Int × (List Int) × Int × Bool × (List Int))) => ((windlassref19_Tape_next_pNNN_s fuel s_10.2.1 s_10.2.2.1 s_10.2.2.2.1).bind fun (nex_15 : (Int × (List Int) × Int × Bool)) => ((whileN (bodyV fuel nex_15.1) fuel (0, nex_15.2.1, nex_15.2.2.1, nex_15.2.2.2, [])).bind (oc (fun (s_16 : (Int × (List Int) × Int × Bool × (List Save))) => ((appL 80 s_2.2.2.2.2 [(FuncRow.mk nex_5.1 nex_6.1 nex_7.1 s_10.2.2.2.2 s_16.2.2.2.2 (I64 (nex_8.1 - 1)))]).bind fun l_22 => (some (.nxt ((I64 (s_2.1 + 1)), s_16.2.1, s_16.2.2.1, s_16.2.2.2.1, l_22)))))))))))))))) else (some (.brk (s_2.1, s_2.2.1, s_2.2.2.1, s_2.2.2.2.1, s_2.2.2.2.2))))) (fun k_3 => (if (decide (s_2.1 < n)) then (k_3 (!s_2.2.2.2.1)) else (k_3 false)))) : Option (Stp (Int × (List Int) × Int × Bool × (List FuncRow)) (Option (Tables × Bool))))
def bodyL (fuel : Nat) (n : Int) : (Int × List Int × Int × Bool × List Int) → Option (Stp (Int × List Int × Int × Bool × List Int) (Option (Stp (Int × (List Int) × Int × Bool × (List Site)) (Option (Tables × Bool))))) :=
  fun (s_29 : (Int × (List Int) × Int × Bool × (List Int))) => ((jp (fun (s_31 : Bool) => (if s_31 then ((windlassref19_Tape_next_pNNN_s fuel s_29.2.1 s_29.2.2.1 s_29.2.2.2.1).bind fun (nex_32 : (Int × (List Int) × Int × Bool)) => ((appL 8 s_29.2.2.2.2 [nex_32.1]).bind fun l_33 => (some (.nxt ((I64 (s_29.1 + 1)), nex_32.2.1, nex_32.2.2.1, nex_32.2.2.2, l_33))))) else (some (.brk (s_29.1, s_29.2.1, s_29.2.2.1, s_29.2.2.2.1, s_29.2.2.2.2))))) (fun k_30 => (if (decide (s_29.1 < n)) then (k_30 (!s_29.2.2.2.1)) else (k_30 false)))) : Option (Stp (Int × (List Int) × Int × Bool × (List Int)) (Option (Stp (Int × (List Int) × Int × Bool × (List Site)) (Option (Tables × Bool))))))
def bodyS (fuel : Nat) (n : Int) : (Int × List Int × Int × Bool × List Site) → Option (Stp (Int × List Int × Int × Bool × List Site) (Option (Tables × Bool))) :=
  fun (s_24 : (Int × (List Int) × Int × Bool × (List Site))) => ((jp (fun (s_26 : Bool) => (if s_26 then ((windlassref19_Tape_next_pNNN_s fuel s_24.2.1 s_24.2.2.1 s_24.2.2.2.1).bind fun (nex_27 : (Int × (List Int) × Int × Bool)) => ((windlassref19_Tape_next_pNNN_s fuel nex_27.2.1 nex_27.2.2.1 nex_27.2.2.2).bind fun (nex_28 : (Int × (List Int) × Int × Bool)) => ((whileN (bodyL fuel nex_28.1) fuel (0, nex_28.2.1, nex_28.2.2.1, nex_28.2.2.2, [])).bind (oc (fun (s_29 : (Int × (List Int) × Int × Bool × (List Int))) => ((appL 32 s_24.2.2.2.2 [(Site.mk nex_27.1 s_29.2.2.2.2)]).bind fun l_34 => (some (.nxt ((I64 (s_24.1 + 1)), s_29.2.1, s_29.2.2.1, s_29.2.2.2.1, l_34))))))))) else (some (.brk (s_24.1, s_24.2.1, s_24.2.2.1, s_24.2.2.2.1, s_24.2.2.2.2))))) (fun k_25 => (if (decide (s_24.1 < n)) then (k_25 (!s_24.2.2.2.1)) else (k_25 false)))) : Option (Stp (Int × (List Int) × Int × Bool × (List Site)) (Option (Tables × Bool))))
/-- What Read answers, when the bytes are read. -/
def rEnd (B : List Int) (fs : List FuncRow) (ss : List Site) (p : Int) (bad : Bool) : Option (Tables × Bool) :=
  (jp (fun (s_36 : Bool) => (if s_36 then (some ((Tables.mk [] []), false)) else (some ((Tables.mk fs ss), true)))) (fun k_35 => (if bad then (k_35 true) else (if (p != (List.length B : Int)) then (k_35 true) else ((windlassref19_Right_s (Tables.mk fs ss)).bind fun rig_37 => (k_35 (!rig_37)))))))
theorem endP (fuel : Nat) (n : Int) (B : List Int) : ∀ i p bad acc, (i < n ∧ bad = false → False) → bodyP fuel n (i, B, p, bad, acc) = some (.brk (i, B, p, bad, acc)) := by
  intro i p bad acc h
  unfold bodyP jp
  by_cases hi : i < n
  · cases bad with
    | true => simp [hi]
    | false => exact (h ⟨hi, rfl⟩).elim
  · simp [hi]
theorem endCP (fuel : Nat) (n : Int) (B : List Int) : ∀ p acc, bodyP fuel n (n, B, p, false, acc) = some (.brk (n, B, p, false, acc)) := fun p acc => endP fuel n B n p false acc fun h => by omega
theorem endV (fuel : Nat) (n : Int) (B : List Int) : ∀ i p bad acc, (i < n ∧ bad = false → False) → bodyV fuel n (i, B, p, bad, acc) = some (.brk (i, B, p, bad, acc)) := by
  intro i p bad acc h
  unfold bodyV jp
  by_cases hi : i < n
  · cases bad with
    | true => simp [hi]
    | false => exact (h ⟨hi, rfl⟩).elim
  · simp [hi]
theorem endCV (fuel : Nat) (n : Int) (B : List Int) : ∀ p acc, bodyV fuel n (n, B, p, false, acc) = some (.brk (n, B, p, false, acc)) := fun p acc => endV fuel n B n p false acc fun h => by omega
theorem endF (fuel : Nat) (n : Int) (B : List Int) : ∀ i p bad acc, (i < n ∧ bad = false → False) → bodyF fuel n (i, B, p, bad, acc) = some (.brk (i, B, p, bad, acc)) := by
  intro i p bad acc h
  unfold bodyF jp
  by_cases hi : i < n
  · cases bad with
    | true => simp [hi]
    | false => exact (h ⟨hi, rfl⟩).elim
  · simp [hi]
theorem endCF (fuel : Nat) (n : Int) (B : List Int) : ∀ p acc, bodyF fuel n (n, B, p, false, acc) = some (.brk (n, B, p, false, acc)) := fun p acc => endF fuel n B n p false acc fun h => by omega
theorem endL (fuel : Nat) (n : Int) (B : List Int) : ∀ i p bad acc, (i < n ∧ bad = false → False) → bodyL fuel n (i, B, p, bad, acc) = some (.brk (i, B, p, bad, acc)) := by
  intro i p bad acc h
  unfold bodyL jp
  by_cases hi : i < n
  · cases bad with
    | true => simp [hi]
    | false => exact (h ⟨hi, rfl⟩).elim
  · simp [hi]
theorem endCL (fuel : Nat) (n : Int) (B : List Int) : ∀ p acc, bodyL fuel n (n, B, p, false, acc) = some (.brk (n, B, p, false, acc)) := fun p acc => endL fuel n B n p false acc fun h => by omega
theorem endS (fuel : Nat) (n : Int) (B : List Int) : ∀ i p bad acc, (i < n ∧ bad = false → False) → bodyS fuel n (i, B, p, bad, acc) = some (.brk (i, B, p, bad, acc)) := by
  intro i p bad acc h
  unfold bodyS jp
  by_cases hi : i < n
  · cases bad with
    | true => simp [hi]
    | false => exact (h ⟨hi, rfl⟩).elim
  · simp [hi]
theorem endCS (fuel : Nat) (n : Int) (B : List Int) : ∀ p acc, bodyS fuel n (n, B, p, false, acc) = some (.brk (n, B, p, false, acc)) := fun p acc => endS fuel n B n p false acc fun h => by omega

theorem Read_eq (fuel : Nat) (b_00 : List Int) : windlassref19_Read_s fuel b_00 = ((windlassref19_Tape_next_pNNN_s fuel b_00 0 false).bind fun (nex_1 : (Int × (List Int) × Int × Bool)) => ((whileN (bodyF fuel nex_1.1) fuel (0, nex_1.2.1, nex_1.2.2.1, nex_1.2.2.2, [])).bind (oc (fun (s_2 : (Int × (List Int) × Int × Bool × (List FuncRow))) => ((windlassref19_Tape_next_pNNN_s fuel s_2.2.1 s_2.2.2.1 s_2.2.2.2.1).bind fun (nex_23 : (Int × (List Int) × Int × Bool)) => ((whileN (bodyS fuel nex_23.1) fuel (0, nex_23.2.1, nex_23.2.2.1, nex_23.2.2.2, [])).bind (oc (fun (s_24 : (Int × (List Int) × Int × Bool × (List Site))) => rEnd b_00 s_2.2.2.2.2 s_24.2.2.2.2 s_24.2.2.1 s_24.2.2.2.1)))))))) := rfl
section
variable {fuel : Nat} (hf : 1048578 ≤ fuel) {B : List Int} (hB : B.length ≤ 1048576)
include hf hB
theorem stepPC {n : Int} : ∀ k, (0 ≤ k ∧ k ≤ 1) → ∀ (i : Int) (p : Nat) (acc : List Int) (E : List Int), 0 ≤ i + 1048577 → i < n → n ≤ 1048577 → acc.length ≤ 1048576 → AtB B p (le4 k ++ E) → ∃ p' : Nat, bodyP fuel n (i, B, (p : Int), false, acc) = some (.nxt (i + 1, B, (p' : Int), false, acc ++ [k])) ∧ AtB B p' E := by
  intro k hk i p acc E hi0 hi hn hacc h
  obtain ⟨e, d⟩ := next_le4 (fuel := fuel) (by omega) hB h (by omega) (by omega)
  unfold bodyP jp
  simp only [decide_eq_true hi, if_true, Bool.not_false]
  rw [e]
  simp only [Option.bind_some, decide_eq_false (show ¬ k > 1 by omega), Bool.false_eq_true, if_false]
  rw [appL_of (by simp only [List.length_singleton]; omega) (by simp only [List.length_singleton]; omega), U8_of (by omega), I64_of (by omega)]
  exact ⟨p + 4, rfl, d⟩
theorem stepVC {n : Int} : ∀ s : Save, ((0 ≤ s.Reg ∧ s.Reg ≤ 11) ∧ 0 ≤ s.Off ∧ s.Off ≤ 65536) → ∀ (i : Int) (p : Nat) (acc : List Save) (E : List Int), 0 ≤ i + 1048577 → i < n → n ≤ 1048577 → acc.length ≤ 1048576 → AtB B p (encV s ++ E) → ∃ p' : Nat, bodyV fuel n (i, B, (p : Int), false, acc) = some (.nxt (i + 1, B, (p' : Int), false, acc ++ [s])) ∧ AtB B p' E := by
  intro k hk i p acc E hi0 hi hn hacc h
  simp only [encV, List.append_assoc] at h
  obtain ⟨e, d⟩ := next_le4 (fuel := fuel) (by omega) hB h (by omega) (by omega)
  obtain ⟨e', d'⟩ := next_le4 (fuel := fuel) (by omega) hB d (by omega) (by omega)
  unfold bodyV jp
  simp only [decide_eq_true hi, if_true, Bool.not_false]
  rw [e]
  simp only [Option.bind_some]
  rw [e']
  simp only [Option.bind_some]
  rw [appL_of (by simp only [List.length_singleton]; omega) (by simp only [List.length_singleton]; omega), I64_of (by omega)]
  exact ⟨p + 4 + 4, rfl, d'⟩
theorem stepLC {n : Int} : ∀ k, (0 ≤ k ∧ k ≤ 65536) → ∀ (i : Int) (p : Nat) (acc : List Int) (E : List Int), 0 ≤ i + 1048577 → i < n → n ≤ 1048577 → acc.length ≤ 1048576 → AtB B p (le4 k ++ E) → ∃ p' : Nat, bodyL fuel n (i, B, (p : Int), false, acc) = some (.nxt (i + 1, B, (p' : Int), false, acc ++ [k])) ∧ AtB B p' E := by
  intro k hk i p acc E hi0 hi hn hacc h
  obtain ⟨e, d⟩ := next_le4 (fuel := fuel) (by omega) hB h (by omega) (by omega)
  unfold bodyL jp
  simp only [decide_eq_true hi, if_true, Bool.not_false]
  rw [e]
  simp only [Option.bind_some]
  rw [appL_of (by simp only [List.length_singleton]; omega) (by simp only [List.length_singleton]; omega), I64_of (by omega)]
  exact ⟨p + 4, rfl, d⟩
end
end Go.Proofs.Ytnmicfhdpnabcaa
