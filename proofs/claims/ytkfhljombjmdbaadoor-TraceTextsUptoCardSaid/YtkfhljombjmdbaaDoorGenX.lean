/- What the functions compute, and that they do (printed by wip/gen/gen.py), part 1. -/
import Derived.Test.YtkfhljombjmdbaaDoorWlP2
import Derived.Test.YtkfhljombjmdbaaDoorRows
import Derived.Test.YtkfhljombjmdbaaDoorWlT3
namespace Go.Proofs.YtkfhljombjmdbaaDoor
open Go Go.Ab
set_option maxRecDepth 20000
set_option maxHeartbeats 2000000
set_option linter.unusedVariables false
set_option linter.unusedSimpArgs false
theorem mixed : Tryd.prog.follows .mixedOrders = true := Tryd.checked.mixed
structure Event where
  Kind : Int
  Value : Int
def Event.cells (x : Event) : List AV := [(.int .i64 x.Kind), (.int .u64 x.Value)]
def Event.av (x : Event) : AV := .agg (Event.cells x)
theorem Event.enc : Enc Event.av (some 2) := ⟨fun _ => rfl, fun _ => rfl, fun _ => rfl, fun x n => blwL_of ⟨((encI .i64).blw x.Kind n), ((encI .u64).blw x.Value n), trivial⟩⟩
structure End where
  Kind : Int
  Value : Int
def End.cells (x : End) : List AV := [(.int .i64 x.Kind), (.int .u64 x.Value)]
def End.av (x : End) : AV := .agg (End.cells x)
theorem End.enc : Enc End.av (some 2) := ⟨fun _ => rfl, fun _ => rfl, fun _ => rfl, fun x n => blwL_of ⟨((encI .i64).blw x.Kind n), ((encI .u64).blw x.Value n), trivial⟩⟩
/- slices.Clone[[]uint64,uint64] -/
def fc87 : FC := (.seq (.reg [⟨(some 2), none, .op (.mv (.v .nils))⟩] [])
  (.seq (.seq (.reg [⟨(some 3), none, .op (.mv (.t 0))⟩,
  ⟨(some 4), none, .op (.bin .flat .eql (.t 3) (.v .nils))⟩] [])
  (.cond (.t 4)
  (.seq (.reg [⟨(some 2), none, .op (.mv (.v .nils))⟩] [])
  .ret)
  .skip))
  (.seq (.reg [⟨(some 5), none, .op (.bsl none [(.int .u64 0)] 0 [])⟩,
  ⟨(some 6), none, .op (.mv (.t 0))⟩,
  ⟨(some 7), none, .op (.app none 8 (.t 5) (.t 6))⟩,
  ⟨(some 2), none, .op (.mv (.t 7))⟩] [])
  .ret)))
theorem fn87 : Fn3 Tryd.prog 87 8 [(2, none)] fc87 := ⟨_, _, Tryd.func87, rfl, rfl, rfl, by kernel_rfl⟩
def slices_Clone_0_z_s (s_00 : List Int) : Option (List Int) :=
  ((appL 8 [] s_00).bind fun l_1 => (some l_1))
theorem slices_Clone_0_z_ev {s_00 : List Int} {r : List Int} (h : slices_Clone_0_z_s s_00 = some r) : PureEv Tryd.prog 87 [.sl false 1 (List.map (avI .u64) s_00)] (.sl false 1 (List.map (avI .u64) r)) := by
  unfold slices_Clone_0_z_s at h
  obtain ⟨l_1, hl_1, h2⟩ := bd_some h
  clear h
  refine PureEv_sl (fun hx => ?_) (fun hx => ?_) (fun hx => ?_)
  · obtain rfl : s_00 = [] := by simpa using hx
    have e : l_1 = [] := by unfold appL at hl_1; split at hl_1 <;> simp_all
    subst e
    refine PureEv_end mixed fn87 (by simp) [5] 6 ?_
    unfold fc87
    refine E_sq ?_
    refine E_reg ?_
    refine E_mv (v' := .nils) rfl ?_
    refine E_nil ?_
    refine E_nx ?_
    refine E_as ?_
    refine E_sq ?_
    refine E_reg ?_
    refine E_mv (v' := .nils) rfl ?_
    refine E_op0 (v' := (.bool true)) rfl rfl ?_
    refine E_nil ?_
    refine E_nx ?_
    refine E_sq ?_
    refine E_cs (t := true) rfl (fun hb => ?_) (fun hb => ?_)
    · refine E_sq ?_
      refine E_reg ?_
      refine E_mv (v' := .nils) rfl ?_
      refine E_nil ?_
      refine E_nx ?_
      refine E_ret ?_
      refine E_thr ?_
      cases h2
      exact ⟨trivial, _, rfl, (fz_b rfl .nil)⟩
    · cases hb
  · obtain rfl : s_00 = [] := by simpa using hx
    refine PureEv_end mixed fn87 (by simp) [5] 6 ?_
    unfold fc87
    refine E_sq ?_
    refine E_reg ?_
    refine E_mv (v' := .nils) rfl ?_
    refine E_nil ?_
    refine E_nx ?_
    refine E_as ?_
    refine E_sq ?_
    refine E_reg ?_
    refine E_mv (v' := (.snn 1)) rfl ?_
    refine E_op0 (v' := (.bool false)) rfl rfl ?_
    refine E_nil ?_
    refine E_nx ?_
    refine E_sq ?_
    refine E_cs (t := false) rfl (fun hb => ?_) (fun hb => ?_)
    · cases hb
    · refine E_skip ?_
      refine E_nx ?_
      refine E_sq ?_
      refine E_reg ?_
      refine E_op (v' := (.ref 0 0 0 0 none)) (S' := [.arr 0 []]) rfl rfl rfl ?_
      refine E_mv (v' := (.snn 1)) rfl ?_
      refine E_apL (S' := [.arr 1 (flat (avI .u64) l_1)]) (encI .u64) (l := []) rfl (rfl) rfl hl_1 rfl ?_
      refine E_mv (v' := (.ref 0 1 0 (List.length l_1) none)) rfl ?_
      refine E_nil ?_
      refine E_nx ?_
      refine E_ret ?_
      cases h2
      exact ⟨trivial, _, rfl, (fz_ref (encI .u64) (Nat.zero_le _) rfl)⟩
  · obtain ⟨x, xs, rfl⟩ : ∃ x xs, s_00 = x :: xs := by cases s_00 with | nil => exact (hx rfl).elim | cons x xs => exact ⟨x, xs, rfl⟩
    refine PureEv_end mixed fn87 (by simp) [5] 6 ?_
    unfold fc87
    refine E_sq ?_
    refine E_reg ?_
    refine E_mv (v' := .nils) rfl ?_
    refine E_nil ?_
    refine E_nx ?_
    refine E_as ?_
    refine E_sq ?_
    refine E_reg ?_
    refine E_mv (v' := (.sl false 1 (List.map (avI .u64) (x :: xs)))) rfl ?_
    refine E_op0 (v' := (.bool false)) rfl rfl ?_
    refine E_nil ?_
    refine E_nx ?_
    refine E_sq ?_
    refine E_cs (t := false) rfl (fun hb => ?_) (fun hb => ?_)
    · cases hb
    · refine E_skip ?_
      refine E_nx ?_
      refine E_sq ?_
      refine E_reg ?_
      refine E_op (v' := (.ref 0 0 0 0 none)) (S' := [.arr 0 []]) rfl rfl rfl ?_
      refine E_mv (v' := (.sl false 1 (List.map (avI .u64) (x :: xs)))) rfl ?_
      refine E_apL (S' := [.arr 1 (flat (avI .u64) l_1)]) (encI .u64) (l := []) rfl (src_sl (x :: xs)) rfl hl_1 rfl ?_
      refine E_mv (v' := (.ref 0 1 0 (List.length l_1) none)) rfl ?_
      refine E_nil ?_
      refine E_nx ?_
      refine E_ret ?_
      cases h2
      exact ⟨trivial, _, rfl, (fz_ref (encI .u64) (Nat.zero_le _) rfl)⟩
/- windlass/trace.New -/
def fc37 : FC := (.seq (.reg [⟨(some 2), none, .op (.mv (.v .nilp))⟩] [])
  (.seq (.reg [⟨(some 3), none, .op (.mv (.t 0))⟩,
  ⟨(some 4), none, .call 87 [(.t 3)]⟩,
  ⟨(some 5), none, .op (.build [.nils, .nils] [(0, 1, (.t 4))])⟩,
  ⟨(some 6), none, .op (.box (.t 5))⟩,
  ⟨(some 2), none, .op (.mv (.t 6))⟩] [])
  .ret))
theorem fn37 : Fn3 Tryd.prog 37 7 [(2, none)] fc37 := ⟨_, _, Tryd.func37, rfl, rfl, rfl, by kernel_rfl⟩
def trace_New_o_s (tape_00 : (List Int)) : Option (List Int) :=
  ((slices_Clone_0_z_s tape_00).bind fun v0_1 => (some v0_1))
theorem trace_New_o_ev {tape_00 : (List Int)} {r : (List Int)} (h : trace_New_o_s tape_00 = some r) : Ev Tryd.prog 37 [(.sl false 1 (List.map (avI .u64) tape_00))] (hp []) (.ptr 0 0 0) (hp [.arr 0 [(.sl false 1 (List.map (avI .u64) r)), .nils]]) := by
  unfold trace_New_o_s at h
  refine Ev_end mixed fn37 (by simp) [6] ?_
  unfold fc37
  refine E_sq ?_
  refine E_reg ?_
  refine E_mv (v' := .nilp) rfl ?_
  refine E_nil ?_
  refine E_nx ?_
  refine E_sq ?_
  refine E_reg ?_
  refine E_mv (v' := (.sl false 1 (List.map (avI .u64) tape_00))) rfl ?_
  obtain ⟨v0_1, hv0_1, h⟩ := bd_some h
  refine E_callW (slices_Clone_0_z_ev  hv0_1) rfl ⟨(.refl _), trivial⟩ (blwL_of ⟨((encI .u64).blws 0), trivial⟩) ((encI .u64).blws 0) ?_
  refine E_op0 (v' := (.agg [(.sl false 1 (List.map (avI .u64) v0_1)), .nils])) rfl rfl ?_
  refine E_op (v' := .ptr 0 0 0) (S' := [.arr 0 [(.sl false 1 (List.map (avI .u64) v0_1)), .nils]]) rfl rfl rfl ?_
  refine E_mv (v' := (.ptr 0 0 0)) rfl ?_
  refine E_nil ?_
  refine E_nx ?_
  refine E_ret ?_
  cases h
  exact ⟨trivial, _, _, rfl, gwk_rn [some (0, 0)] rfl (Nat.le_of_ble_eq_true rfl) ⟨(rn_ob rfl rfl (.cons (rn_b ((encI .u64).blws 0)) (.cons (rn_b rfl) (.nil (Nat.zero_le _)))) rfl), trivial⟩, (rn_ptr rfl rfl rfl rfl)⟩
/- (*windlass/trace.Trace).In -/
def fc38 : FC := (.seq (.reg [⟨(some 2), none, .op (.mv (.v (.int .u64 0)))⟩] [])
  (.seq (.seq (.reg [⟨(some 4), none, .op (.mv (.t 0))⟩,
  ⟨(some 5), none, .op (.bin .ptr .eql (.t 4) (.v .nilp))⟩] [])
  (.cond (.t 5)
  (.seq (.reg [⟨(some 2), none, .op (.mv (.v (.int .u64 0)))⟩] [])
  .ret)
  .skip))
  (.seq (.reg [⟨(some 3), none, .op (.mv (.v (.int .u64 0)))⟩] [])
  (.seq (.seq (.reg [⟨(some 6), none, .op (.mv (.t 0))⟩,
  ⟨(some 7), none, .op (.nchk (.t 6))⟩,
  ⟨(some 8), none, .op (.fad 0 (.t 7))⟩,
  ⟨(some 9), none, .op (.load none (.t 8))⟩,
  ⟨(some 10), none, .op (.len .sl (.t 9))⟩,
  ⟨(some 11), none, .op (.bin .none .gtr (.t 10) (.v (.int .i64 0)))⟩] [])
  (.cond (.t 11)
  (.reg [⟨(some 12), none, .op (.mv (.t 0))⟩,
  ⟨(some 13), none, .op (.mv (.t 0))⟩,
  ⟨(some 14), none, .op (.nchk (.t 13))⟩,
  ⟨(some 15), none, .op (.fad 0 (.t 14))⟩,
  ⟨(some 16), none, .op (.load none (.t 15))⟩,
  ⟨(some 17), none, .op (.iad none none (.t 16) (.v (.int .i64 0)))⟩,
  ⟨(some 18), none, .op (.load none (.t 17))⟩,
  ⟨(some 19), none, .op (.mv (.t 0))⟩,
  ⟨(some 20), none, .op (.nchk (.t 19))⟩,
  ⟨(some 21), none, .op (.fad 0 (.t 20))⟩,
  ⟨(some 22), none, .op (.load none (.t 21))⟩,
  ⟨(some 23), none, .op (.slc none (.t 22) (some (.v (.int .i64 1))) none none)⟩,
  ⟨(some 3), none, .op (.mv (.t 18))⟩,
  ⟨(some 24), none, .op (.nchk (.t 12))⟩,
  ⟨(some 25), none, .op (.fad 0 (.t 24))⟩,
  ⟨none, none, .op (.store 1 (.t 25) (.t 23))⟩] [])
  .skip))
  (.seq (.reg [⟨(some 26), none, .op (.mv (.t 0))⟩,
  ⟨(some 27), none, .op (.mv (.t 0))⟩,
  ⟨(some 28), none, .op (.nchk (.t 27))⟩,
  ⟨(some 29), none, .op (.fad 1 (.t 28))⟩,
  ⟨(some 30), none, .op (.load none (.t 29))⟩,
  ⟨(some 31), none, .op (.mv (.t 3))⟩,
  ⟨(some 32), none, .op (.build [(.int .i64 0), (.int .u64 0)] [(0, 1, (.v (.int .i64 2))), (1, 1, (.t 31))])⟩,
  ⟨(some 33), none, .op (.bsl (some 2) [(.int .i64 0), (.int .u64 0)] 1 [(0, 2, (.t 32))])⟩,
  ⟨(some 34), none, .op (.app (some 2) 16 (.t 30) (.t 33))⟩,
  ⟨(some 35), none, .op (.nchk (.t 26))⟩,
  ⟨(some 36), none, .op (.fad 1 (.t 35))⟩,
  ⟨none, none, .op (.store 1 (.t 36) (.t 34))⟩] [])
  (.seq (.reg [⟨(some 37), none, .op (.mv (.t 3))⟩,
  ⟨(some 2), none, .op (.mv (.t 37))⟩] [])
  .ret))))))
theorem fn38 : Fn3 Tryd.prog 38 38 [(2, none)] fc38 := ⟨_, _, Tryd.func38, rfl, rfl, rfl, by kernel_rfl⟩
def trace_Trace_In_pNn_s (t_tape_00 : (List Int)) : Option (Int × (List Int) × (List Event)) :=
  (jp (fun (s_2 : (Int × (List Int))) => ((appL 16 [] [(Event.mk 2 s_2.1)]).bind fun l_5 => (some (s_2.1, s_2.2, l_5)))) (fun k_1 => (if (decide ((List.length t_tape_00 : Int) > 0)) then ((getI t_tape_00 0).bind fun y_3 => ((subL t_tape_00 1 (List.length t_tape_00 : Int)).bind fun l_4 => (k_1 (y_3, l_4)))) else (k_1 (0, t_tape_00)))))
theorem trace_Trace_In_pNn_ev {t_tape_00 : (List Int)} {r : (Int × (List Int) × (List Event))} (h : trace_Trace_In_pNn_s t_tape_00 = some r) : Ev Tryd.prog 38 [(.ptr 0 0 0)] (hp [.arr 0 [(.sl false 1 (List.map (avI .u64) t_tape_00)), .nils]]) (.int .u64 r.1) (hp [.arr 0 [(.sl false 1 (List.map (avI .u64) r.2.1)), (.ref 1 1 0 (List.length r.2.2) (some 2))], .arr 1 (flat Event.av r.2.2)]) := by
  unfold trace_Trace_In_pNn_s at h
  refine Ev_end mixed fn38 (by simp) [34] ?_
  unfold fc38
  refine E_sq ?_
  refine E_reg ?_
  refine E_mv (v' := (.int .u64 0)) rfl ?_
  refine E_nil ?_
  refine E_nx ?_
  refine E_as ?_
  refine E_sq ?_
  refine E_reg ?_
  refine E_mv (v' := (.ptr 0 0 0)) rfl ?_
  refine E_op0 (v' := (.bool false)) rfl rfl ?_
  refine E_nil ?_
  refine E_nx ?_
  refine E_sq ?_
  refine E_cf rfl ?_
  refine E_skip ?_
  refine E_nx ?_
  refine E_sq ?_
  refine E_reg ?_
  refine E_mv (v' := (.int .u64 0)) rfl ?_
  refine E_nil ?_
  refine E_nx ?_
  refine E_as ?_
  refine E_sq ?_
  refine E_reg ?_
  refine E_mv (v' := (.ptr 0 0 0)) rfl ?_
  refine E_op0 (v' := (.ptr 0 0 0)) rfl rfl ?_
  refine E_op0 (v' := (.ptr 0 0 0)) rfl rfl ?_
  refine E_op (v' := (.sl false 1 (List.map (avI .u64) t_tape_00))) (S' := [.arr 0 [(.sl false 1 (List.map (avI .u64) t_tape_00)), .nils]]) rfl rfl rfl ?_
  refine E_len rfl ?_
  refine E_op0 (v' := (.bool (decide ((List.length t_tape_00 : Int) > 0)))) rfl rfl ?_
  refine E_nil ?_
  refine E_nx ?_
  refine E_jp h (fun s_2 => [(0, (.ptr 0 0 0)), (3, (.int .u64 s_2.1))]) (fun s_2 => [.arr 0 [(.sl false 1 (List.map (avI .u64) s_2.2)), .nils]]) (fun k_1 h => ?_) (fun s_2 h => ?_)
  · refine E_cs (t := (decide ((List.length t_tape_00 : Int) > 0))) rfl (fun hb => ?_) (fun hb => ?_)
    · rw [ite_t hb] at h
      refine E_reg ?_
      refine E_mv (v' := (.ptr 0 0 0)) rfl ?_
      refine E_mv (v' := (.ptr 0 0 0)) rfl ?_
      refine E_op0 (v' := (.ptr 0 0 0)) rfl rfl ?_
      refine E_op0 (v' := (.ptr 0 0 0)) rfl rfl ?_
      refine E_op (v' := (.sl false 1 (List.map (avI .u64) t_tape_00))) (S' := [.arr 0 [(.sl false 1 (List.map (avI .u64) t_tape_00)), .nils]]) rfl rfl rfl ?_
      obtain ⟨y_3, hy_3, h⟩ := bd_some h
      refine E_iadF rfl rfl hy_3 ?_
      refine E_op0 (v' := (.int .u64 y_3)) rfl rfl ?_
      refine E_mv (v' := (.ptr 0 0 0)) rfl ?_
      refine E_op0 (v' := (.ptr 0 0 0)) rfl rfl ?_
      refine E_op0 (v' := (.ptr 0 0 0)) rfl rfl ?_
      refine E_op (v' := (.sl false 1 (List.map (avI .u64) t_tape_00))) (S' := [.arr 0 [(.sl false 1 (List.map (avI .u64) t_tape_00)), .nils]]) rfl rfl rfl ?_
      obtain ⟨l_4, hl_4, h⟩ := bd_some h
      refine E_slcL rfl (fun h0 => loN_int h0) (fun _ => by simp [evO, hiN]) hl_4 ?_
      refine E_mv (v' := (.int .u64 y_3)) rfl ?_
      refine E_op0 (v' := (.ptr 0 0 0)) rfl rfl ?_
      refine E_op0 (v' := (.ptr 0 0 0)) rfl rfl ?_
      refine E_do (S' := [.arr 0 [(.sl false 1 (List.map (avI .u64) l_4)), .nils]]) rfl rfl ?_
      refine E_nil ?_
      exact E_jx _ h (wk_rn [some (0, 0)] rfl (Nat.le_of_ble_eq_true rfl) ⟨(rn_obS rfl rfl (.cons (rn_b ((encI .u64).blws 0)) (.cons (rn_b rfl) (.nil (Nat.zero_le _)))) rfl), trivial⟩ ⟨(rn_ptr rfl rfl rfl rfl), (rn_b rfl), trivial⟩)
    · rw [ite_f hb] at h
      refine E_skip ?_
      exact E_jx _ h (wk_rn [some (0, 0)] rfl (Nat.le_of_ble_eq_true rfl) ⟨(rn_obS rfl rfl (.cons (rn_b ((encI .u64).blws 0)) (.cons (rn_b rfl) (.nil (Nat.zero_le _)))) rfl), trivial⟩ ⟨(rn_ptr rfl rfl rfl rfl), (rn_b rfl), trivial⟩)
  · refine E_sq ?_
    refine E_reg ?_
    refine E_mv (v' := (.ptr 0 0 0)) rfl ?_
    refine E_mv (v' := (.ptr 0 0 0)) rfl ?_
    refine E_op0 (v' := (.ptr 0 0 0)) rfl rfl ?_
    refine E_op0 (v' := (.ptr 0 0 1)) rfl rfl ?_
    refine E_op (v' := .nils) (S' := [.arr 0 [(.sl false 1 (List.map (avI .u64) s_2.2)), .nils]]) rfl rfl rfl ?_
    refine E_mv (v' := (.int .u64 s_2.1)) rfl ?_
    refine E_opw (v' := (Event.av (Event.mk 2 s_2.1))) rfl (.aggL ⟨(.refl _), (.refl _), trivial⟩) rfl ?_
    refine E_opw (v' := (.sl true 2 (List.map Event.av [(Event.mk 2 s_2.1)]))) rfl (.refl _) rfl ?_
    obtain ⟨l_5, hl_5, h⟩ := bd_some h
    refine E_apN (S' := [.arr 0 [(.sl false 1 (List.map (avI .u64) s_2.2)), .nils], .arr 0 (flat Event.av l_5)]) Event.enc rfl (.inl rfl) (src_sl [(Event.mk 2 s_2.1)]) hl_5 rfl ?_
    refine E_op0 (v' := (.ptr 0 0 0)) rfl rfl ?_
    refine E_op0 (v' := (.ptr 0 0 1)) rfl rfl ?_
    refine E_do (S' := [.arr 0 [(.sl false 1 (List.map (avI .u64) s_2.2)), (.ref 1 0 0 (List.length l_5) (some 2))], .arr 0 (flat Event.av l_5)]) rfl rfl ?_
    refine E_nil ?_
    refine E_nx ?_
    refine E_sq ?_
    refine E_reg ?_
    refine E_mv (v' := (.int .u64 s_2.1)) rfl ?_
    refine E_mv (v' := (.int .u64 s_2.1)) rfl ?_
    refine E_nil ?_
    refine E_nx ?_
    refine E_ret ?_
    cases h
    exact ⟨trivial, _, _, rfl, gwk_rn [some (0, 0), some (1, 0)] rfl (Nat.le_of_ble_eq_true rfl) ⟨(rn_obS rfl rfl (.cons (rn_b ((encI .u64).blws 0)) (.cons (rn_refL Event.enc rfl rfl rfl) (.nil (Nat.zero_le _)))) rfl), (rn_ob rfl rfl (.refl (Event.enc.blwf 0 _)) rfl), trivial⟩, (rn_b rfl)⟩
/- (*windlass/trace.Trace).Out -/
def fc39 : FC := (.seq (.reg [⟨(some 4), none, .op (.mv (.t 0))⟩,
  ⟨(some 5), none, .op (.bin .ptr .neq (.t 4) (.v .nilp))⟩] [])
  (.cond (.t 5)
  (.reg [⟨(some 6), none, .op (.mv (.t 0))⟩,
  ⟨(some 7), none, .op (.mv (.t 0))⟩,
  ⟨(some 8), none, .op (.nchk (.t 7))⟩,
  ⟨(some 9), none, .op (.fad 1 (.t 8))⟩,
  ⟨(some 10), none, .op (.load none (.t 9))⟩,
  ⟨(some 11), none, .op (.mv (.t 1))⟩,
  ⟨(some 12), none, .op (.build [(.int .i64 0), (.int .u64 0)] [(0, 1, (.v (.int .i64 1))), (1, 1, (.t 11))])⟩,
  ⟨(some 13), none, .op (.bsl (some 2) [(.int .i64 0), (.int .u64 0)] 1 [(0, 2, (.t 12))])⟩,
  ⟨(some 14), none, .op (.app (some 2) 16 (.t 10) (.t 13))⟩,
  ⟨(some 15), none, .op (.nchk (.t 6))⟩,
  ⟨(some 16), none, .op (.fad 1 (.t 15))⟩,
  ⟨none, none, .op (.store 1 (.t 16) (.t 14))⟩] [])
  .skip))
theorem fn39 : Fn3 Tryd.prog 39 17 [] fc39 := ⟨_, _, Tryd.func39, rfl, rfl, rfl, by kernel_rfl⟩
def trace_Trace_Out_pNR_s (t_tape_00 : (List Int)) (t_events_00 : (List Event)) (v_01 : Int) : Option ((List Int) × (List Event)) :=
  ((appL 16 t_events_00 [(Event.mk 1 v_01)]).bind fun l_1 => (some (t_tape_00, l_1)))
theorem trace_Trace_Out_pNR_ev {t_tape_00 : (List Int)} {t_events_00 : (List Event)} {v_01 : Int} {r : ((List Int) × (List Event))} (h : trace_Trace_Out_pNR_s t_tape_00 t_events_00 v_01 = some r) : Ev Tryd.prog 39 [(.ptr 0 0 0), (.int .u64 v_01)] (hp [.arr 0 [(.sl false 1 (List.map (avI .u64) t_tape_00)), (.ref 1 0 0 (List.length t_events_00) (some 2))], .arr 0 (flat Event.av t_events_00)]) (.tup []) (hp [.arr 0 [(.sl false 1 (List.map (avI .u64) r.1)), (.ref 1 1 0 (List.length r.2) (some 2))], .arr 1 (flat Event.av r.2)]) := by
  unfold trace_Trace_Out_pNR_s at h
  refine Ev_end mixed fn39 (by simp) [] ?_
  unfold fc39
  refine E_sq ?_
  refine E_reg ?_
  refine E_mv (v' := (.ptr 0 0 0)) rfl ?_
  refine E_op0 (v' := (.bool true)) rfl rfl ?_
  refine E_nil ?_
  refine E_nx ?_
  refine E_ct rfl ?_
  refine E_reg ?_
  refine E_mv (v' := (.ptr 0 0 0)) rfl ?_
  refine E_mv (v' := (.ptr 0 0 0)) rfl ?_
  refine E_op0 (v' := (.ptr 0 0 0)) rfl rfl ?_
  refine E_op0 (v' := (.ptr 0 0 1)) rfl rfl ?_
  refine E_op (v' := (.ref 1 0 0 (List.length t_events_00) (some 2))) (S' := [.arr 0 [(.sl false 1 (List.map (avI .u64) t_tape_00)), (.ref 1 0 0 (List.length t_events_00) (some 2))], .arr 0 (flat Event.av t_events_00)]) rfl rfl rfl ?_
  refine E_mv (v' := (.int .u64 v_01)) rfl ?_
  refine E_opw (v' := (Event.av (Event.mk 1 v_01))) rfl (.aggL ⟨(.refl _), (.refl _), trivial⟩) rfl ?_
  refine E_opw (v' := (.sl true 2 (List.map Event.av [(Event.mk 1 v_01)]))) rfl (.refl _) rfl ?_
  obtain ⟨l_1, hl_1, h⟩ := bd_some h
  refine E_apL (S' := [.arr 0 [(.sl false 1 (List.map (avI .u64) t_tape_00)), (.ref 1 0 0 (List.length t_events_00) (some 2))], .arr 1 (flat Event.av l_1)]) Event.enc rfl (src_sl [(Event.mk 1 v_01)]) rfl hl_1 rfl ?_
  refine E_op0 (v' := (.ptr 0 0 0)) rfl rfl ?_
  refine E_op0 (v' := (.ptr 0 0 1)) rfl rfl ?_
  refine E_do (S' := [.arr 0 [(.sl false 1 (List.map (avI .u64) t_tape_00)), (.ref 1 1 0 (List.length l_1) (some 2))], .arr 1 (flat Event.av l_1)]) rfl rfl ?_
  refine E_nil ?_
  cases h
  exact ⟨trivial, _, _, rfl, gwk_rn [some (0, 0), some (1, 0)] rfl (Nat.le_of_ble_eq_true rfl) ⟨(rn_obS rfl rfl (.cons (rn_b ((encI .u64).blws 0)) (.cons (rn_refL Event.enc rfl rfl rfl) (.nil (Nat.zero_le _)))) rfl), (rn_obV rfl rfl (.refl (Event.enc.blwf 0 _)) rfl rfl), trivial⟩, (rn_tup trivial)⟩
/- slices.Clone[[]windlass/api.Event,windlass/api.Event] -/
def fc88 : FC := (.seq (.reg [⟨(some 2), none, .op (.mv (.v .nils))⟩] [])
  (.seq (.seq (.reg [⟨(some 3), none, .op (.mv (.t 0))⟩,
  ⟨(some 4), none, .op (.bin .flat .eql (.t 3) (.v .nils))⟩] [])
  (.cond (.t 4)
  (.seq (.reg [⟨(some 2), none, .op (.mv (.v .nils))⟩] [])
  .ret)
  .skip))
  (.seq (.reg [⟨(some 5), none, .op (.bsl (some 2) [(.int .i64 0), (.int .u64 0)] 0 [])⟩,
  ⟨(some 6), none, .op (.mv (.t 0))⟩,
  ⟨(some 7), none, .op (.app (some 2) 16 (.t 5) (.t 6))⟩,
  ⟨(some 2), none, .op (.mv (.t 7))⟩] [])
  .ret)))
theorem fn88 : Fn3 Tryd.prog 88 8 [(2, none)] fc88 := ⟨_, _, Tryd.func88, rfl, rfl, rfl, by kernel_rfl⟩
def slices_Clone_1_r_z_s (s_00 : List Event) : Option (List Event) :=
  ((appL 16 [] s_00).bind fun l_1 => (some l_1))
theorem slices_Clone_1_r_z_ev {s_00 : List Event} {r : List Event} (h : slices_Clone_1_r_z_s s_00 = some r) : Ev Tryd.prog 88 [.ref 0 0 0 (List.length s_00) (some 2)] (hp [.arr 0 (flat Event.av s_00)]) (.sl false 2 (List.map Event.av r)) (hp [.arr 0 (flat Event.av s_00)]) := by
  unfold slices_Clone_1_r_z_s at h
  obtain ⟨l_1, hl_1, h2⟩ := bd_some h
  clear h
  refine Ev_rf (sz := 2) rfl (fun hx => ?_) (fun hx => ?_) (fun hx => ?_)
  · obtain rfl : s_00 = [] := by simpa using hx
    have e : l_1 = [] := by unfold appL at hl_1; split at hl_1 <;> simp_all
    subst e
    refine Ev_end mixed fn88 (by simp) [5] ?_
    unfold fc88
    refine E_sq ?_
    refine E_reg ?_
    refine E_mv (v' := .nils) rfl ?_
    refine E_nil ?_
    refine E_nx ?_
    refine E_as ?_
    refine E_sq ?_
    refine E_reg ?_
    refine E_mv (v' := .nils) rfl ?_
    refine E_op0 (v' := (.bool true)) rfl rfl ?_
    refine E_nil ?_
    refine E_nx ?_
    refine E_sq ?_
    refine E_cs (t := true) rfl (fun hb => ?_) (fun hb => ?_)
    · refine E_sq ?_
      refine E_reg ?_
      refine E_mv (v' := .nils) rfl ?_
      refine E_nil ?_
      refine E_nx ?_
      refine E_ret ?_
      refine E_thr ?_
      cases h2
      exact ⟨trivial, _, _, rfl, gwk_rn [some (0, 0)] rfl (Nat.le_of_ble_eq_true rfl) ⟨(rn_obS rfl rfl (.refl (Event.enc.blwf 0 _)) rfl), trivial⟩, (.base rfl .nil)⟩
    · cases hb
  · obtain rfl : s_00 = [] := by simpa using hx
    refine Ev_end mixed fn88 (by simp) [5] ?_
    unfold fc88
    refine E_sq ?_
    refine E_reg ?_
    refine E_mv (v' := .nils) rfl ?_
    refine E_nil ?_
    refine E_nx ?_
    refine E_as ?_
    refine E_sq ?_
    refine E_reg ?_
    refine E_mv (v' := (.snn 2)) rfl ?_
    refine E_op0 (v' := (.bool false)) rfl rfl ?_
    refine E_nil ?_
    refine E_nx ?_
    refine E_sq ?_
    refine E_cs (t := false) rfl (fun hb => ?_) (fun hb => ?_)
    · cases hb
    · refine E_skip ?_
      refine E_nx ?_
      refine E_sq ?_
      refine E_reg ?_
      refine E_op (v' := (.ref 1 0 0 0 (some 2))) (S' := [.arr 0 (flat Event.av []), .arr 0 []]) rfl rfl rfl ?_
      refine E_mv (v' := (.snn 2)) rfl ?_
      refine E_apL (S' := [.arr 0 (flat Event.av []), .arr 1 (flat Event.av l_1)]) Event.enc (l := []) rfl (rfl) rfl hl_1 rfl ?_
      refine E_mv (v' := (.ref 1 1 0 (List.length l_1) (some 2))) rfl ?_
      refine E_nil ?_
      refine E_nx ?_
      refine E_ret ?_
      cases h2
      exact ⟨trivial, _, _, rfl, (gwk_rn (S' := [.arr 0 (flat Event.av []), .arr 1 (flat Event.av r)]) [some (0, 0), some (1, 0)] rfl (Nat.le_of_ble_eq_true rfl) ⟨(rn_obS rfl rfl (.refl (Event.enc.blwf 0 _)) rfl), (rn_ob rfl rfl (.refl (Event.enc.blwf 0 _)) rfl), trivial⟩).trans (gwk_fz 1 6 rfl ⟨⟨rfl, fzL_id (Event.enc.blwf 1 _)⟩, trivial⟩), ⟨(.ref 1 1 0 (List.length r) (some 2)), (rn_refL Event.enc rfl rfl rfl), _, rfl, (fz_ref Event.enc (Nat.le_of_ble_eq_true rfl) rfl)⟩⟩
  · obtain ⟨x, xs, rfl⟩ : ∃ x xs, s_00 = x :: xs := by cases s_00 with | nil => exact (hx rfl).elim | cons x xs => exact ⟨x, xs, rfl⟩
    refine Ev_end mixed fn88 (by simp) [5] ?_
    unfold fc88
    refine E_sq ?_
    refine E_reg ?_
    refine E_mv (v' := .nils) rfl ?_
    refine E_nil ?_
    refine E_nx ?_
    refine E_as ?_
    refine E_sq ?_
    refine E_reg ?_
    refine E_mv (v' := (.ref 0 0 0 (List.length (x :: xs)) (some 2))) rfl ?_
    refine E_op0 (v' := (.bool false)) rfl rfl ?_
    refine E_nil ?_
    refine E_nx ?_
    refine E_sq ?_
    refine E_cs (t := false) rfl (fun hb => ?_) (fun hb => ?_)
    · cases hb
    · refine E_skip ?_
      refine E_nx ?_
      refine E_sq ?_
      refine E_reg ?_
      refine E_op (v' := (.ref 1 0 0 0 (some 2))) (S' := [.arr 0 (flat Event.av (x :: xs)), .arr 0 []]) rfl rfl rfl ?_
      refine E_mv (v' := (.ref 0 0 0 (List.length (x :: xs)) (some 2))) rfl ?_
      refine E_apL (S' := [.arr 0 (flat Event.av (x :: xs)), .arr 1 (flat Event.av l_1)]) Event.enc (l := []) rfl (src_ref Event.enc rfl) rfl hl_1 rfl ?_
      refine E_mv (v' := (.ref 1 1 0 (List.length l_1) (some 2))) rfl ?_
      refine E_nil ?_
      refine E_nx ?_
      refine E_ret ?_
      cases h2
      exact ⟨trivial, _, _, rfl, (gwk_rn (S' := [.arr 0 (flat Event.av (x :: xs)), .arr 1 (flat Event.av r)]) [some (0, 0), some (1, 0)] rfl (Nat.le_of_ble_eq_true rfl) ⟨(rn_obS rfl rfl (.refl (Event.enc.blwf 0 _)) rfl), (rn_ob rfl rfl (.refl (Event.enc.blwf 0 _)) rfl), trivial⟩).trans (gwk_fz 1 6 rfl ⟨⟨rfl, fzL_id (Event.enc.blwf 1 _)⟩, trivial⟩), ⟨(.ref 1 1 0 (List.length r) (some 2)), (rn_refL Event.enc rfl rfl rfl), _, rfl, (fz_ref Event.enc (Nat.le_of_ble_eq_true rfl) rfl)⟩⟩
/- (*windlass/trace.Trace).Events -/
def fc40 : FC := (.seq (.reg [⟨(some 2), none, .op (.mv (.v .nils))⟩] [])
  (.seq (.seq (.reg [⟨(some 3), none, .op (.mv (.t 0))⟩,
  ⟨(some 4), none, .op (.bin .ptr .eql (.t 3) (.v .nilp))⟩] [])
  (.cond (.t 4)
  (.seq (.reg [⟨(some 2), none, .op (.mv (.v .nils))⟩] [])
  .ret)
  .skip))
  (.seq (.reg [⟨(some 5), none, .op (.mv (.t 0))⟩,
  ⟨(some 6), none, .op (.nchk (.t 5))⟩,
  ⟨(some 7), none, .op (.fad 1 (.t 6))⟩,
  ⟨(some 8), none, .op (.load none (.t 7))⟩,
  ⟨(some 9), none, .call 88 [(.t 8)]⟩,
  ⟨(some 2), none, .op (.mv (.t 9))⟩] [])
  .ret)))
theorem fn40 : Fn3 Tryd.prog 40 10 [(2, none)] fc40 := ⟨_, _, Tryd.func40, rfl, rfl, rfl, by kernel_rfl⟩
def trace_Trace_Events_pNR_s (t_tape_00 : (List Int)) (t_events_00 : (List Event)) : Option ((List Event) × (List Int)) :=
  ((slices_Clone_1_r_z_s t_events_00).bind fun (v1_1 : (List Event)) => (some (v1_1, t_tape_00)))
theorem trace_Trace_Events_pNR_ev {t_tape_00 : (List Int)} {t_events_00 : (List Event)} {r : ((List Event) × (List Int))} (h : trace_Trace_Events_pNR_s t_tape_00 t_events_00 = some r) : Ev Tryd.prog 40 [(.ptr 0 0 0)] (hp [.arr 0 [(.sl false 1 (List.map (avI .u64) t_tape_00)), (.ref 1 0 0 (List.length t_events_00) (some 2))], .arr 0 (flat Event.av t_events_00)]) (.sl false 2 (List.map Event.av r.1)) (hp [.arr 0 [(.sl false 1 (List.map (avI .u64) r.2)), (.ref 1 0 0 (List.length t_events_00) (some 2))], .arr 0 (flat Event.av t_events_00)]) := by
  unfold trace_Trace_Events_pNR_s at h
  refine Ev_end mixed fn40 (by simp) [] ?_
  unfold fc40
  refine E_sq ?_
  refine E_reg ?_
  refine E_mv (v' := .nils) rfl ?_
  refine E_nil ?_
  refine E_nx ?_
  refine E_as ?_
  refine E_sq ?_
  refine E_reg ?_
  refine E_mv (v' := (.ptr 0 0 0)) rfl ?_
  refine E_op0 (v' := (.bool false)) rfl rfl ?_
  refine E_nil ?_
  refine E_nx ?_
  refine E_sq ?_
  refine E_cf rfl ?_
  refine E_skip ?_
  refine E_nx ?_
  refine E_sq ?_
  refine E_reg ?_
  refine E_mv (v' := (.ptr 0 0 0)) rfl ?_
  refine E_op0 (v' := (.ptr 0 0 0)) rfl rfl ?_
  refine E_op0 (v' := (.ptr 0 0 1)) rfl rfl ?_
  refine E_op (v' := (.ref 1 0 0 (List.length t_events_00) (some 2))) (S' := [.arr 0 [(.sl false 1 (List.map (avI .u64) t_tape_00)), (.ref 1 0 0 (List.length t_events_00) (some 2))], .arr 0 (flat Event.av t_events_00)]) rfl rfl rfl ?_
  obtain ⟨v1_1, hv1_1, h⟩ := bd_some h
  refine E_callF (S' := [.arr 0 [(.sl false 1 (List.map (avI .u64) t_tape_00)), (.ref 1 0 0 (List.length t_events_00) (some 2))], .arr 0 (flat Event.av t_events_00)]) (r' := (.sl false 2 (List.map Event.av v1_1))) (slices_Clone_1_r_z_ev hv1_1) [1] rfl rfl (by decide) rfl rfl ⟨(fr_in rfl rfl (.refl (Event.enc.blwf 0 _))), trivial⟩ ⟨(fr_outS rfl rfl (.refl (Event.enc.blwf 0 _)) rfl rfl), trivial⟩ ⟨.inr rfl, .inl rfl, trivial⟩ rfl (.cons (fi_ref rfl rfl rfl rfl) (.nil (Nat.zero_le _))) (rn_b (Event.enc.blws 0)) ?_
  refine E_mv (v' := (.sl false 2 (List.map Event.av v1_1))) rfl ?_
  refine E_nil ?_
  refine E_nx ?_
  refine E_ret ?_
  cases h
  exact ⟨trivial, _, _, rfl, gwk_rn [some (0, 0), some (1, 0)] rfl (Nat.le_of_ble_eq_true rfl) ⟨(rn_obS rfl rfl (.cons (rn_b ((encI .u64).blws 0)) (.cons (rn_refL Event.enc rfl rfl rfl) (.nil (Nat.zero_le _)))) rfl), (rn_obS rfl rfl (.refl (Event.enc.blwf 0 _)) rfl), trivial⟩, (rn_b (Event.enc.blws 0))⟩
/- windlass/trace.event -/
def fc41 : FC := (.seq (.reg [⟨(some 2), none, .op (.mv (.v (.str (ByteArray.mk #[]))))⟩] [])
  (.seq (.seq (.reg [⟨(some 3), none, .op (.mv (.t 0))⟩] [])
  (.block 0 (.seq (.reg [⟨(some 5), none, .op (.bin .none .eql (.t 3) (.v (.int .i64 1)))⟩,
  ⟨(some 4), none, .op (.mv (.t 5))⟩] [])
  (.cond (.t 4)
  (.seq (.reg [⟨(some 2), none, .op (.mv (.v (.str (ByteArray.mk #[111, 117, 116]))))⟩] [])
  .ret)
  (.seq (.reg [⟨(some 7), none, .op (.bin .none .eql (.t 3) (.v (.int .i64 2)))⟩,
  ⟨(some 6), none, .op (.mv (.t 7))⟩] [])
  (.cond (.t 6)
  (.seq (.reg [⟨(some 2), none, .op (.mv (.v (.str (ByteArray.mk #[105, 110]))))⟩] [])
  .ret)
  .skip))))))
  (.seq (.reg [⟨(some 2), none, .op (.mv (.v (.str (ByteArray.mk #[]))))⟩] [])
  .ret)))
theorem fn41 : Fn3 Tryd.prog 41 8 [(2, none)] fc41 := ⟨_, _, Tryd.func41, rfl, rfl, rfl, by kernel_rfl⟩
def trace_event_s (k_00 : Int) : Option ByteArray :=
  (if (k_00 == 1) then (some (ByteArray.mk #[111, 117, 116])) else (if (k_00 == 2) then (some (ByteArray.mk #[105, 110])) else (some (ByteArray.mk #[]))))
theorem trace_event_ev {k_00 : Int} {r : ByteArray} (h : trace_event_s k_00 = some r) : PureEv Tryd.prog 41 [(.int .i64 k_00)] (.str r) := by
  unfold trace_event_s at h
  refine PureEv_end mixed fn41 (by simp) [] 6 ?_
  unfold fc41
  refine E_sq ?_
  refine E_reg ?_
  refine E_mv (v' := (.str (ByteArray.mk #[]))) rfl ?_
  refine E_nil ?_
  refine E_nx ?_
  refine E_as ?_
  refine E_sq ?_
  refine E_reg ?_
  refine E_mv (v' := (.int .i64 k_00)) rfl ?_
  refine E_nil ?_
  refine E_nx ?_
  refine E_sq ?_
  refine E_block ?_
  refine E_sq ?_
  refine E_reg ?_
  refine E_op0 (v' := (.bool (k_00 == 1))) rfl rfl ?_
  refine E_mv (v' := (.bool (k_00 == 1))) rfl ?_
  refine E_nil ?_
  refine E_nx ?_
  refine E_cs (t := (k_00 == 1)) rfl (fun hb => ?_) (fun hb => ?_)
  · rw [ite_t hb] at h
    refine E_sq ?_
    refine E_reg ?_
    refine E_mv (v' := (.str (ByteArray.mk #[111, 117, 116]))) rfl ?_
    refine E_nil ?_
    refine E_nx ?_
    refine E_ret ?_
    refine E_blr ?_
    refine E_thr ?_
    cases h
    exact ⟨trivial, _, rfl, (fz_b rfl (.refl _))⟩
  · rw [ite_f hb] at h
    refine E_sq ?_
    refine E_reg ?_
    refine E_op0 (v' := (.bool (k_00 == 2))) rfl rfl ?_
    refine E_mv (v' := (.bool (k_00 == 2))) rfl ?_
    refine E_nil ?_
    refine E_nx ?_
    refine E_cs (t := (k_00 == 2)) rfl (fun hb => ?_) (fun hb => ?_)
    · rw [ite_t hb] at h
      refine E_sq ?_
      refine E_reg ?_
      refine E_mv (v' := (.str (ByteArray.mk #[105, 110]))) rfl ?_
      refine E_nil ?_
      refine E_nx ?_
      refine E_ret ?_
      refine E_blr ?_
      refine E_thr ?_
      cases h
      exact ⟨trivial, _, rfl, (fz_b rfl (.refl _))⟩
    · rw [ite_f hb] at h
      refine E_skip ?_
      refine E_bln ?_
      refine E_nx ?_
      refine E_sq ?_
      refine E_reg ?_
      refine E_mv (v' := (.str (ByteArray.mk #[]))) rfl ?_
      refine E_nil ?_
      refine E_nx ?_
      refine E_ret ?_
      cases h
      exact ⟨trivial, _, rfl, (fz_b rfl (.refl _))⟩
/- strconv.FormatUint -/
def fc42 : FC := (.seq (.reg [⟨(some 4), none, .op (.mv (.v (.str (ByteArray.mk #[]))))⟩] [])
  (.seq (.reg [⟨(some 5), none, .op (.mv (.t 0))⟩,
  ⟨(some 6), none, .op (.mv (.t 1))⟩,
  ⟨(some 7), none, .call 89 [(.t 5), (.t 6)]⟩,
  ⟨(some 4), none, .op (.mv (.t 7))⟩] [])
  .ret))
theorem fn42 : Fn3 Tryd.prog 42 8 [(4, none)] fc42 := ⟨_, _, Tryd.func42, rfl, rfl, rfl, by kernel_rfl⟩
def strconv_FormatUint_s (i_00 : Int) (base_01 : Int) : Option ByteArray :=
  ((internal_strconv_FormatUint_s i_00 base_01).bind fun vfor_1 => (some vfor_1))
theorem strconv_FormatUint_ev {i_00 : Int} {base_01 : Int} {r : ByteArray} (h : strconv_FormatUint_s i_00 base_01 = some r) : PureEv Tryd.prog 42 [(.int .u64 i_00), (.int .i64 base_01)] (.str r) := by
  unfold strconv_FormatUint_s at h
  refine PureEv_end mixed fn42 (by simp) [] 6 ?_
  unfold fc42
  refine E_sq ?_
  refine E_reg ?_
  refine E_mv (v' := (.str (ByteArray.mk #[]))) rfl ?_
  refine E_nil ?_
  refine E_nx ?_
  refine E_sq ?_
  refine E_reg ?_
  refine E_mv (v' := (.int .u64 i_00)) rfl ?_
  refine E_mv (v' := (.int .i64 base_01)) rfl ?_
  obtain ⟨vfor_1, hvfor_1, h⟩ := bd_some h
  refine E_callW (internal_strconv_FormatUint_ev  hvfor_1) rfl ⟨(.refl _), (.refl _), trivial⟩ (blwL_of ⟨rfl, rfl, trivial⟩) rfl ?_
  refine E_mv (v' := (.str vfor_1)) rfl ?_
  refine E_nil ?_
  refine E_nx ?_
  refine E_ret ?_
  cases h
  exact ⟨trivial, _, rfl, (fz_b rfl (.refl _))⟩
/- windlass/trace.ending -/
def fc43 : FC := (.seq (.reg [⟨(some 2), none, .op (.mv (.v (.str (ByteArray.mk #[]))))⟩] [])
  (.seq (.seq (.reg [⟨(some 3), none, .op (.mv (.t 0))⟩,
  ⟨(some 4), none, .op (.bin .none .lss (.t 3) (.v (.int .i64 1)))⟩,
  ⟨(some 5), none, .op (.mv (.t 4))⟩,
  ⟨(some 6), some (5, false), .op (.mv (.t 0))⟩,
  ⟨(some 7), some (5, false), .op (.bin .none .gtr (.t 6) (.v (.int .i64 5)))⟩,
  ⟨(some 8), none, .op (.pick (.t 5) (.v (.bool true)) (.t 7))⟩] [])
  (.cond (.t 8)
  (.seq (.reg [⟨(some 2), none, .op (.mv (.v (.str (ByteArray.mk #[]))))⟩] [])
  .ret)
  .skip))
  (.seq (.reg [⟨(some 9), none, .op (.bsl none [(.str (ByteArray.mk #[]))] 5 [(0, 1, (.v (.str (ByteArray.mk #[101, 120, 105, 116])))), (1, 1, (.v (.str (ByteArray.mk #[112, 97, 110, 105, 99])))), (2, 1, (.v (.str (ByteArray.mk #[102, 117, 101, 108])))), (3, 1, (.v (.str (ByteArray.mk #[115, 116, 97, 99, 107])))), (4, 1, (.v (.str (ByteArray.mk #[115, 116, 117, 99, 107]))))])⟩,
  ⟨(some 10), none, .op (.mv (.t 0))⟩,
  ⟨(some 11), none, .op (.bin .none .sub (.t 10) (.v (.int .i64 1)))⟩,
  ⟨(some 12), none, .op (.iad none none (.t 9) (.t 11))⟩,
  ⟨(some 13), none, .op (.load none (.t 12))⟩,
  ⟨(some 2), none, .op (.mv (.t 13))⟩] [])
  .ret)))
theorem fn43 : Fn3 Tryd.prog 43 14 [(2, none)] fc43 := ⟨_, _, Tryd.func43, rfl, rfl, rfl, by kernel_rfl⟩
def trace_ending_s (k_00 : Int) : Option ByteArray :=
  (jp (fun (s_2 : Bool) => (if s_2 then (some (ByteArray.mk #[])) else ((getI [(ByteArray.mk #[101, 120, 105, 116]), (ByteArray.mk #[112, 97, 110, 105, 99]), (ByteArray.mk #[102, 117, 101, 108]), (ByteArray.mk #[115, 116, 97, 99, 107]), (ByteArray.mk #[115, 116, 117, 99, 107])] (I64 (k_00 - 1))).bind fun y_3 => (some y_3)))) (fun k_1 => (if (decide (k_00 < 1)) then (k_1 true) else (k_1 (decide (k_00 > 5))))))
theorem trace_ending_ev {k_00 : Int} {r : ByteArray} (h : trace_ending_s k_00 = some r) : PureEv Tryd.prog 43 [(.int .i64 k_00)] (.str r) := by
  unfold trace_ending_s at h
  refine PureEv_end mixed fn43 (by simp) [] 6 ?_
  unfold fc43
  refine E_sq ?_
  refine E_reg ?_
  refine E_mv (v' := (.str (ByteArray.mk #[]))) rfl ?_
  refine E_nil ?_
  refine E_nx ?_
  refine E_as ?_
  refine E_jp h (fun s_2 => [(0, (.int .i64 k_00)), (8, (.bool s_2))]) (fun s_2 => []) (fun k_1 h => ?_) (fun s_2 h => ?_)
  · refine E_reg ?_
    refine E_mv (v' := (.int .i64 k_00)) rfl ?_
    refine E_op0 (v' := (.bool (decide (k_00 < 1)))) rfl rfl ?_
    refine E_mv (v' := (.bool (decide (k_00 < 1)))) rfl ?_
    refine E_gsT (b := (decide (k_00 < 1))) rfl rfl rfl (fun hb => ?_) (fun hb => ?_)
    · rw [ite_f hb] at h
      refine E_mv (v' := (.int .i64 k_00)) rfl ?_
      refine E_gh rfl ?_
      refine E_op0 (v' := (.bool (decide (k_00 > 5)))) rfl rfl ?_
      refine E_pf rfl rfl ?_
      refine E_nil ?_
      exact E_jx _ h (wk_aw ⟨(.refl _), (.refl _), trivial⟩)
    · rw [ite_t hb] at h
      refine E_gm rfl ?_
      refine E_pt rfl rfl ?_
      refine E_nil ?_
      exact E_jx _ h (wk_aw ⟨(.refl _), (.refl _), trivial⟩)
  · refine E_sq ?_
    refine E_cs (t := s_2) rfl (fun hb => ?_) (fun hb => ?_)
    · rw [ite_t hb] at h
      refine E_sq ?_
      refine E_reg ?_
      refine E_mv (v' := (.str (ByteArray.mk #[]))) rfl ?_
      refine E_nil ?_
      refine E_nx ?_
      refine E_ret ?_
      refine E_thr ?_
      cases h
      exact ⟨trivial, _, rfl, (fz_b rfl (.refl _))⟩
    · rw [ite_f hb] at h
      refine E_skip ?_
      refine E_nx ?_
      refine E_sq ?_
      refine E_reg ?_
      refine E_opw (v := (.sl true 1 (List.map avS [(ByteArray.mk #[101, 120, 105, 116]), (ByteArray.mk #[112, 97, 110, 105, 99]), (ByteArray.mk #[102, 117, 101, 108]), (ByteArray.mk #[115, 116, 97, 99, 107]), (ByteArray.mk #[115, 116, 117, 99, 107])]))) (v' := (.sl true 1 (List.map avS [(ByteArray.mk #[101, 120, 105, 116]), (ByteArray.mk #[112, 97, 110, 105, 99]), (ByteArray.mk #[102, 117, 101, 108]), (ByteArray.mk #[115, 116, 97, 99, 107]), (ByteArray.mk #[115, 116, 117, 99, 107])]))) (rd := []) (δ := none) (by kernel_rfl) (.refl _) rfl ?_
      refine E_mv (v' := (.int .i64 k_00)) rfl ?_
      refine E_op0 (v' := (.int .i64 (I64 (k_00 - 1)))) rfl rfl ?_
      obtain ⟨y_3, hy_3, h⟩ := bd_some h
      refine E_iadF rfl rfl hy_3 ?_
      refine E_op0 (v' := (.str y_3)) rfl rfl ?_
      refine E_mv (v' := (.str y_3)) rfl ?_
      refine E_nil ?_
      refine E_nx ?_
      refine E_ret ?_
      cases h
      exact ⟨trivial, _, rfl, (fz_b rfl (.refl _))⟩
/- windlass/trace.Ended -/
def fc44 : FC := (.seq (.reg [⟨(some 1), none, .op (.box (.t 0))⟩,
  ⟨(some 2), none, .op (.mv (.v (.bool false)))⟩] [])
  (.seq (.reg [⟨(some 3), none, .op (.fad 0 (.t 1))⟩,
  ⟨(some 4), none, .op (.load none (.t 3))⟩,
  ⟨(some 5), none, .op (.bin .none .eql (.t 4) (.v (.int .i64 1)))⟩,
  ⟨(some 6), none, .op (.mv (.t 5))⟩,
  ⟨(some 7), some (6, false), .op (.fad 0 (.t 1))⟩,
  ⟨(some 8), some (6, false), .op (.load none (.t 7))⟩,
  ⟨(some 9), some (6, false), .op (.bin .none .eql (.t 8) (.v (.int .i64 2)))⟩,
  ⟨(some 10), none, .op (.pick (.t 6) (.v (.bool true)) (.t 9))⟩,
  ⟨(some 2), none, .op (.mv (.t 10))⟩] [])
  .ret))
theorem fn44 : Fn3 Tryd.prog 44 11 [(2, none)] fc44 := ⟨_, _, Tryd.func44, rfl, rfl, rfl, by kernel_rfl⟩
def trace_Ended_s (e_00 : End) : Option Bool :=
  (jp (fun (s_2 : Bool) => (some s_2)) (fun k_1 => (if (e_00.Kind == 1) then (k_1 true) else (k_1 (e_00.Kind == 2)))))
theorem trace_Ended_ev {e_00 : End} {r : Bool} (h : trace_Ended_s e_00 = some r) : PureEv Tryd.prog 44 [(End.av e_00)] (.bool r) := by
  unfold trace_Ended_s at h
  refine PureEv_end mixed fn44 (by simp) [] 6 ?_
  unfold fc44
  refine E_sq ?_
  refine E_reg ?_
  refine E_op0 (v' := (.cptr (End.av e_00).cells 0)) rfl rfl ?_
  refine E_mv (v' := (.bool false)) rfl ?_
  refine E_nil ?_
  refine E_nx ?_
  refine E_jp h (fun s_2 => [(2, (.bool s_2))]) (fun s_2 => []) (fun k_1 h => ?_) (fun s_2 h => ?_)
  · refine E_reg ?_
    refine E_op0 (v' := (.cptr (End.av e_00).cells 0)) rfl rfl ?_
    refine E_op0 (v' := (.int .i64 e_00.Kind)) rfl rfl ?_
    refine E_op0 (v' := (.bool (e_00.Kind == 1))) rfl rfl ?_
    refine E_mv (v' := (.bool (e_00.Kind == 1))) rfl ?_
    refine E_gsT (b := (e_00.Kind == 1)) rfl rfl rfl (fun hb => ?_) (fun hb => ?_)
    · rw [ite_f hb] at h
      refine E_op0 (v' := (.cptr (End.av e_00).cells 0)) rfl rfl ?_
      refine E_gh rfl ?_
      refine E_op0 (v' := (.int .i64 e_00.Kind)) rfl rfl ?_
      refine E_gh rfl ?_
      refine E_op0 (v' := (.bool (e_00.Kind == 2))) rfl rfl ?_
      refine E_pf rfl rfl ?_
      refine E_mv (v' := (.bool (e_00.Kind == 2))) rfl ?_
      refine E_nil ?_
      exact E_jx _ h (wk_aw ⟨(.refl _), trivial⟩)
    · rw [ite_t hb] at h
      refine E_gm rfl ?_
      refine E_gm rfl ?_
      refine E_pt rfl rfl ?_
      refine E_mv (v' := (.bool true)) rfl ?_
      refine E_nil ?_
      exact E_jx _ h (wk_aw ⟨(.refl _), trivial⟩)
  · refine E_ret ?_
    cases h
    exact ⟨trivial, _, rfl, (fz_b rfl (.refl _))⟩
def gc_trace_Print : FC := (.seq (.reg [⟨(some 3), none, .op (.box (.t 1))⟩,
  ⟨(some 4), none, .op (.mv (.v (.str (ByteArray.mk #[]))))⟩] [])
  (.seq (.reg [⟨(some 5), none, .op (.mv (.v .nils))⟩] [])
  (.seq (.seq (.reg [⟨(some 11), none, .op (.mv (.t 0))⟩,
  ⟨(some 12), none, .op (.len .sl (.t 11))⟩,
  ⟨(some 13), none, .op (.mv (.v (.int .i64 0)))⟩] [])
  (.block 0 (.loop (.seq (.reg [⟨(some 14), none, .op (.bin .none .lss (.t 13) (.t 12))⟩] [])
  (.seq (.cond (.t 14)
  .skip
  (.exit 0))
  (.seq (.block 1 (.seq (.reg [⟨(some 15), none, .op (.iad none (some 2) (.t 11) (.t 13))⟩,
  ⟨(some 16), none, .op (.load (some 2) (.t 15))⟩,
  ⟨(some 7), none, .op (.new [(.int .i64 0), (.int .u64 0)])⟩,
  ⟨none, none, .op (.store 2 (.t 7) (.t 16))⟩] [])
  (.seq (.reg [⟨(some 8), none, .op (.mv (.v (.str (ByteArray.mk #[63]))))⟩] [])
  (.seq (.seq (.reg [⟨(some 17), none, .op (.fad 0 (.t 7))⟩,
  ⟨(some 18), none, .op (.load none (.t 17))⟩,
  ⟨(some 19), none, .call 41 [(.t 18)]⟩,
  ⟨(some 9), none, .op (.mv (.t 19))⟩] [])
  (.seq (.reg [⟨(some 20), none, .op (.mv (.t 9))⟩,
  ⟨(some 21), none, .op (.bin .none .neq (.t 20) (.v (.str (ByteArray.mk #[]))))⟩] [])
  (.cond (.t 21)
  (.reg [⟨(some 22), none, .op (.mv (.t 9))⟩,
  ⟨(some 23), none, .op (.bin .none .add (.t 22) (.v (.str (ByteArray.mk #[61]))))⟩,
  ⟨(some 24), none, .op (.fad 1 (.t 7))⟩,
  ⟨(some 25), none, .op (.load none (.t 24))⟩,
  ⟨(some 26), none, .call 42 [(.t 25), (.v (.int .i64 10))]⟩,
  ⟨(some 27), none, .op (.bin .none .add (.t 23) (.t 26))⟩,
  ⟨(some 8), none, .op (.mv (.t 27))⟩] [])
  .skip)))
  (.reg [⟨(some 28), none, .op (.mv (.t 5))⟩,
  ⟨(some 29), none, .op (.mv (.t 8))⟩,
  ⟨(some 30), none, .op (.bsl none [(.str (ByteArray.mk #[]))] 1 [(0, 1, (.t 29))])⟩,
  ⟨(some 31), none, .op (.app none 16 (.t 28) (.t 30))⟩,
  ⟨(some 5), none, .op (.mv (.t 31))⟩] [])))))
  (.reg [⟨(some 32), none, .op (.bin .none .add (.t 13) (.v (.int .i64 1)))⟩,
  ⟨(some 13), none, .op (.mv (.t 32))⟩] [])))))))
  (.seq (.reg [⟨(some 33), none, .op (.fad 0 (.t 3))⟩,
  ⟨(some 34), none, .op (.load none (.t 33))⟩,
  ⟨(some 35), none, .call 43 [(.t 34)]⟩,
  ⟨(some 10), none, .op (.mv (.t 35))⟩] [])
  (.seq (.block 2 (.seq (.reg [⟨(some 37), none, .op (.mv (.t 10))⟩,
  ⟨(some 38), none, .op (.bin .none .eql (.t 37) (.v (.str (ByteArray.mk #[]))))⟩,
  ⟨(some 36), none, .op (.mv (.t 38))⟩] [])
  (.cond (.t 36)
  (.reg [⟨(some 10), none, .op (.mv (.v (.str (ByteArray.mk #[63]))))⟩] [])
  (.seq (.reg [⟨(some 40), none, .op (.load (some 2) (.t 3))⟩,
  ⟨(some 41), none, .call 44 [(.t 40)]⟩,
  ⟨(some 39), none, .op (.mv (.t 41))⟩] [])
  (.cond (.t 39)
  (.reg [⟨(some 42), none, .op (.mv (.t 10))⟩,
  ⟨(some 43), none, .op (.fad 1 (.t 3))⟩,
  ⟨(some 44), none, .op (.load none (.t 43))⟩,
  ⟨(some 45), none, .call 42 [(.t 44), (.v (.int .i64 10))]⟩,
  ⟨(some 46), none, .op (.bin .none .add (.v (.str (ByteArray.mk #[61]))) (.t 45))⟩,
  ⟨(some 47), none, .op (.bin .none .add (.t 42) (.t 46))⟩,
  ⟨(some 10), none, .op (.mv (.t 47))⟩] [])
  .skip)))))
  (.seq (.block 1000003 (.seq (.reg [⟨(some 48), none, .op (.mv (.t 5))⟩,
  ⟨(some 49), none, .op (.mv (.t 10))⟩,
  ⟨(some 50), none, .op (.bsl none [(.str (ByteArray.mk #[]))] 1 [(0, 1, (.t 49))])⟩,
  ⟨(some 51), none, .op (.app none 16 (.t 48) (.t 50))⟩] []) (.reg [⟨(some 52), none, .call 45 [(.t 51), (.v (.str (ByteArray.mk #[32])))]⟩,
  ⟨(some 4), none, .op (.mv (.t 52))⟩] [])))
  .ret))))))
theorem gn_trace_Print : Fn3S Tryd.prog 14 53 [(4, none)] gc_trace_Print := ⟨_, _, Tryd.func14, rfl, rfl, rfl, by kernel_rfl, by kernel_rfl⟩
def trace_Print_s (events_00 : (List Event)) (e_01 : End) : Option ByteArray :=
  ((rng (fun (i_2 : Nat) (x_3 : Event) (s_1 : (End × (List ByteArray))) => (((trace_event_s x_3.Kind).bind fun eve_5 => (jp (fun (s_7 : ByteArray) => ((appL 16 s_1.2 [s_7]).bind fun l_11 => (some (.nxt (s_1.1, l_11))))) (fun k_6 => (if (!(ByteArray.toList eve_5 == ByteArray.toList (ByteArray.mk #[]))) then ((catS eve_5 (ByteArray.mk #[61])).bind fun s_8 => ((strconv_FormatUint_s x_3.Value 10).bind fun vfor_9 => ((catS s_8 vfor_9).bind fun s_10 => (k_6 s_10)))) else (k_6 (ByteArray.mk #[63])))))) : Option (Stp (End × (List ByteArray)) (Option ByteArray)))) events_00 (e_01, [])).bind (oc (fun (s_1 : (End × (List ByteArray))) => ((trace_ending_s s_1.1.Kind).bind fun vend_12 => (jp (fun (s_14 : ByteArray) => ((appL 16 s_1.2 [s_14]).bind fun l_19 => ((strings_Join_s l_19 (ByteArray.mk #[32])).bind fun joi_20 => (some joi_20)))) (fun k_13 => (if (ByteArray.toList vend_12 == ByteArray.toList (ByteArray.mk #[])) then (k_13 (ByteArray.mk #[63])) else ((trace_Ended_s s_1.1).bind fun vend_15 => (if vend_15 then ((strconv_FormatUint_s s_1.1.Value 10).bind fun vfor_16 => ((catS (ByteArray.mk #[61]) vfor_16).bind fun s_17 => ((catS vend_12 s_17).bind fun s_18 => (k_13 s_18)))) else (k_13 vend_12))))))))))
theorem trace_Print_ev {events_00 : (List Event)} {e_01 : End} {r : ByteArray} (h : trace_Print_s events_00 e_01 = some r) : PureEv Tryd.prog 14 [(.sl false 2 (List.map Event.av events_00)), (End.av e_01)] (.str r) := by
  unfold trace_Print_s at h
  refine PureEv_endS mixed gn_trace_Print (by simp) [7, 31] 6 ?_
  unfold gc_trace_Print
  refine E_sq ?_
  refine E_reg ?_
  refine E_op0 (v' := (.cptr (End.av e_01).cells 0)) rfl rfl ?_
  refine E_mv (v' := (.str (ByteArray.mk #[]))) rfl ?_
  refine E_nil ?_
  refine E_nx ?_
  refine E_sq ?_
  refine E_reg ?_
  refine E_mv (v' := .nils) rfl ?_
  refine E_nil ?_
  refine E_nx ?_
  refine E_as ?_
  refine E_sq ?_
  refine E_reg ?_
  refine E_mv (v' := (.sl false 2 (List.map Event.av events_00))) rfl ?_
  refine E_len rfl ?_
  refine E_mv (v' := (.int .i64 0)) rfl ?_
  refine E_nil ?_
  refine E_nx ?_
  refine E_sq ?_
  refine E_rngO (fun s_1 => [(3, (.cptr (End.av s_1.1).cells 0)), (5, (.ref 0 1 0 (List.length s_1.2) none)), (11, (.sl false 2 (List.map Event.av events_00)))]) (fun s_1 => [.arr 1 (flat avS s_1.2)]) h (by decide) (by decide) (fun _ => ⟨rfl, rfl, rfl, rfl⟩) (wk_rn [none] rfl (Nat.le_of_ble_eq_true rfl) ⟨(rn_obN rfl rfl rfl), trivial⟩ ⟨(rn_b rfl), (rn_b rfl), (rn_b (cp_blw (End.enc.blw _ 0))), (rn_nil rfl), (rn_b (Event.enc.blws 0)), trivial⟩) (fun i_2 x_3 s_1 c hx_4 hlt h => ?_) (fun s_1 fr' S' h hw => ?_)
  · refine E_sq ?_
    refine E_reg ?_
    refine E_iadF rfl rfl (getI_of hx_4) ?_
    refine E_op0 (v' := (Event.av x_3)) rfl rfl ?_
    refine E_op (v' := .ptr 1 0 0) (S' := [.arr 1 (flat avS s_1.2), .arr 0 [(.int .i64 0), (.int .u64 0)]]) rfl rfl rfl ?_
    refine E_do (S' := [.arr 1 (flat avS s_1.2), .arr 0 [(.int .i64 x_3.Kind), (.int .u64 x_3.Value)]]) rfl rfl ?_
    refine E_nil ?_
    refine E_nx ?_
    refine E_sq ?_
    refine E_reg ?_
    refine E_mv (v' := (.str (ByteArray.mk #[63]))) rfl ?_
    refine E_nil ?_
    refine E_nx ?_
    refine E_as ?_
    refine E_sq ?_
    refine E_reg ?_
    refine E_op0 (v' := (.ptr 1 0 0)) rfl rfl ?_
    refine E_op (v' := (.int .i64 x_3.Kind)) (S' := [.arr 1 (flat avS s_1.2), .arr 0 [(.int .i64 x_3.Kind), (.int .u64 x_3.Value)]]) rfl rfl rfl ?_
    obtain ⟨eve_5, heve_5, h⟩ := bd_some h
    refine E_callW (trace_event_ev  heve_5) rfl ⟨(.refl _), trivial⟩ (blwL_of ⟨rfl, trivial⟩) rfl ?_
    refine E_mv (v' := (.str eve_5)) rfl ?_
    refine E_nil ?_
    refine E_nx ?_
    refine E_as ?_
    refine E_sq ?_
    refine E_reg ?_
    refine E_mv (v' := (.str eve_5)) rfl ?_
    refine E_op0 (v' := (.bool (!(ByteArray.toList eve_5 == ByteArray.toList (ByteArray.mk #[]))))) rfl rfl ?_
    refine E_nil ?_
    refine E_nx ?_
    refine E_jp h (fun s_7 => [(3, (.cptr (End.av s_1.1).cells 0)), (5, (.ref 0 1 0 (List.length s_1.2) none)), (8, (.str s_7)), (11, (.sl false 2 (List.map Event.av events_00))), (12, (.int .i64 (List.length events_00 : Int))), (13, (.int .i64 (i_2 : Int)))]) (fun s_7 => [.arr 1 (flat avS s_1.2)]) (fun k_6 h => ?_) (fun s_7 h => ?_)
    · refine E_cs (t := (!(ByteArray.toList eve_5 == ByteArray.toList (ByteArray.mk #[])))) rfl (fun hb => ?_) (fun hb => ?_)
      · rw [ite_t hb] at h
        refine E_reg ?_
        refine E_mv (v' := (.str eve_5)) rfl ?_
        obtain ⟨s_8, hs_8, h⟩ := bd_some h
        refine E_cat rfl rfl hs_8 ?_
        refine E_op0 (v' := (.ptr 1 0 1)) rfl rfl ?_
        refine E_op (v' := (.int .u64 x_3.Value)) (S' := [.arr 1 (flat avS s_1.2), .arr 0 [(.int .i64 x_3.Kind), (.int .u64 x_3.Value)]]) rfl rfl rfl ?_
        obtain ⟨vfor_9, hvfor_9, h⟩ := bd_some h
        refine E_callW (strconv_FormatUint_ev  hvfor_9) rfl ⟨(.refl _), (.refl _), trivial⟩ (blwL_of ⟨rfl, rfl, trivial⟩) rfl ?_
        obtain ⟨s_10, hs_10, h⟩ := bd_some h
        refine E_cat rfl rfl hs_10 ?_
        refine E_mv (v' := (.str s_10)) rfl ?_
        refine E_nil ?_
        exact E_jx _ h (wk_rn [some (0, 0)] rfl (Nat.le_of_ble_eq_true rfl) ⟨(rn_ob rfl rfl (.refl (encS.blwf 0 _)) rfl), trivial⟩ ⟨(rn_b (cp_blw (End.enc.blw _ 0))), (rn_refL encS rfl rfl rfl), (rn_b rfl), (rn_b (Event.enc.blws 0)), (rn_b rfl), (rn_b rfl), trivial⟩)
      · rw [ite_f hb] at h
        refine E_skip ?_
        exact E_jx _ h (wk_rn [some (0, 0)] rfl (Nat.le_of_ble_eq_true rfl) ⟨(rn_ob rfl rfl (.refl (encS.blwf 0 _)) rfl), trivial⟩ ⟨(rn_b (cp_blw (End.enc.blw _ 0))), (rn_refL encS rfl rfl rfl), (rn_b rfl), (rn_b (Event.enc.blws 0)), (rn_b rfl), (rn_b rfl), trivial⟩)
    · refine E_reg ?_
      refine E_mv (v' := (.ref 0 1 0 (List.length s_1.2) none)) rfl ?_
      refine E_mv (v' := (.str s_7)) rfl ?_
      refine E_opw (v' := (.sl true 1 (List.map avS [s_7]))) rfl (.refl _) rfl ?_
      obtain ⟨l_11, hl_11, h⟩ := bd_some h
      refine E_apL (S' := [.arr 2 (flat avS l_11)]) encS rfl (src_sl [s_7]) rfl hl_11 rfl ?_
      refine E_mv (v' := (.ref 0 2 0 (List.length l_11) none)) rfl ?_
      refine E_nil ?_
      cases h
      exact L_nn rfl (wk_rn [some (0, 0)] rfl (Nat.le_of_ble_eq_true rfl) ⟨(rn_ob rfl rfl (.refl (encS.blwf 0 _)) rfl), trivial⟩ ⟨(rn_b rfl), (rn_b rfl), (rn_b (cp_blw (End.enc.blw _ 0))), (rn_refL encS rfl rfl rfl), (rn_b (Event.enc.blws 0)), trivial⟩)
  · refine X_nx hw ?_
    refine E_sq ?_
    refine E_reg ?_
    refine E_op0 (v' := (.cptr (End.av s_1.1).cells 0)) rfl rfl ?_
    refine E_op0 (v' := (.int .i64 s_1.1.Kind)) rfl rfl ?_
    obtain ⟨vend_12, hvend_12, h⟩ := bd_some h
    refine E_callW (trace_ending_ev  hvend_12) rfl ⟨(.refl _), trivial⟩ (blwL_of ⟨rfl, trivial⟩) rfl ?_
    refine E_mv (v' := (.str vend_12)) rfl ?_
    refine E_nil ?_
    refine E_nx ?_
    refine E_jp h (fun s_14 => [(5, (.ref 0 1 0 (List.length s_1.2) none)), (10, (.str s_14))]) (fun s_14 => [.arr 1 (flat avS s_1.2)]) (fun k_13 h => ?_) (fun s_14 h => ?_)
    · refine E_block ?_
      refine E_sq ?_
      refine E_reg ?_
      refine E_mv (v' := (.str vend_12)) rfl ?_
      refine E_op0 (v' := (.bool (ByteArray.toList vend_12 == ByteArray.toList (ByteArray.mk #[])))) rfl rfl ?_
      refine E_mv (v' := (.bool (ByteArray.toList vend_12 == ByteArray.toList (ByteArray.mk #[])))) rfl ?_
      refine E_nil ?_
      refine E_nx ?_
      refine E_cs (t := (ByteArray.toList vend_12 == ByteArray.toList (ByteArray.mk #[]))) rfl (fun hb => ?_) (fun hb => ?_)
      · rw [ite_t hb] at h
        refine E_reg ?_
        refine E_mv (v' := (.str (ByteArray.mk #[63]))) rfl ?_
        refine E_nil ?_
        refine E_bln ?_
        exact E_jx _ h (wk_rn [some (0, 0)] rfl (Nat.le_of_ble_eq_true rfl) ⟨(rn_ob rfl rfl (.refl (encS.blwf 0 _)) rfl), trivial⟩ ⟨(rn_refL encS rfl rfl rfl), (rn_b rfl), trivial⟩)
      · rw [ite_f hb] at h
        refine E_sq ?_
        refine E_reg ?_
        refine E_op0 (v' := (End.av s_1.1)) rfl rfl ?_
        obtain ⟨vend_15, hvend_15, h⟩ := bd_some h
        refine E_callW (trace_Ended_ev  hvend_15) rfl ⟨(.refl _), trivial⟩ (blwL_of ⟨(End.enc.blw _ 0), trivial⟩) rfl ?_
        refine E_mv (v' := (.bool vend_15)) rfl ?_
        refine E_nil ?_
        refine E_nx ?_
        refine E_cs (t := vend_15) rfl (fun hb => ?_) (fun hb => ?_)
        · rw [ite_t hb] at h
          refine E_reg ?_
          refine E_mv (v' := (.str vend_12)) rfl ?_
          refine E_op0 (v' := (.cptr (End.av s_1.1).cells 1)) rfl rfl ?_
          refine E_op0 (v' := (.int .u64 s_1.1.Value)) rfl rfl ?_
          obtain ⟨vfor_16, hvfor_16, h⟩ := bd_some h
          refine E_callW (strconv_FormatUint_ev  hvfor_16) rfl ⟨(.refl _), (.refl _), trivial⟩ (blwL_of ⟨rfl, rfl, trivial⟩) rfl ?_
          obtain ⟨s_17, hs_17, h⟩ := bd_some h
          refine E_cat rfl rfl hs_17 ?_
          obtain ⟨s_18, hs_18, h⟩ := bd_some h
          refine E_cat rfl rfl hs_18 ?_
          refine E_mv (v' := (.str s_18)) rfl ?_
          refine E_nil ?_
          refine E_bln ?_
          exact E_jx _ h (wk_rn [some (0, 0)] rfl (Nat.le_of_ble_eq_true rfl) ⟨(rn_ob rfl rfl (.refl (encS.blwf 0 _)) rfl), trivial⟩ ⟨(rn_refL encS rfl rfl rfl), (rn_b rfl), trivial⟩)
        · rw [ite_f hb] at h
          refine E_skip ?_
          refine E_bln ?_
          exact E_jx _ h (wk_rn [some (0, 0)] rfl (Nat.le_of_ble_eq_true rfl) ⟨(rn_ob rfl rfl (.refl (encS.blwf 0 _)) rfl), trivial⟩ ⟨(rn_refL encS rfl rfl rfl), (rn_b rfl), trivial⟩)
    · refine E_sq ?_
      refine E_block ?_
      refine E_sq ?_
      refine E_reg ?_
      refine E_mv (v' := (.ref 0 1 0 (List.length s_1.2) none)) rfl ?_
      refine E_mv (v' := (.str s_14)) rfl ?_
      refine E_opw (v' := (.sl true 1 (List.map avS [s_14]))) rfl (.refl _) rfl ?_
      obtain ⟨l_19, hl_19, h⟩ := bd_some h
      refine E_apL (S' := [.arr 2 (flat avS l_19)]) encS rfl (src_sl [s_14]) rfl hl_19 rfl ?_
      refine E_nil ?_
      refine E_nxw (F := [(51, (.sl false 1 (List.map avS l_19)))]) (T := []) (wk_trans (fr'' := [(51, (.sl false 1 (List.map avS l_19)))]) (S'' := []) (wk_rn (fr' := [(51, (.ref 0 1 0 (List.length l_19) none))]) (S' := [.arr 1 (flat avS l_19)]) [some (0, 0)] rfl (Nat.le_of_ble_eq_true rfl) ⟨(rn_ob rfl rfl (.refl (encS.blwf 0 _)) rfl), trivial⟩ ⟨(rn_refL encS rfl rfl rfl), trivial⟩) (wk_fz 0 6 rfl trivial ⟨(fz_ref encS (Nat.le_of_ble_eq_true rfl) rfl), trivial⟩)) ?_
      refine E_reg ?_
      obtain ⟨joi_20, hjoi_20, h⟩ := bd_some h
      refine E_callW (strings_Join_ev  hjoi_20) rfl ⟨(.refl _), (.refl _), trivial⟩ (blwL_of ⟨(encS.blws 0), rfl, trivial⟩) rfl ?_
      refine E_mv (v' := (.str joi_20)) rfl ?_
      refine E_nil ?_
      refine E_bln ?_
      refine E_nx ?_
      refine E_ret ?_
      cases h
      exact ⟨trivial, _, rfl, (fz_b rfl (.refl _))⟩
/- windlass/windlasslaw02.first -/
def fc13 : FC := (.seq (.reg [⟨(some 0), none, .op (.mv (.v (.bool false)))⟩] [])
  (.seq (.reg [⟨(some 3), none, .op (.bsl none [(.int .u64 0)] 1 [(0, 1, (.v (.int .u64 5)))])⟩,
  ⟨(some 4), none, .call 37 [(.t 3)]⟩,
  ⟨(some 1), none, .op (.mv (.t 4))⟩] [])
  (.seq (.reg [⟨(some 5), none, .op (.mv (.t 1))⟩,
  ⟨(some 6), none, .call 38 [(.t 5)]⟩,
  ⟨(some 2), none, .op (.mv (.t 6))⟩] [])
  (.seq (.reg [⟨(some 7), none, .op (.mv (.t 1))⟩,
  ⟨(some 8), none, .call 39 [(.t 7), (.v (.int .u64 7))]⟩] [])
  (.seq (.reg [⟨(some 9), none, .op (.mv (.t 2))⟩,
  ⟨(some 10), none, .op (.bin .none .eql (.t 9) (.v (.int .u64 5)))⟩,
  ⟨(some 11), none, .op (.mv (.t 10))⟩,
  ⟨(some 12), some (11, true), .op (.mv (.t 1))⟩,
  ⟨(some 13), some (11, true), .call 40 [(.t 12)]⟩,
  ⟨(some 14), some (11, true), .op (.build [(.int .i64 0), (.int .u64 0)] [(0, 1, (.v (.int .i64 1))), (1, 1, (.v (.int .u64 3)))])⟩,
  ⟨(some 15), some (11, true), .call 14 [(.t 13), (.t 14)]⟩,
  ⟨(some 16), some (11, true), .op (.bin .none .eql (.t 15) (.v (.str (ByteArray.mk #[105, 110, 61, 53, 32, 111, 117, 116, 61, 55, 32, 101, 120, 105, 116, 61, 51]))))⟩,
  ⟨(some 17), none, .op (.pick (.t 11) (.t 16) (.v (.bool false)))⟩,
  ⟨(some 0), none, .op (.mv (.t 17))⟩] [])
  .ret)))))
theorem fn13 : Fn3 Tryd.prog 13 18 [(0, none)] fc13 := ⟨_, _, Tryd.func13, rfl, rfl, rfl, by kernel_rfl⟩
def windlasslaw02_first_s  : Option Bool :=
  ((trace_New_o_s ([5])).bind fun (new_1 : (List Int)) => ((trace_Trace_In_pNn_s new_1).bind fun (vin_2 : (Int × (List Int) × (List Event))) => ((trace_Trace_Out_pNR_s vin_2.2.1 vin_2.2.2 7).bind fun (out_3 : ((List Int) × (List Event))) => (jp (fun (s_5 : Bool) => (some s_5)) (fun k_4 => (if (vin_2.1 == 5) then ((trace_Trace_Events_pNR_s out_3.1 out_3.2).bind fun (eve_6 : ((List Event) × (List Int))) => ((trace_Print_s eve_6.1 (End.mk 1 3)).bind fun pri_7 => (k_4 (ByteArray.toList pri_7 == ByteArray.toList (ByteArray.mk #[105, 110, 61, 53, 32, 111, 117, 116, 61, 55, 32, 101, 120, 105, 116, 61, 51]))))) else (k_4 false)))))))
theorem windlasslaw02_first_ev  {r : Bool} (h : windlasslaw02_first_s  = some r) : PureEv Tryd.prog 13 [] (.bool r) := by
  unfold windlasslaw02_first_s at h
  refine PureEv_end mixed fn13 (by simp) [] 6 ?_
  unfold fc13
  refine E_sq ?_
  refine E_reg ?_
  refine E_mv (v' := (.bool false)) rfl ?_
  refine E_nil ?_
  refine E_nx ?_
  refine E_sq ?_
  refine E_reg ?_
  refine E_opw (v' := (.sl true 1 (List.map (avI .u64) [5]))) rfl (.refl _) rfl ?_
  obtain ⟨new_1, hnew_1, h⟩ := bd_some h
  refine E_callF (S' := [.arr 0 [(.sl false 1 (List.map (avI .u64) new_1)), .nils]]) (r' := (.ptr 0 0 0)) (trace_New_o_ev hnew_1) [] rfl rfl (by decide) rfl rfl trivial ⟨(fr_outN rfl rfl (.cons (rn_b ((encI .u64).blws 0)) (.cons (rn_b rfl) (.nil (Nat.zero_le _)))) rfl), trivial⟩ trivial rfl (.cons (.base ((encI .u64).blws 0) .ex) (.nil (Nat.zero_le _))) (fo_ptr rfl rfl rfl rfl) ?_
  refine E_mv (v' := (.ptr 0 0 0)) rfl ?_
  refine E_nil ?_
  refine E_nx ?_
  refine E_sq ?_
  refine E_reg ?_
  refine E_mv (v' := (.ptr 0 0 0)) rfl ?_
  obtain ⟨vin_2, hvin_2, h⟩ := bd_some h
  refine E_callF (S' := [.arr 0 [(.sl false 1 (List.map (avI .u64) vin_2.2.1)), (.ref 1 1 0 (List.length vin_2.2.2) (some 2))], .arr 1 (flat Event.av vin_2.2.2)]) (r' := (.int .u64 vin_2.1)) (trace_Trace_In_pNn_ev hvin_2) [0] rfl rfl (by decide) rfl rfl ⟨(fr_in rfl rfl (.cons (.base ((encI .u64).blws 0) (.refl _)) (.cons (rn_b rfl) (.nil (Nat.zero_le _))))), trivial⟩ ⟨(fr_outS rfl rfl (.cons (rn_b ((encI .u64).blws 0)) (.cons (fo_ref rfl rfl rfl rfl) (.nil (Nat.zero_le _)))) rfl rfl), (fr_outN rfl rfl (.refl (Event.enc.blwf 0 _)) rfl), trivial⟩ ⟨.inl rfl, trivial⟩ rfl (.cons (fi_ptr rfl rfl rfl rfl) (.nil (Nat.zero_le _))) (rn_b rfl) ?_
  refine E_mv (v' := (.int .u64 vin_2.1)) rfl ?_
  refine E_nil ?_
  refine E_nx ?_
  refine E_sq ?_
  refine E_reg ?_
  refine E_mv (v' := (.ptr 0 0 0)) rfl ?_
  obtain ⟨out_3, hout_3, h⟩ := bd_some h
  refine E_callF (S' := [.arr 0 [(.sl false 1 (List.map (avI .u64) out_3.1)), (.ref 1 2 0 (List.length out_3.2) (some 2))], .arr 2 (flat Event.av out_3.2)]) (r' := (.tup [])) (trace_Trace_Out_pNR_ev hout_3) [0, 1] rfl rfl (by decide) rfl rfl ⟨(fr_in rfl rfl (.cons (.base ((encI .u64).blws 0) (.refl _)) (.cons (fi_ref rfl rfl rfl rfl) (.nil (Nat.zero_le _))))), (fr_in rfl rfl (.refl (Event.enc.blwf 0 _))), trivial⟩ ⟨(fr_outS rfl rfl (.cons (rn_b ((encI .u64).blws 0)) (.cons (fo_ref rfl rfl rfl rfl) (.nil (Nat.zero_le _)))) rfl rfl), (fr_out rfl rfl (.refl (Event.enc.blwf 0 _)) rfl rfl), trivial⟩ ⟨.inl rfl, .inl rfl, trivial⟩ rfl (.cons (fi_ptr rfl rfl rfl rfl) (.cons (.base rfl (.refl _)) (.nil (Nat.zero_le _)))) (rn_tup trivial) ?_
  refine E_nil ?_
  refine E_nx ?_
  refine E_jp h (fun s_5 => [(0, (.bool s_5))]) (fun s_5 => []) (fun k_4 h => ?_) (fun s_5 h => ?_)
  · refine E_reg ?_
    refine E_mv (v' := (.int .u64 vin_2.1)) rfl ?_
    refine E_op0 (v' := (.bool (vin_2.1 == 5))) rfl rfl ?_
    refine E_mv (v' := (.bool (vin_2.1 == 5))) rfl ?_
    refine E_gsT (b := (vin_2.1 == 5)) rfl rfl rfl (fun hb => ?_) (fun hb => ?_)
    · rw [ite_t hb] at h
      refine E_mv (v' := (.ptr 0 0 0)) rfl ?_
      refine E_gh rfl ?_
      obtain ⟨eve_6, heve_6, h⟩ := bd_some h
      refine E_callF (S' := [.arr 0 [(.sl false 1 (List.map (avI .u64) eve_6.2)), (.ref 1 2 0 (List.length out_3.2) (some 2))], .arr 2 (flat Event.av out_3.2)]) (r' := (.sl false 2 (List.map Event.av eve_6.1))) (trace_Trace_Events_pNR_ev heve_6) [0, 1] rfl rfl (by decide) rfl rfl ⟨(fr_in rfl rfl (.cons (.base ((encI .u64).blws 0) (.refl _)) (.cons (fi_ref rfl rfl rfl rfl) (.nil (Nat.zero_le _))))), (fr_in rfl rfl (.refl (Event.enc.blwf 0 _))), trivial⟩ ⟨(fr_outS rfl rfl (.cons (rn_b ((encI .u64).blws 0)) (.cons (fo_ref rfl rfl rfl rfl) (.nil (Nat.zero_le _)))) rfl rfl), (fr_outS rfl rfl (.refl (Event.enc.blwf 0 _)) rfl rfl), trivial⟩ ⟨.inl rfl, .inl rfl, trivial⟩ rfl (.cons (fi_ptr rfl rfl rfl rfl) (.nil (Nat.zero_le _))) (rn_b (Event.enc.blws 0)) ?_
      refine E_gh rfl ?_
      refine E_opw (v' := (End.av (End.mk 1 3))) rfl (.aggL ⟨(.refl _), (.refl _), trivial⟩) rfl ?_
      refine E_gh rfl ?_
      obtain ⟨pri_7, hpri_7, h⟩ := bd_some h
      refine E_callW (trace_Print_ev  hpri_7) rfl ⟨(.refl _), (.refl _), trivial⟩ (blwL_of ⟨(Event.enc.blws 0), (End.enc.blw _ 0), trivial⟩) rfl ?_
      refine E_gh rfl ?_
      refine E_op0 (v' := (.bool (ByteArray.toList pri_7 == ByteArray.toList (ByteArray.mk #[105, 110, 61, 53, 32, 111, 117, 116, 61, 55, 32, 101, 120, 105, 116, 61, 51])))) rfl rfl ?_
      refine E_pt rfl rfl ?_
      refine E_mv (v' := (.bool (ByteArray.toList pri_7 == ByteArray.toList (ByteArray.mk #[105, 110, 61, 53, 32, 111, 117, 116, 61, 55, 32, 101, 120, 105, 116, 61, 51])))) rfl ?_
      refine E_nil ?_
      exact E_jx _ h (wk_rn [] rfl (Nat.le_of_ble_eq_true rfl) trivial ⟨(rn_b rfl), trivial⟩)
    · rw [ite_f hb] at h
      refine E_gm rfl ?_
      refine E_gm rfl ?_
      refine E_gm rfl ?_
      refine E_gm rfl ?_
      refine E_pf rfl rfl ?_
      refine E_mv (v' := (.bool false)) rfl ?_
      refine E_nil ?_
      exact E_jx _ h (wk_rn [] rfl (Nat.le_of_ble_eq_true rfl) trivial ⟨(rn_b rfl), trivial⟩)
  · refine E_ret ?_
    cases h
    exact ⟨trivial, _, rfl, (fz_b rfl (.refl _))⟩
/- windlass/windlassref02.Number -/
def fc46 : FC := (.seq (.reg [⟨(some 2), none, .op (.mv (.v (.str (ByteArray.mk #[]))))⟩] [])
  (.seq (.reg [⟨(some 3), none, .op (.mv (.v (.str (ByteArray.mk #[]))))⟩] [])
  (.block 0 (.loop (.block 1 (.seq (.reg [⟨(some 4), none, .op (.mv (.t 0))⟩,
  ⟨(some 5), none, .op (.bin .none .rem (.t 4) (.v (.int .u64 10)))⟩,
  ⟨(some 6), none, .op (.bin .none .add (.v (.int .u64 48)) (.t 5))⟩,
  ⟨(some 7), none, .op (.cint .u8 (.t 6))⟩,
  ⟨(some 8), none, .op (.bsl none [(.int .u8 0)] 1 [(0, 1, (.t 7))])⟩,
  ⟨(some 9), none, .op (.b2s (.t 8))⟩,
  ⟨(some 10), none, .op (.mv (.t 3))⟩,
  ⟨(some 11), none, .op (.bin .none .add (.t 9) (.t 10))⟩,
  ⟨(some 3), none, .op (.mv (.t 11))⟩] [])
  (.seq (.reg [⟨(some 12), none, .op (.mv (.t 0))⟩,
  ⟨(some 13), none, .op (.bin .none .quo (.t 12) (.v (.int .u64 10)))⟩,
  ⟨(some 0), none, .op (.mv (.t 13))⟩] [])
  (.seq (.reg [⟨(some 14), none, .op (.mv (.t 0))⟩,
  ⟨(some 15), none, .op (.bin .none .eql (.t 14) (.v (.int .u64 0)))⟩] [])
  (.cond (.t 15)
  (.seq (.reg [⟨(some 16), none, .op (.mv (.t 3))⟩,
  ⟨(some 2), none, .op (.mv (.t 16))⟩] [])
  .ret)
  .skip)))))))))
theorem fn46 : Fn3 Tryd.prog 46 17 [(2, none)] fc46 := ⟨_, _, Tryd.func46, rfl, rfl, rfl, by kernel_rfl⟩
def windlassref02_Number_s (fuel : Nat) (n_00 : Int) : Option ByteArray :=
  ((whileN (fun (s_1 : (Int × ByteArray)) => (((toStr ([(U8 (U64 (48 + (Int.tmod s_1.1 10))))])).bind fun s_2 => ((catS s_2 s_1.2).bind fun s_3 => (if ((U64 (Int.tdiv s_1.1 10)) == 0) then (some (.ret (some s_3))) else (some (.nxt ((U64 (Int.tdiv s_1.1 10)), s_3)))))) : Option (Stp (Int × ByteArray) (Option ByteArray)))) fuel (n_00, (ByteArray.mk #[]))).bind (oc (fun (s_1 : (Int × ByteArray)) => none)))
theorem windlassref02_Number_ev {fuel : Nat} {n_00 : Int} {r : ByteArray} (h : windlassref02_Number_s fuel n_00 = some r) : PureEv Tryd.prog 46 [(.int .u64 n_00)] (.str r) := by
  unfold windlassref02_Number_s at h
  refine PureEv_end mixed fn46 (by simp) [] 6 ?_
  unfold fc46
  refine E_sq ?_
  refine E_reg ?_
  refine E_mv (v' := (.str (ByteArray.mk #[]))) rfl ?_
  refine E_nil ?_
  refine E_nx ?_
  refine E_sq ?_
  refine E_reg ?_
  refine E_mv (v' := (.str (ByteArray.mk #[]))) rfl ?_
  refine E_nil ?_
  refine E_nx ?_
  refine E_whileO (fun s_1 => [(0, (.int .u64 s_1.1)), (3, (.str s_1.2))]) (fun s_1 => []) h (wk_aw ⟨(.refl _), (.refl _), trivial⟩) (fun s_1 c h => ?_) (fun s_1 fr' S' h hw => ?_)
  · refine E_block ?_
    refine E_sq ?_
    refine E_reg ?_
    refine E_mv (v' := (.int .u64 s_1.1)) rfl ?_
    refine E_op0 (v' := (.int .u64 (Int.tmod s_1.1 10))) rfl rfl ?_
    refine E_op0 (v' := (.int .u64 (U64 (48 + (Int.tmod s_1.1 10))))) rfl rfl ?_
    refine E_op0 (v' := (.int .u8 (U8 (U64 (48 + (Int.tmod s_1.1 10)))))) rfl rfl ?_
    refine E_opw (v' := (.sl true 1 (List.map (avI .u8) [(U8 (U64 (48 + (Int.tmod s_1.1 10))))]))) rfl (.refl _) rfl ?_
    obtain ⟨s_2, hs_2, h⟩ := bd_some h
    refine E_b2s rfl hs_2 ?_
    refine E_mv (v' := (.str s_1.2)) rfl ?_
    obtain ⟨s_3, hs_3, h⟩ := bd_some h
    refine E_cat rfl rfl hs_3 ?_
    refine E_mv (v' := (.str s_3)) rfl ?_
    refine E_nil ?_
    refine E_nx ?_
    refine E_sq ?_
    refine E_reg ?_
    refine E_mv (v' := (.int .u64 s_1.1)) rfl ?_
    refine E_op0 (v' := (.int .u64 (U64 (Int.tdiv s_1.1 10)))) rfl rfl ?_
    refine E_mv (v' := (.int .u64 (U64 (Int.tdiv s_1.1 10)))) rfl ?_
    refine E_nil ?_
    refine E_nx ?_
    refine E_sq ?_
    refine E_reg ?_
    refine E_mv (v' := (.int .u64 (U64 (Int.tdiv s_1.1 10)))) rfl ?_
    refine E_op0 (v' := (.bool ((U64 (Int.tdiv s_1.1 10)) == 0))) rfl rfl ?_
    refine E_nil ?_
    refine E_nx ?_
    refine E_cs (t := ((U64 (Int.tdiv s_1.1 10)) == 0)) rfl (fun hb => ?_) (fun hb => ?_)
    · rw [ite_t hb] at h
      refine E_sq ?_
      refine E_reg ?_
      refine E_mv (v' := (.str s_3)) rfl ?_
      refine E_mv (v' := (.str s_3)) rfl ?_
      refine E_nil ?_
      refine E_nx ?_
      refine E_ret ?_
      refine E_blr ?_
      cases h
      refine L_rrO rfl (fun h => ?_)
      cases h
      exact ⟨trivial, _, rfl, (fz_b rfl (.refl _))⟩
    · rw [ite_f hb] at h
      refine E_skip ?_
      refine E_bln ?_
      cases h
      exact L_nn rfl (wk_aw ⟨(.refl _), (.refl _), trivial⟩)
  · cases h
/- windlass/windlassref02.Text -/
def fc15 : FC := (.seq (.reg [⟨(some 3), none, .op (.box (.t 1))⟩,
  ⟨(some 4), none, .op (.mv (.v (.str (ByteArray.mk #[]))))⟩] [])
  (.seq (.reg [⟨(some 5), none, .op (.mv (.v (.str (ByteArray.mk #[]))))⟩] [])
  (.seq (.seq (.reg [⟨(some 8), none, .op (.mv (.t 0))⟩,
  ⟨(some 9), none, .op (.len .sl (.t 8))⟩,
  ⟨(some 10), none, .op (.mv (.v (.int .i64 0)))⟩] [])
  (.block 0 (.loop (.seq (.reg [⟨(some 11), none, .op (.bin .none .lss (.t 10) (.t 9))⟩] [])
  (.seq (.cond (.t 11)
  .skip
  (.exit 0))
  (.seq (.block 1 (.seq (.reg [⟨(some 12), none, .op (.iad none (some 2) (.t 8) (.t 10))⟩,
  ⟨(some 13), none, .op (.load (some 2) (.t 12))⟩,
  ⟨(some 7), none, .op (.new [(.int .i64 0), (.int .u64 0)])⟩,
  ⟨none, none, .op (.store 2 (.t 7) (.t 13))⟩] [])
  (.seq (.reg [⟨(some 14), none, .op (.fad 0 (.t 7))⟩,
  ⟨(some 15), none, .op (.load none (.t 14))⟩] [])
  (.block 2 (.seq (.reg [⟨(some 19), none, .op (.bin .none .eql (.t 15) (.v (.int .i64 1)))⟩,
  ⟨(some 18), none, .op (.mv (.t 19))⟩] [])
  (.cond (.t 18)
  (.reg [⟨(some 20), none, .op (.mv (.t 5))⟩,
  ⟨(some 21), none, .op (.fad 1 (.t 7))⟩,
  ⟨(some 22), none, .op (.load none (.t 21))⟩,
  ⟨(some 23), none, .call 46 [(.t 22)]⟩,
  ⟨(some 24), none, .op (.bin .none .add (.v (.str (ByteArray.mk #[111, 117, 116, 61]))) (.t 23))⟩,
  ⟨(some 25), none, .op (.bin .none .add (.t 24) (.v (.str (ByteArray.mk #[32]))))⟩,
  ⟨(some 26), none, .op (.bin .none .add (.t 20) (.t 25))⟩,
  ⟨(some 5), none, .op (.mv (.t 26))⟩] [])
  (.seq (.reg [⟨(some 28), none, .op (.bin .none .eql (.t 15) (.v (.int .i64 2)))⟩,
  ⟨(some 27), none, .op (.mv (.t 28))⟩] [])
  (.cond (.t 27)
  (.reg [⟨(some 29), none, .op (.mv (.t 5))⟩,
  ⟨(some 30), none, .op (.fad 1 (.t 7))⟩,
  ⟨(some 31), none, .op (.load none (.t 30))⟩,
  ⟨(some 32), none, .call 46 [(.t 31)]⟩,
  ⟨(some 33), none, .op (.bin .none .add (.v (.str (ByteArray.mk #[105, 110, 61]))) (.t 32))⟩,
  ⟨(some 34), none, .op (.bin .none .add (.t 33) (.v (.str (ByteArray.mk #[32]))))⟩,
  ⟨(some 35), none, .op (.bin .none .add (.t 29) (.t 34))⟩,
  ⟨(some 5), none, .op (.mv (.t 35))⟩] [])
  (.reg [⟨(some 16), none, .op (.mv (.t 5))⟩,
  ⟨(some 17), none, .op (.bin .none .add (.t 16) (.v (.str (ByteArray.mk #[63, 32]))))⟩,
  ⟨(some 5), none, .op (.mv (.t 17))⟩] [])))))))))
  (.reg [⟨(some 36), none, .op (.bin .none .add (.t 10) (.v (.int .i64 1)))⟩,
  ⟨(some 10), none, .op (.mv (.t 36))⟩] [])))))))
  (.seq (.seq (.reg [⟨(some 37), none, .op (.fad 0 (.t 3))⟩,
  ⟨(some 38), none, .op (.load none (.t 37))⟩] [])
  (.block 3 (.seq (.reg [⟨(some 40), none, .op (.bin .none .eql (.t 38) (.v (.int .i64 1)))⟩,
  ⟨(some 39), none, .op (.mv (.t 40))⟩] [])
  (.cond (.t 39)
  (.seq (.reg [⟨(some 41), none, .op (.mv (.t 5))⟩,
  ⟨(some 42), none, .op (.bin .none .add (.t 41) (.v (.str (ByteArray.mk #[101, 120, 105, 116, 61]))))⟩,
  ⟨(some 43), none, .op (.fad 1 (.t 3))⟩,
  ⟨(some 44), none, .op (.load none (.t 43))⟩,
  ⟨(some 45), none, .call 46 [(.t 44)]⟩,
  ⟨(some 46), none, .op (.bin .none .add (.t 42) (.t 45))⟩,
  ⟨(some 4), none, .op (.mv (.t 46))⟩] [])
  .ret)
  (.seq (.reg [⟨(some 48), none, .op (.bin .none .eql (.t 38) (.v (.int .i64 2)))⟩,
  ⟨(some 47), none, .op (.mv (.t 48))⟩] [])
  (.cond (.t 47)
  (.seq (.reg [⟨(some 49), none, .op (.mv (.t 5))⟩,
  ⟨(some 50), none, .op (.bin .none .add (.t 49) (.v (.str (ByteArray.mk #[112, 97, 110, 105, 99, 61]))))⟩,
  ⟨(some 51), none, .op (.fad 1 (.t 3))⟩,
  ⟨(some 52), none, .op (.load none (.t 51))⟩,
  ⟨(some 53), none, .call 46 [(.t 52)]⟩,
  ⟨(some 54), none, .op (.bin .none .add (.t 50) (.t 53))⟩,
  ⟨(some 4), none, .op (.mv (.t 54))⟩] [])
  .ret)
  (.seq (.reg [⟨(some 56), none, .op (.bin .none .eql (.t 38) (.v (.int .i64 3)))⟩,
  ⟨(some 55), none, .op (.mv (.t 56))⟩] [])
  (.cond (.t 55)
  (.seq (.reg [⟨(some 57), none, .op (.mv (.t 5))⟩,
  ⟨(some 58), none, .op (.bin .none .add (.t 57) (.v (.str (ByteArray.mk #[102, 117, 101, 108]))))⟩,
  ⟨(some 4), none, .op (.mv (.t 58))⟩] [])
  .ret)
  (.seq (.reg [⟨(some 60), none, .op (.bin .none .eql (.t 38) (.v (.int .i64 4)))⟩,
  ⟨(some 59), none, .op (.mv (.t 60))⟩] [])
  (.cond (.t 59)
  (.seq (.reg [⟨(some 61), none, .op (.mv (.t 5))⟩,
  ⟨(some 62), none, .op (.bin .none .add (.t 61) (.v (.str (ByteArray.mk #[115, 116, 97, 99, 107]))))⟩,
  ⟨(some 4), none, .op (.mv (.t 62))⟩] [])
  .ret)
  (.seq (.reg [⟨(some 64), none, .op (.bin .none .eql (.t 38) (.v (.int .i64 5)))⟩,
  ⟨(some 63), none, .op (.mv (.t 64))⟩] [])
  (.cond (.t 63)
  (.seq (.reg [⟨(some 65), none, .op (.mv (.t 5))⟩,
  ⟨(some 66), none, .op (.bin .none .add (.t 65) (.v (.str (ByteArray.mk #[115, 116, 117, 99, 107]))))⟩,
  ⟨(some 4), none, .op (.mv (.t 66))⟩] [])
  .ret)
  .skip))))))))))))
  (.seq (.reg [⟨(some 67), none, .op (.mv (.t 5))⟩,
  ⟨(some 68), none, .op (.bin .none .add (.t 67) (.v (.str (ByteArray.mk #[63]))))⟩,
  ⟨(some 4), none, .op (.mv (.t 68))⟩] [])
  .ret)))))
theorem fn15 : Fn3 Tryd.prog 15 69 [(4, none)] fc15 := ⟨_, _, Tryd.func15, rfl, rfl, rfl, by kernel_rfl⟩
def windlassref02_Text_s (fuel : Nat) (l_00 : (List Event)) (e_01 : End) : Option ByteArray :=
  ((rng (fun (i_2 : Nat) (x_3 : Event) (s_1 : (End × ByteArray)) => ((if (x_3.Kind == 1) then ((windlassref02_Number_s fuel x_3.Value).bind fun num_5 => ((catS (ByteArray.mk #[111, 117, 116, 61]) num_5).bind fun s_6 => ((catS s_6 (ByteArray.mk #[32])).bind fun s_7 => ((catS s_1.2 s_7).bind fun s_8 => (some (.nxt (s_1.1, s_8))))))) else (if (x_3.Kind == 2) then ((windlassref02_Number_s fuel x_3.Value).bind fun num_9 => ((catS (ByteArray.mk #[105, 110, 61]) num_9).bind fun s_10 => ((catS s_10 (ByteArray.mk #[32])).bind fun s_11 => ((catS s_1.2 s_11).bind fun s_12 => (some (.nxt (s_1.1, s_12))))))) else ((catS s_1.2 (ByteArray.mk #[63, 32])).bind fun s_13 => (some (.nxt (s_1.1, s_13)))))) : Option (Stp (End × ByteArray) (Option ByteArray)))) l_00 (e_01, (ByteArray.mk #[]))).bind (oc (fun (s_1 : (End × ByteArray)) => (if (s_1.1.Kind == 1) then ((catS s_1.2 (ByteArray.mk #[101, 120, 105, 116, 61])).bind fun s_14 => ((windlassref02_Number_s fuel s_1.1.Value).bind fun num_15 => ((catS s_14 num_15).bind fun s_16 => (some s_16)))) else (if (s_1.1.Kind == 2) then ((catS s_1.2 (ByteArray.mk #[112, 97, 110, 105, 99, 61])).bind fun s_17 => ((windlassref02_Number_s fuel s_1.1.Value).bind fun num_18 => ((catS s_17 num_18).bind fun s_19 => (some s_19)))) else (if (s_1.1.Kind == 3) then ((catS s_1.2 (ByteArray.mk #[102, 117, 101, 108])).bind fun s_20 => (some s_20)) else (if (s_1.1.Kind == 4) then ((catS s_1.2 (ByteArray.mk #[115, 116, 97, 99, 107])).bind fun s_21 => (some s_21)) else (if (s_1.1.Kind == 5) then ((catS s_1.2 (ByteArray.mk #[115, 116, 117, 99, 107])).bind fun s_22 => (some s_22)) else ((catS s_1.2 (ByteArray.mk #[63])).bind fun s_23 => (some s_23))))))))))
theorem windlassref02_Text_ev {fuel : Nat} {l_00 : (List Event)} {e_01 : End} {r : ByteArray} (h : windlassref02_Text_s fuel l_00 e_01 = some r) : PureEv Tryd.prog 15 [(.sl false 2 (List.map Event.av l_00)), (End.av e_01)] (.str r) := by
  unfold windlassref02_Text_s at h
  refine PureEv_end mixed fn15 (by simp) [7] 6 ?_
  unfold fc15
  refine E_sq ?_
  refine E_reg ?_
  refine E_op0 (v' := (.cptr (End.av e_01).cells 0)) rfl rfl ?_
  refine E_mv (v' := (.str (ByteArray.mk #[]))) rfl ?_
  refine E_nil ?_
  refine E_nx ?_
  refine E_sq ?_
  refine E_reg ?_
  refine E_mv (v' := (.str (ByteArray.mk #[]))) rfl ?_
  refine E_nil ?_
  refine E_nx ?_
  refine E_as ?_
  refine E_sq ?_
  refine E_reg ?_
  refine E_mv (v' := (.sl false 2 (List.map Event.av l_00))) rfl ?_
  refine E_len rfl ?_
  refine E_mv (v' := (.int .i64 0)) rfl ?_
  refine E_nil ?_
  refine E_nx ?_
  refine E_sq ?_
  refine E_rngO (fun s_1 => [(3, (.cptr (End.av s_1.1).cells 0)), (5, (.str s_1.2)), (8, (.sl false 2 (List.map Event.av l_00)))]) (fun s_1 => []) h (by decide) (by decide) (fun _ => ⟨rfl, rfl, rfl, rfl⟩) (wk_aw ⟨(.refl _), (.refl _), (.refl _), (.refl _), (.refl _), trivial⟩) (fun i_2 x_3 s_1 c hx_4 hlt h => ?_) (fun s_1 fr' S' h hw => ?_)
  · refine E_sq ?_
    refine E_reg ?_
    refine E_iadF rfl rfl (getI_of hx_4) ?_
    refine E_op0 (v' := (Event.av x_3)) rfl rfl ?_
    refine E_op (v' := .ptr 0 0 0) (S' := [.arr 0 [(.int .i64 0), (.int .u64 0)]]) rfl rfl rfl ?_
    refine E_do (S' := [.arr 0 [(.int .i64 x_3.Kind), (.int .u64 x_3.Value)]]) rfl rfl ?_
    refine E_nil ?_
    refine E_nx ?_
    refine E_sq ?_
    refine E_reg ?_
    refine E_op0 (v' := (.ptr 0 0 0)) rfl rfl ?_
    refine E_op (v' := (.int .i64 x_3.Kind)) (S' := [.arr 0 [(.int .i64 x_3.Kind), (.int .u64 x_3.Value)]]) rfl rfl rfl ?_
    refine E_nil ?_
    refine E_nx ?_
    refine E_block ?_
    refine E_sq ?_
    refine E_reg ?_
    refine E_op0 (v' := (.bool (x_3.Kind == 1))) rfl rfl ?_
    refine E_mv (v' := (.bool (x_3.Kind == 1))) rfl ?_
    refine E_nil ?_
    refine E_nx ?_
    refine E_cs (t := (x_3.Kind == 1)) rfl (fun hb => ?_) (fun hb => ?_)
    · rw [ite_t hb] at h
      refine E_reg ?_
      refine E_mv (v' := (.str s_1.2)) rfl ?_
      refine E_op0 (v' := (.ptr 0 0 1)) rfl rfl ?_
      refine E_op (v' := (.int .u64 x_3.Value)) (S' := [.arr 0 [(.int .i64 x_3.Kind), (.int .u64 x_3.Value)]]) rfl rfl rfl ?_
      obtain ⟨num_5, hnum_5, h⟩ := bd_some h
      refine E_callW (windlassref02_Number_ev (fuel := fuel)  hnum_5) rfl ⟨(.refl _), trivial⟩ (blwL_of ⟨rfl, trivial⟩) rfl ?_
      obtain ⟨s_6, hs_6, h⟩ := bd_some h
      refine E_cat rfl rfl hs_6 ?_
      obtain ⟨s_7, hs_7, h⟩ := bd_some h
      refine E_cat rfl rfl hs_7 ?_
      obtain ⟨s_8, hs_8, h⟩ := bd_some h
      refine E_cat rfl rfl hs_8 ?_
      refine E_mv (v' := (.str s_8)) rfl ?_
      refine E_nil ?_
      refine E_bln ?_
      cases h
      exact L_nn rfl (wk_rn [] rfl (Nat.le_of_ble_eq_true rfl) trivial ⟨(rn_b rfl), (rn_b rfl), (rn_b (cp_blw (End.enc.blw _ 0))), (rn_b rfl), (rn_b (Event.enc.blws 0)), trivial⟩)
    · rw [ite_f hb] at h
      refine E_sq ?_
      refine E_reg ?_
      refine E_op0 (v' := (.bool (x_3.Kind == 2))) rfl rfl ?_
      refine E_mv (v' := (.bool (x_3.Kind == 2))) rfl ?_
      refine E_nil ?_
      refine E_nx ?_
      refine E_cs (t := (x_3.Kind == 2)) rfl (fun hb => ?_) (fun hb => ?_)
      · rw [ite_t hb] at h
        refine E_reg ?_
        refine E_mv (v' := (.str s_1.2)) rfl ?_
        refine E_op0 (v' := (.ptr 0 0 1)) rfl rfl ?_
        refine E_op (v' := (.int .u64 x_3.Value)) (S' := [.arr 0 [(.int .i64 x_3.Kind), (.int .u64 x_3.Value)]]) rfl rfl rfl ?_
        obtain ⟨num_9, hnum_9, h⟩ := bd_some h
        refine E_callW (windlassref02_Number_ev (fuel := fuel)  hnum_9) rfl ⟨(.refl _), trivial⟩ (blwL_of ⟨rfl, trivial⟩) rfl ?_
        obtain ⟨s_10, hs_10, h⟩ := bd_some h
        refine E_cat rfl rfl hs_10 ?_
        obtain ⟨s_11, hs_11, h⟩ := bd_some h
        refine E_cat rfl rfl hs_11 ?_
        obtain ⟨s_12, hs_12, h⟩ := bd_some h
        refine E_cat rfl rfl hs_12 ?_
        refine E_mv (v' := (.str s_12)) rfl ?_
        refine E_nil ?_
        refine E_bln ?_
        cases h
        exact L_nn rfl (wk_rn [] rfl (Nat.le_of_ble_eq_true rfl) trivial ⟨(rn_b rfl), (rn_b rfl), (rn_b (cp_blw (End.enc.blw _ 0))), (rn_b rfl), (rn_b (Event.enc.blws 0)), trivial⟩)
      · rw [ite_f hb] at h
        refine E_reg ?_
        refine E_mv (v' := (.str s_1.2)) rfl ?_
        obtain ⟨s_13, hs_13, h⟩ := bd_some h
        refine E_cat rfl rfl hs_13 ?_
        refine E_mv (v' := (.str s_13)) rfl ?_
        refine E_nil ?_
        refine E_bln ?_
        cases h
        exact L_nn rfl (wk_rn [] rfl (Nat.le_of_ble_eq_true rfl) trivial ⟨(rn_b rfl), (rn_b rfl), (rn_b (cp_blw (End.enc.blw _ 0))), (rn_b rfl), (rn_b (Event.enc.blws 0)), trivial⟩)
  · refine X_nx hw ?_
    refine E_as ?_
    refine E_sq ?_
    refine E_reg ?_
    refine E_op0 (v' := (.cptr (End.av s_1.1).cells 0)) rfl rfl ?_
    refine E_op0 (v' := (.int .i64 s_1.1.Kind)) rfl rfl ?_
    refine E_nil ?_
    refine E_nx ?_
    refine E_sq ?_
    refine E_block ?_
    refine E_sq ?_
    refine E_reg ?_
    refine E_op0 (v' := (.bool (s_1.1.Kind == 1))) rfl rfl ?_
    refine E_mv (v' := (.bool (s_1.1.Kind == 1))) rfl ?_
    refine E_nil ?_
    refine E_nx ?_
    refine E_cs (t := (s_1.1.Kind == 1)) rfl (fun hb => ?_) (fun hb => ?_)
    · rw [ite_t hb] at h
      refine E_sq ?_
      refine E_reg ?_
      refine E_mv (v' := (.str s_1.2)) rfl ?_
      obtain ⟨s_14, hs_14, h⟩ := bd_some h
      refine E_cat rfl rfl hs_14 ?_
      refine E_op0 (v' := (.cptr (End.av s_1.1).cells 1)) rfl rfl ?_
      refine E_op0 (v' := (.int .u64 s_1.1.Value)) rfl rfl ?_
      obtain ⟨num_15, hnum_15, h⟩ := bd_some h
      refine E_callW (windlassref02_Number_ev (fuel := fuel)  hnum_15) rfl ⟨(.refl _), trivial⟩ (blwL_of ⟨rfl, trivial⟩) rfl ?_
      obtain ⟨s_16, hs_16, h⟩ := bd_some h
      refine E_cat rfl rfl hs_16 ?_
      refine E_mv (v' := (.str s_16)) rfl ?_
      refine E_nil ?_
      refine E_nx ?_
      refine E_ret ?_
      refine E_blr ?_
      refine E_thr ?_
      cases h
      exact ⟨trivial, _, rfl, (fz_b rfl (.refl _))⟩
    · rw [ite_f hb] at h
      refine E_sq ?_
      refine E_reg ?_
      refine E_op0 (v' := (.bool (s_1.1.Kind == 2))) rfl rfl ?_
      refine E_mv (v' := (.bool (s_1.1.Kind == 2))) rfl ?_
      refine E_nil ?_
      refine E_nx ?_
      refine E_cs (t := (s_1.1.Kind == 2)) rfl (fun hb => ?_) (fun hb => ?_)
      · rw [ite_t hb] at h
        refine E_sq ?_
        refine E_reg ?_
        refine E_mv (v' := (.str s_1.2)) rfl ?_
        obtain ⟨s_17, hs_17, h⟩ := bd_some h
        refine E_cat rfl rfl hs_17 ?_
        refine E_op0 (v' := (.cptr (End.av s_1.1).cells 1)) rfl rfl ?_
        refine E_op0 (v' := (.int .u64 s_1.1.Value)) rfl rfl ?_
        obtain ⟨num_18, hnum_18, h⟩ := bd_some h
        refine E_callW (windlassref02_Number_ev (fuel := fuel)  hnum_18) rfl ⟨(.refl _), trivial⟩ (blwL_of ⟨rfl, trivial⟩) rfl ?_
        obtain ⟨s_19, hs_19, h⟩ := bd_some h
        refine E_cat rfl rfl hs_19 ?_
        refine E_mv (v' := (.str s_19)) rfl ?_
        refine E_nil ?_
        refine E_nx ?_
        refine E_ret ?_
        refine E_blr ?_
        refine E_thr ?_
        cases h
        exact ⟨trivial, _, rfl, (fz_b rfl (.refl _))⟩
      · rw [ite_f hb] at h
        refine E_sq ?_
        refine E_reg ?_
        refine E_op0 (v' := (.bool (s_1.1.Kind == 3))) rfl rfl ?_
        refine E_mv (v' := (.bool (s_1.1.Kind == 3))) rfl ?_
        refine E_nil ?_
        refine E_nx ?_
        refine E_cs (t := (s_1.1.Kind == 3)) rfl (fun hb => ?_) (fun hb => ?_)
        · rw [ite_t hb] at h
          refine E_sq ?_
          refine E_reg ?_
          refine E_mv (v' := (.str s_1.2)) rfl ?_
          obtain ⟨s_20, hs_20, h⟩ := bd_some h
          refine E_cat rfl rfl hs_20 ?_
          refine E_mv (v' := (.str s_20)) rfl ?_
          refine E_nil ?_
          refine E_nx ?_
          refine E_ret ?_
          refine E_blr ?_
          refine E_thr ?_
          cases h
          exact ⟨trivial, _, rfl, (fz_b rfl (.refl _))⟩
        · rw [ite_f hb] at h
          refine E_sq ?_
          refine E_reg ?_
          refine E_op0 (v' := (.bool (s_1.1.Kind == 4))) rfl rfl ?_
          refine E_mv (v' := (.bool (s_1.1.Kind == 4))) rfl ?_
          refine E_nil ?_
          refine E_nx ?_
          refine E_cs (t := (s_1.1.Kind == 4)) rfl (fun hb => ?_) (fun hb => ?_)
          · rw [ite_t hb] at h
            refine E_sq ?_
            refine E_reg ?_
            refine E_mv (v' := (.str s_1.2)) rfl ?_
            obtain ⟨s_21, hs_21, h⟩ := bd_some h
            refine E_cat rfl rfl hs_21 ?_
            refine E_mv (v' := (.str s_21)) rfl ?_
            refine E_nil ?_
            refine E_nx ?_
            refine E_ret ?_
            refine E_blr ?_
            refine E_thr ?_
            cases h
            exact ⟨trivial, _, rfl, (fz_b rfl (.refl _))⟩
          · rw [ite_f hb] at h
            refine E_sq ?_
            refine E_reg ?_
            refine E_op0 (v' := (.bool (s_1.1.Kind == 5))) rfl rfl ?_
            refine E_mv (v' := (.bool (s_1.1.Kind == 5))) rfl ?_
            refine E_nil ?_
            refine E_nx ?_
            refine E_cs (t := (s_1.1.Kind == 5)) rfl (fun hb => ?_) (fun hb => ?_)
            · rw [ite_t hb] at h
              refine E_sq ?_
              refine E_reg ?_
              refine E_mv (v' := (.str s_1.2)) rfl ?_
              obtain ⟨s_22, hs_22, h⟩ := bd_some h
              refine E_cat rfl rfl hs_22 ?_
              refine E_mv (v' := (.str s_22)) rfl ?_
              refine E_nil ?_
              refine E_nx ?_
              refine E_ret ?_
              refine E_blr ?_
              refine E_thr ?_
              cases h
              exact ⟨trivial, _, rfl, (fz_b rfl (.refl _))⟩
            · rw [ite_f hb] at h
              refine E_skip ?_
              refine E_bln ?_
              refine E_nx ?_
              refine E_sq ?_
              refine E_reg ?_
              refine E_mv (v' := (.str s_1.2)) rfl ?_
              obtain ⟨s_23, hs_23, h⟩ := bd_some h
              refine E_cat rfl rfl hs_23 ?_
              refine E_mv (v' := (.str s_23)) rfl ?_
              refine E_nil ?_
              refine E_nx ?_
              refine E_ret ?_
              cases h
              exact ⟨trivial, _, rfl, (fz_b rfl (.refl _))⟩
/- windlass/trace.number -/
def fc48 : FC := (.seq (.reg [⟨(some 4), none, .op (.mv (.v (.int .u64 0)))⟩,
  ⟨(some 5), none, .op (.mv (.v (.bool false)))⟩] [])
  (.seq (.reg [⟨(some 11), none, .op (.mv (.t 0))⟩,
  ⟨(some 12), none, .op (.mv (.t 1))⟩,
  ⟨(some 13), none, .op (.bin .none .add (.t 12) (.v (.str (ByteArray.mk #[61]))))⟩,
  ⟨(some 14), none, .call 92 [(.t 11), (.t 13)]⟩,
  ⟨(some 10), none, .op (.mv (.t 14))⟩,
  ⟨(some 15), none, .op (.ext 0 (.t 10))⟩,
  ⟨(some 16), none, .op (.ext 1 (.t 10))⟩,
  ⟨(some 6), none, .op (.mv (.t 15))⟩,
  ⟨(some 7), none, .op (.mv (.t 16))⟩] [])
  (.seq (.reg [⟨(some 18), none, .op (.mv (.t 6))⟩,
  ⟨(some 19), none, .call 93 [(.t 18), (.v (.int .i64 10)), (.v (.int .i64 64))]⟩,
  ⟨(some 17), none, .op (.mv (.t 19))⟩,
  ⟨(some 20), none, .op (.ext 0 (.t 17))⟩,
  ⟨(some 21), none, .op (.ext 1 (.t 17))⟩,
  ⟨(some 8), none, .op (.mv (.t 20))⟩,
  ⟨(some 9), none, .op (.mv (.t 21))⟩] [])
  (.seq (.reg [⟨(some 22), none, .op (.mv (.t 8))⟩,
  ⟨(some 23), none, .op (.mv (.t 7))⟩,
  ⟨(some 24), none, .op (.mv (.t 23))⟩,
  ⟨(some 25), some (24, true), .op (.mv (.t 9))⟩,
  ⟨(some 26), some (24, true), .op (.bin .ifn .eql (.t 25) (.v .nili))⟩,
  ⟨(some 27), none, .op (.pick (.t 24) (.t 26) (.v (.bool false)))⟩,
  ⟨(some 28), none, .op (.mv (.t 27))⟩,
  ⟨(some 29), some (28, true), .op (.mv (.t 8))⟩,
  ⟨(some 30), some (28, true), .call 42 [(.t 29), (.v (.int .i64 10))]⟩,
  ⟨(some 31), some (28, true), .op (.mv (.t 6))⟩,
  ⟨(some 32), some (28, true), .op (.bin .none .eql (.t 30) (.t 31))⟩,
  ⟨(some 33), none, .op (.pick (.t 28) (.t 32) (.v (.bool false)))⟩,
  ⟨(some 4), none, .op (.mv (.t 22))⟩,
  ⟨(some 5), none, .op (.mv (.t 33))⟩] [])
  .ret))))
theorem fn48 : Fn3 Tryd.prog 48 34 [(4, none), (5, none)] fc48 := ⟨_, _, Tryd.func48, rfl, rfl, rfl, by kernel_rfl⟩
def trace_number_s (w_00 : ByteArray) (name_01 : ByteArray) : Option (Int × Bool) :=
  ((catS name_01 (ByteArray.mk #[61])).bind fun s_1 => ((strings_CutPrefix_s w_00 s_1).bind fun cut_2 => ((strconv_ParseUint_s cut_2.1 10 64).bind fun par_3 => (jp (fun (s_5 : Bool) => (some (par_3.1, s_5))) (fun k_4 => (if cut_2.2 then (if (!par_3.2) then ((strconv_FormatUint_s par_3.1 10).bind fun vfor_6 => (k_4 (ByteArray.toList vfor_6 == ByteArray.toList cut_2.1))) else (k_4 false)) else (k_4 false)))))))
theorem trace_number_ev {w_00 : ByteArray} {name_01 : ByteArray} {r : (Int × Bool)} (h : trace_number_s w_00 name_01 = some r) : PureEv Tryd.prog 48 [(.str w_00), (.str name_01)] (.tup [(.int .u64 r.1), (.bool r.2)]) := by
  unfold trace_number_s at h
  refine PureEv_end mixed fn48 (by simp) [] 6 ?_
  unfold fc48
  refine E_sq ?_
  refine E_reg ?_
  refine E_mv (v' := (.int .u64 0)) rfl ?_
  refine E_mv (v' := (.bool false)) rfl ?_
  refine E_nil ?_
  refine E_nx ?_
  refine E_sq ?_
  refine E_reg ?_
  refine E_mv (v' := (.str w_00)) rfl ?_
  refine E_mv (v' := (.str name_01)) rfl ?_
  obtain ⟨s_1, hs_1, h⟩ := bd_some h
  refine E_cat rfl rfl hs_1 ?_
  obtain ⟨cut_2, hcut_2, h⟩ := bd_some h
  refine E_callW (strings_CutPrefix_ev  hcut_2) rfl ⟨(.refl _), (.refl _), trivial⟩ (blwL_of ⟨rfl, rfl, trivial⟩) (tup_blw ⟨rfl, rfl, trivial⟩) ?_
  refine E_mv (v' := (.tup [(.str cut_2.1), (.bool cut_2.2)])) rfl ?_
  refine E_op0 (v' := (.str cut_2.1)) rfl rfl ?_
  refine E_op0 (v' := (.bool cut_2.2)) rfl rfl ?_
  refine E_mv (v' := (.str cut_2.1)) rfl ?_
  refine E_mv (v' := (.bool cut_2.2)) rfl ?_
  refine E_nil ?_
  refine E_nx ?_
  refine E_sq ?_
  refine E_reg ?_
  refine E_mv (v' := (.str cut_2.1)) rfl ?_
  obtain ⟨par_3, hpar_3, h⟩ := bd_some h
  refine E_callW (strconv_ParseUint_ev  hpar_3) rfl ⟨(.refl _), (.refl _), (.refl _), trivial⟩ (blwL_of ⟨rfl, rfl, rfl, trivial⟩) (tup_blw ⟨rfl, (avE_blw 223 _ 0), trivial⟩) ?_
  refine E_mv (v' := (.tup [(.int .u64 par_3.1), (avE 223 par_3.2)])) rfl ?_
  refine E_op0 (v' := (.int .u64 par_3.1)) rfl rfl ?_
  refine E_op0 (v' := (avE 223 par_3.2)) rfl rfl ?_
  refine E_mv (v' := (.int .u64 par_3.1)) rfl ?_
  refine E_mv (v' := (avE 223 par_3.2)) rfl ?_
  refine E_nil ?_
  refine E_nx ?_
  refine E_jp h (fun s_5 => [(4, (.int .u64 par_3.1)), (5, (.bool s_5))]) (fun s_5 => []) (fun k_4 h => ?_) (fun s_5 h => ?_)
  · refine E_reg ?_
    refine E_mv (v' := (.int .u64 par_3.1)) rfl ?_
    refine E_mv (v' := (.bool cut_2.2)) rfl ?_
    refine E_mv (v' := (.bool cut_2.2)) rfl ?_
    refine E_gsT (b := cut_2.2) rfl rfl rfl (fun hb => ?_) (fun hb => ?_)
    · rw [ite_t hb] at h
      refine E_mv (v' := (avE 223 par_3.2)) rfl ?_
      refine E_gh rfl ?_
      refine E_ine rfl rfl ?_
      refine E_pt rfl rfl ?_
      refine E_mv (v' := (.bool (!par_3.2))) rfl ?_
      refine E_gsT (b := (!par_3.2)) rfl rfl rfl (fun hb => ?_) (fun hb => ?_)
      · rw [ite_t hb] at h
        refine E_mv (v' := (.int .u64 par_3.1)) rfl ?_
        refine E_gh rfl ?_
        obtain ⟨vfor_6, hvfor_6, h⟩ := bd_some h
        refine E_callW (strconv_FormatUint_ev  hvfor_6) rfl ⟨(.refl _), (.refl _), trivial⟩ (blwL_of ⟨rfl, rfl, trivial⟩) rfl ?_
        refine E_gh rfl ?_
        refine E_mv (v' := (.str cut_2.1)) rfl ?_
        refine E_gh rfl ?_
        refine E_op0 (v' := (.bool (ByteArray.toList vfor_6 == ByteArray.toList cut_2.1))) rfl rfl ?_
        refine E_pt rfl rfl ?_
        refine E_mv (v' := (.int .u64 par_3.1)) rfl ?_
        refine E_mv (v' := (.bool (ByteArray.toList vfor_6 == ByteArray.toList cut_2.1))) rfl ?_
        refine E_nil ?_
        exact E_jx _ h (wk_aw ⟨(.refl _), (.refl _), trivial⟩)
      · rw [ite_f hb] at h
        refine E_gm rfl ?_
        refine E_gm rfl ?_
        refine E_gm rfl ?_
        refine E_pf rfl rfl ?_
        refine E_mv (v' := (.int .u64 par_3.1)) rfl ?_
        refine E_mv (v' := (.bool false)) rfl ?_
        refine E_nil ?_
        exact E_jx _ h (wk_aw ⟨(.refl _), (.refl _), trivial⟩)
    · rw [ite_f hb] at h
      refine E_gm rfl ?_
      refine E_pf rfl rfl ?_
      refine E_mv (v' := (.bool false)) rfl ?_
      refine E_gm rfl ?_
      refine E_gm rfl ?_
      refine E_gm rfl ?_
      refine E_gm rfl ?_
      refine E_pf rfl rfl ?_
      refine E_mv (v' := (.int .u64 par_3.1)) rfl ?_
      refine E_mv (v' := (.bool false)) rfl ?_
      refine E_nil ?_
      exact E_jx _ h (wk_aw ⟨(.refl _), (.refl _), trivial⟩)
  · refine E_ret ?_
    cases h
    exact ⟨trivial, _, rfl, (fz_tup ⟨(fz_b rfl (.refl _)), (fz_b rfl (.refl _)), trivial⟩)⟩
/- windlass/trace.Parse -/
def fc16 : FC := (.seq (.reg [⟨(some 2), none, .op (.mv (.v .nils))⟩,
  ⟨(some 3), none, .op (.new [(.int .i64 0), (.int .u64 0)])⟩,
  ⟨(some 4), none, .op (.mv (.v (.int .i64 0)))⟩] [])
  (.seq (.reg [⟨(some 19), none, .op (.mv (.t 0))⟩,
  ⟨(some 20), none, .call 47 [(.t 19), (.v (.str (ByteArray.mk #[32])))]⟩,
  ⟨(some 5), none, .op (.mv (.t 20))⟩] [])
  (.seq (.reg [⟨(some 6), none, .op (.mv (.v .nils))⟩] [])
  (.seq (.seq (.reg [⟨(some 21), none, .op (.mv (.t 5))⟩,
  ⟨(some 22), none, .op (.mv (.t 5))⟩,
  ⟨(some 23), none, .op (.len .sl (.t 22))⟩,
  ⟨(some 24), none, .op (.bin .none .sub (.t 23) (.v (.int .i64 1)))⟩,
  ⟨(some 25), none, .op (.slc none (.t 21) none (some (.t 24)) none)⟩,
  ⟨(some 26), none, .op (.len .sl (.t 25))⟩,
  ⟨(some 27), none, .op (.mv (.v (.int .i64 0)))⟩] [])
  (.block 0 (.loop (.seq (.reg [⟨(some 28), none, .op (.bin .none .lss (.t 27) (.t 26))⟩] [])
  (.seq (.cond (.t 28)
  .skip
  (.exit 0))
  (.seq (.block 1 (.seq (.reg [⟨(some 29), none, .op (.iad none none (.t 25) (.t 27))⟩,
  ⟨(some 30), none, .op (.load none (.t 29))⟩,
  ⟨(some 8), none, .op (.mv (.t 30))⟩] [])
  (.seq (.reg [⟨(some 9), none, .op (.mv (.v (.bool false)))⟩] [])
  (.seq (.seq (.reg [⟨(some 31), none, .op (.bsl none [(.int .i64 0)] 2 [(0, 1, (.v (.int .i64 1))), (1, 1, (.v (.int .i64 2)))])⟩,
  ⟨(some 32), none, .op (.len .sl (.t 31))⟩,
  ⟨(some 33), none, .op (.mv (.v (.int .i64 0)))⟩] [])
  (.block 2 (.loop (.seq (.reg [⟨(some 34), none, .op (.bin .none .lss (.t 33) (.t 32))⟩] [])
  (.seq (.cond (.t 34)
  .skip
  (.exit 2))
  (.seq (.block 3 (.seq (.reg [⟨(some 35), none, .op (.iad none none (.t 31) (.t 33))⟩,
  ⟨(some 36), none, .op (.load none (.t 35))⟩,
  ⟨(some 11), none, .op (.mv (.t 36))⟩] [])
  (.seq (.reg [⟨(some 38), none, .op (.mv (.t 8))⟩,
  ⟨(some 39), none, .op (.mv (.t 11))⟩,
  ⟨(some 40), none, .call 41 [(.t 39)]⟩,
  ⟨(some 41), none, .call 48 [(.t 38), (.t 40)]⟩,
  ⟨(some 37), none, .op (.mv (.t 41))⟩,
  ⟨(some 42), none, .op (.ext 0 (.t 37))⟩,
  ⟨(some 43), none, .op (.ext 1 (.t 37))⟩,
  ⟨(some 12), none, .op (.mv (.t 42))⟩,
  ⟨(some 13), none, .op (.mv (.t 43))⟩] [])
  (.seq (.reg [⟨(some 44), none, .op (.mv (.t 13))⟩] [])
  (.cond (.t 44)
  (.seq (.reg [⟨(some 45), none, .op (.mv (.t 6))⟩,
  ⟨(some 46), none, .op (.mv (.t 11))⟩,
  ⟨(some 47), none, .op (.mv (.t 12))⟩,
  ⟨(some 48), none, .op (.build [(.int .i64 0), (.int .u64 0)] [(0, 1, (.t 46)), (1, 1, (.t 47))])⟩,
  ⟨(some 49), none, .op (.bsl (some 2) [(.int .i64 0), (.int .u64 0)] 1 [(0, 2, (.t 48))])⟩,
  ⟨(some 50), none, .op (.app (some 2) 16 (.t 45) (.t 49))⟩,
  ⟨(some 6), none, .op (.mv (.t 50))⟩] [])
  (.reg [⟨(some 9), none, .op (.mv (.v (.bool true)))⟩] []))
  .skip)))))
  (.reg [⟨(some 51), none, .op (.bin .none .add (.t 33) (.v (.int .i64 1)))⟩,
  ⟨(some 33), none, .op (.mv (.t 51))⟩] [])))))))
  (.seq (.reg [⟨(some 52), none, .op (.mv (.t 9))⟩,
  ⟨(some 53), none, .op (.un .not (.t 52))⟩] [])
  (.cond (.t 53)
  (.seq (.reg [⟨(some 54), none, .op (.build [(.int .i64 0), (.int .u64 0)] [])⟩,
  ⟨(some 2), none, .op (.mv (.v .nils))⟩,
  ⟨none, none, .op (.store 2 (.t 3) (.t 54))⟩,
  ⟨(some 4), none, .op (.mv (.v (.int .i64 30)))⟩] [])
  .ret)
  .skip))))))
  (.reg [⟨(some 55), none, .op (.bin .none .add (.t 27) (.v (.int .i64 1)))⟩,
  ⟨(some 27), none, .op (.mv (.t 55))⟩] [])))))))
  (.seq (.reg [⟨(some 56), none, .op (.mv (.t 5))⟩,
  ⟨(some 57), none, .op (.mv (.t 5))⟩,
  ⟨(some 58), none, .op (.len .sl (.t 57))⟩,
  ⟨(some 59), none, .op (.bin .none .sub (.t 58) (.v (.int .i64 1)))⟩,
  ⟨(some 60), none, .op (.iad none none (.t 56) (.t 59))⟩,
  ⟨(some 61), none, .op (.load none (.t 60))⟩,
  ⟨(some 14), none, .op (.mv (.t 61))⟩] [])
  (.seq (.seq (.reg [⟨(some 15), none, .op (.mv (.v (.int .i64 1)))⟩] [])
  (.block 4 (.loop (.seq (.seq (.reg [⟨(some 62), none, .op (.mv (.t 15))⟩,
  ⟨(some 63), none, .op (.bin .none .leq (.t 62) (.v (.int .i64 5)))⟩] [])
  (.cond (.t 63)
  .skip
  (.exit 4)))
  (.seq (.block 5 (.seq (.reg [⟨(some 66), none, .op (.mv (.t 15))⟩,
  ⟨(some 67), none, .op (.build [(.int .i64 0), (.int .u64 0)] [(0, 1, (.t 66))])⟩,
  ⟨(some 16), none, .op (.new [(.int .i64 0), (.int .u64 0)])⟩,
  ⟨none, none, .op (.store 2 (.t 16) (.t 67))⟩] [])
  (.seq (.reg [⟨(some 68), none, .op (.load (some 2) (.t 16))⟩,
  ⟨(some 69), none, .call 44 [(.t 68)]⟩] [])
  (.cond (.t 69)
  (.seq (.reg [⟨(some 71), none, .op (.mv (.t 14))⟩,
  ⟨(some 72), none, .op (.mv (.t 15))⟩,
  ⟨(some 73), none, .call 43 [(.t 72)]⟩,
  ⟨(some 74), none, .call 48 [(.t 71), (.t 73)]⟩,
  ⟨(some 70), none, .op (.mv (.t 74))⟩,
  ⟨(some 75), none, .op (.ext 0 (.t 70))⟩,
  ⟨(some 76), none, .op (.ext 1 (.t 70))⟩,
  ⟨(some 17), none, .op (.mv (.t 75))⟩,
  ⟨(some 18), none, .op (.mv (.t 76))⟩] [])
  (.seq (.reg [⟨(some 77), none, .op (.mv (.t 18))⟩] [])
  (.cond (.t 77)
  (.seq (.reg [⟨(some 78), none, .op (.mv (.t 17))⟩,
  ⟨(some 79), none, .op (.fad 1 (.t 16))⟩,
  ⟨none, none, .op (.store 1 (.t 79) (.t 78))⟩] [])
  (.seq (.reg [⟨(some 80), none, .op (.mv (.t 6))⟩,
  ⟨(some 81), none, .op (.load (some 2) (.t 16))⟩,
  ⟨(some 2), none, .op (.mv (.t 80))⟩,
  ⟨none, none, .op (.store 2 (.t 3) (.t 81))⟩,
  ⟨(some 4), none, .op (.mv (.v (.int .i64 0)))⟩] [])
  .ret))
  .skip)))
  (.seq (.reg [⟨(some 82), none, .op (.mv (.t 14))⟩,
  ⟨(some 83), none, .op (.mv (.t 15))⟩,
  ⟨(some 84), none, .call 43 [(.t 83)]⟩,
  ⟨(some 85), none, .op (.bin .none .eql (.t 82) (.t 84))⟩] [])
  (.cond (.t 85)
  (.seq (.reg [⟨(some 86), none, .op (.mv (.t 6))⟩,
  ⟨(some 87), none, .op (.load (some 2) (.t 16))⟩,
  ⟨(some 2), none, .op (.mv (.t 86))⟩,
  ⟨none, none, .op (.store 2 (.t 3) (.t 87))⟩,
  ⟨(some 4), none, .op (.mv (.v (.int .i64 0)))⟩] [])
  .ret)
  .skip))))))
  (.reg [⟨(some 64), none, .op (.mv (.t 15))⟩,
  ⟨(some 65), none, .op (.bin .none .add (.t 64) (.v (.int .i64 1)))⟩,
  ⟨(some 15), none, .op (.mv (.t 65))⟩] []))))))
  (.seq (.reg [⟨(some 88), none, .op (.build [(.int .i64 0), (.int .u64 0)] [])⟩,
  ⟨(some 2), none, .op (.mv (.v .nils))⟩,
  ⟨none, none, .op (.store 2 (.t 3) (.t 88))⟩,
  ⟨(some 4), none, .op (.mv (.v (.int .i64 30)))⟩] [])
  .ret)))))))
theorem fn16 : Fn3 Tryd.prog 16 89 [(2, none), (3, (some (some 2))), (4, none)] fc16 := ⟨_, _, Tryd.func16, rfl, rfl, rfl, by kernel_rfl⟩
def trace_Parse_s (fuel : Nat) (text_00 : ByteArray) : Option ((List Event) × End × Int) :=
  ((strings_Split_s text_00 (ByteArray.mk #[32])).bind fun spl_1 => ((subL spl_1 0 (I64 ((List.length spl_1 : Int) - 1))).bind fun l_2 => ((rng (fun (i_4 : Nat) (w_5 : ByteArray) (s_3 : (List Event)) => (((rng (fun (i_8 : Nat) (k_9 : Int) (s_7 : (Bool × (List Event))) => (((trace_event_s k_9).bind fun eve_11 => ((trace_number_s w_5 eve_11).bind fun num_12 => (if num_12.2 then ((appL 16 s_7.2 [(Event.mk k_9 num_12.1)]).bind fun l_13 => (some (.nxt (true, l_13)))) else (some (.nxt (s_7.1, s_7.2)))))) : Option (Stp (Bool × (List Event)) (Option (Stp (List Event) (Option ((List Event) × End × Int))))))) [1, 2] (false, s_3)).bind (oc (fun (s_7 : (Bool × (List Event))) => (if (!s_7.1) then (some (.ret (some ([], (End.mk 0 0), 30)))) else (some (.nxt s_7.2)))))) : Option (Stp (List Event) (Option ((List Event) × End × Int))))) l_2 []).bind (oc (fun (s_3 : (List Event)) => ((getI spl_1 (I64 ((List.length spl_1 : Int) - 1))).bind fun y_14 => ((whileN (fun (s_15 : Int) => ((if (decide (s_15 ≤ 5)) then (jp (fun (s_17 : Unit) => (some (.nxt (I64 (s_15 + 1))))) (fun k_16 => ((trace_Ended_s (End.mk s_15 0)).bind fun vend_18 => (if vend_18 then ((trace_ending_s s_15).bind fun vend_19 => ((trace_number_s y_14 vend_19).bind fun num_20 => (if num_20.2 then (some (.ret (some (s_3, (End.mk s_15 num_20.1), 0)))) else (k_16 ())))) else ((trace_ending_s s_15).bind fun vend_21 => (if (ByteArray.toList y_14 == ByteArray.toList vend_21) then (some (.ret (some (s_3, (End.mk s_15 0), 0)))) else (k_16 ()))))))) else (some (.brk s_15))) : Option (Stp Int (Option ((List Event) × End × Int))))) fuel 1).bind (oc (fun (s_15 : Int) => (some ([], (End.mk 0 0), 30)))))))))))
theorem trace_Parse_ev {fuel : Nat} {text_00 : ByteArray} {r : ((List Event) × End × Int)} (h : trace_Parse_s fuel text_00 = some r) : PureEv Tryd.prog 16 [(.str text_00)] (.tup [(.sl false 2 (List.map Event.av r.1)), (End.av r.2.1), (.int .i64 r.2.2)]) := by
  unfold trace_Parse_s at h
  refine PureEv_end mixed fn16 (by simp) [3, 16, 50] 6 ?_
  unfold fc16
  refine E_sq ?_
  refine E_reg ?_
  refine E_mv (v' := .nils) rfl ?_
  refine E_op (v' := .ptr 0 0 0) (S' := [.arr 0 [(.int .i64 0), (.int .u64 0)]]) rfl rfl rfl ?_
  refine E_mv (v' := (.int .i64 0)) rfl ?_
  refine E_nil ?_
  refine E_nx ?_
  refine E_sq ?_
  refine E_reg ?_
  refine E_mv (v' := (.str text_00)) rfl ?_
  obtain ⟨spl_1, hspl_1, h⟩ := bd_some h
  refine E_callW (strings_Split_ev  hspl_1) rfl ⟨(.refl _), (.refl _), trivial⟩ (blwL_of ⟨rfl, rfl, trivial⟩) (encS.blws 0) ?_
  refine E_mv (v' := (.sl false 1 (List.map avS spl_1))) rfl ?_
  refine E_nil ?_
  refine E_nx ?_
  refine E_sq ?_
  refine E_reg ?_
  refine E_mv (v' := .nils) rfl ?_
  refine E_nil ?_
  refine E_nx ?_
  refine E_as ?_
  refine E_sq ?_
  refine E_reg ?_
  refine E_mv (v' := (.sl false 1 (List.map avS spl_1))) rfl ?_
  refine E_mv (v' := (.sl false 1 (List.map avS spl_1))) rfl ?_
  refine E_len rfl ?_
  refine E_op0 (v' := (.int .i64 (I64 ((List.length spl_1 : Int) - 1)))) rfl rfl ?_
  obtain ⟨l_2, hl_2, h⟩ := bd_some h
  refine E_slcL rfl (fun _ => rfl) (fun h0 => hiN_int h0) hl_2 ?_
  refine E_len rfl ?_
  refine E_mv (v' := (.int .i64 0)) rfl ?_
  refine E_nil ?_
  refine E_nx ?_
  refine E_sq ?_
  refine E_rngO (fun s_3 => [(3, (.ptr 0 0 0)), (5, (.sl false 1 (List.map avS spl_1))), (6, (.ref 1 1 0 (List.length s_3) (some 2))), (25, (.sl false 1 (List.map avS l_2)))]) (fun s_3 => [.arr 0 [(.int .i64 0), (.int .u64 0)], .arr 1 (flat Event.av s_3)]) h (by decide) (by decide) (fun _ => ⟨rfl, rfl, rfl, rfl⟩) (wk_rn [some (0, 0), none] rfl (Nat.le_of_ble_eq_true rfl) ⟨(rn_ob rfl rfl (.cons (rn_b rfl) (.cons (rn_b rfl) (.nil (Nat.zero_le _)))) rfl), (rn_obN rfl rfl rfl), trivial⟩ ⟨(rn_b rfl), (rn_b rfl), (rn_ptr rfl rfl rfl rfl), (rn_b (encS.blws 0)), (rn_nil rfl), (rn_b (encS.blws 0)), trivial⟩) (fun i_4 w_5 s_3 c hx_6 hlt h => ?_) (fun s_3 fr' S' h hw => ?_)
  · refine E_sq ?_
    refine E_reg ?_
    refine E_iadF rfl rfl (getI_of hx_6) ?_
    refine E_op0 (v' := (.str w_5)) rfl rfl ?_
    refine E_mv (v' := (.str w_5)) rfl ?_
    refine E_nil ?_
    refine E_nx ?_
    refine E_sq ?_
    refine E_reg ?_
    refine E_mv (v' := (.bool false)) rfl ?_
    refine E_nil ?_
    refine E_nx ?_
    refine E_as ?_
    refine E_sq ?_
    refine E_reg ?_
    refine E_opw (v' := (.sl true 1 (List.map (avI .i64) [1, 2]))) rfl (.refl _) rfl ?_
    refine E_len rfl ?_
    refine E_mv (v' := (.int .i64 0)) rfl ?_
    refine E_nil ?_
    refine E_nx ?_
    refine E_sq ?_
    refine E_rngO (fun s_7 => [(3, (.ptr 0 0 0)), (5, (.sl false 1 (List.map avS spl_1))), (6, (.ref 1 1 0 (List.length s_7.2) (some 2))), (8, (.str w_5)), (9, (.bool s_7.1)), (25, (.sl false 1 (List.map avS l_2))), (26, (.int .i64 (List.length l_2 : Int))), (27, (.int .i64 (i_4 : Int))), (31, (.sl true 1 (List.map (avI .i64) [1, 2])))]) (fun s_7 => [.arr 0 [(.int .i64 0), (.int .u64 0)], .arr 1 (flat Event.av s_7.2)]) h (by decide) (by decide) (fun _ => ⟨rfl, rfl, rfl, rfl⟩) (wk_rn [some (0, 0), some (1, 0)] rfl (Nat.le_of_ble_eq_true rfl) ⟨(rn_ob rfl rfl (.cons (rn_b rfl) (.cons (rn_b rfl) (.nil (Nat.zero_le _)))) rfl), (rn_ob rfl rfl (.refl (Event.enc.blwf 0 _)) rfl), trivial⟩ ⟨(rn_b rfl), (rn_b rfl), (rn_ptr rfl rfl rfl rfl), (rn_b (encS.blws 0)), (rn_refL Event.enc rfl rfl rfl), (rn_b rfl), (rn_b rfl), (rn_b (encS.blws 0)), (rn_b rfl), (rn_b rfl), (rn_b ((encI .i64).blws 0)), trivial⟩) (fun i_8 k_9 s_7 c hx_10 hlt h => ?_) (fun s_7 fr' S' h hw => ?_)
    · refine E_sq ?_
      refine E_reg ?_
      refine E_iadF rfl rfl (getI_of hx_10) ?_
      refine E_op0 (v' := (.int .i64 k_9)) rfl rfl ?_
      refine E_mv (v' := (.int .i64 k_9)) rfl ?_
      refine E_nil ?_
      refine E_nx ?_
      refine E_sq ?_
      refine E_reg ?_
      refine E_mv (v' := (.str w_5)) rfl ?_
      refine E_mv (v' := (.int .i64 k_9)) rfl ?_
      obtain ⟨eve_11, heve_11, h⟩ := bd_some h
      refine E_callW (trace_event_ev  heve_11) rfl ⟨(.refl _), trivial⟩ (blwL_of ⟨rfl, trivial⟩) rfl ?_
      obtain ⟨num_12, hnum_12, h⟩ := bd_some h
      refine E_callW (trace_number_ev  hnum_12) rfl ⟨(.refl _), (.refl _), trivial⟩ (blwL_of ⟨rfl, rfl, trivial⟩) (tup_blw ⟨rfl, rfl, trivial⟩) ?_
      refine E_mv (v' := (.tup [(.int .u64 num_12.1), (.bool num_12.2)])) rfl ?_
      refine E_op0 (v' := (.int .u64 num_12.1)) rfl rfl ?_
      refine E_op0 (v' := (.bool num_12.2)) rfl rfl ?_
      refine E_mv (v' := (.int .u64 num_12.1)) rfl ?_
      refine E_mv (v' := (.bool num_12.2)) rfl ?_
      refine E_nil ?_
      refine E_nx ?_
      refine E_sq ?_
      refine E_reg ?_
      refine E_mv (v' := (.bool num_12.2)) rfl ?_
      refine E_nil ?_
      refine E_nx ?_
      refine E_cs (t := num_12.2) rfl (fun hb => ?_) (fun hb => ?_)
      · rw [ite_t hb] at h
        refine E_sq ?_
        refine E_reg ?_
        refine E_mv (v' := (.ref 1 1 0 (List.length s_7.2) (some 2))) rfl ?_
        refine E_mv (v' := (.int .i64 k_9)) rfl ?_
        refine E_mv (v' := (.int .u64 num_12.1)) rfl ?_
        refine E_opw (v' := (Event.av (Event.mk k_9 num_12.1))) rfl (.aggL ⟨(.refl _), (.refl _), trivial⟩) rfl ?_
        refine E_opw (v' := (.sl true 2 (List.map Event.av [(Event.mk k_9 num_12.1)]))) rfl (.refl _) rfl ?_
        obtain ⟨l_13, hl_13, h⟩ := bd_some h
        refine E_apL (S' := [.arr 0 [(.int .i64 0), (.int .u64 0)], .arr 2 (flat Event.av l_13)]) Event.enc rfl (src_sl [(Event.mk k_9 num_12.1)]) rfl hl_13 rfl ?_
        refine E_mv (v' := (.ref 1 2 0 (List.length l_13) (some 2))) rfl ?_
        refine E_nil ?_
        refine E_nx ?_
        refine E_reg ?_
        refine E_mv (v' := (.bool true)) rfl ?_
        refine E_nil ?_
        cases h
        exact L_nn rfl (wk_rn [some (0, 0), some (1, 0)] rfl (Nat.le_of_ble_eq_true rfl) ⟨(rn_ob rfl rfl (.cons (rn_b rfl) (.cons (rn_b rfl) (.nil (Nat.zero_le _)))) rfl), (rn_ob rfl rfl (.refl (Event.enc.blwf 0 _)) rfl), trivial⟩ ⟨(rn_b rfl), (rn_b rfl), (rn_ptr rfl rfl rfl rfl), (rn_b (encS.blws 0)), (rn_refL Event.enc rfl rfl rfl), (rn_b rfl), (rn_b rfl), (rn_b (encS.blws 0)), (rn_b rfl), (rn_b rfl), (rn_b ((encI .i64).blws 0)), trivial⟩)
      · rw [ite_f hb] at h
        refine E_skip ?_
        cases h
        exact L_nn rfl (wk_rn [some (0, 0), some (1, 0)] rfl (Nat.le_of_ble_eq_true rfl) ⟨(rn_ob rfl rfl (.cons (rn_b rfl) (.cons (rn_b rfl) (.nil (Nat.zero_le _)))) rfl), (rn_ob rfl rfl (.refl (Event.enc.blwf 0 _)) rfl), trivial⟩ ⟨(rn_b rfl), (rn_b rfl), (rn_ptr rfl rfl rfl rfl), (rn_b (encS.blws 0)), (rn_refL Event.enc rfl rfl rfl), (rn_b rfl), (rn_b rfl), (rn_b (encS.blws 0)), (rn_b rfl), (rn_b rfl), (rn_b ((encI .i64).blws 0)), trivial⟩)
    · refine X_nx hw ?_
      refine E_sq ?_
      refine E_reg ?_
      refine E_mv (v' := (.bool s_7.1)) rfl ?_
      refine E_op0 (v' := (.bool (!s_7.1))) rfl rfl ?_
      refine E_nil ?_
      refine E_nx ?_
      refine E_cs (t := (!s_7.1)) rfl (fun hb => ?_) (fun hb => ?_)
      · rw [ite_t hb] at h
        refine E_sq ?_
        refine E_reg ?_
        refine E_opw (v' := (End.av (End.mk 0 0))) rfl (.aggL ⟨(.refl _), (.refl _), trivial⟩) rfl ?_
        refine E_mv (v' := .nils) rfl ?_
        refine E_do (S' := [.arr 0 [(.int .i64 0), (.int .u64 0)], .arr 1 (flat Event.av s_7.2)]) rfl rfl ?_
        refine E_mv (v' := (.int .i64 30)) rfl ?_
        refine E_nil ?_
        refine E_nx ?_
        refine E_ret ?_
        cases h
        refine L_rrO rfl (fun h => ?_)
        refine E_thr ?_
        cases h
        exact ⟨trivial, _, rfl, (fz_tup ⟨(fz_b rfl .nil), (fz_agg ⟨(fz_b rfl (.refl _)), (fz_b rfl (.refl _)), trivial⟩), (fz_b rfl (.refl _)), trivial⟩)⟩
      · rw [ite_f hb] at h
        refine E_skip ?_
        cases h
        exact L_nn rfl (wk_rn [some (0, 0), some (1, 0)] rfl (Nat.le_of_ble_eq_true rfl) ⟨(rn_ob rfl rfl (.cons (rn_b rfl) (.cons (rn_b rfl) (.nil (Nat.zero_le _)))) rfl), (rn_ob rfl rfl (.refl (Event.enc.blwf 0 _)) rfl), trivial⟩ ⟨(rn_b rfl), (rn_b rfl), (rn_ptr rfl rfl rfl rfl), (rn_b (encS.blws 0)), (rn_refL Event.enc rfl rfl rfl), (rn_b (encS.blws 0)), trivial⟩)
  · refine X_nx hw ?_
    refine E_sq ?_
    refine E_reg ?_
    refine E_mv (v' := (.sl false 1 (List.map avS spl_1))) rfl ?_
    refine E_mv (v' := (.sl false 1 (List.map avS spl_1))) rfl ?_
    refine E_len rfl ?_
    refine E_op0 (v' := (.int .i64 (I64 ((List.length spl_1 : Int) - 1)))) rfl rfl ?_
    obtain ⟨y_14, hy_14, h⟩ := bd_some h
    refine E_iadF rfl rfl hy_14 ?_
    refine E_op0 (v' := (.str y_14)) rfl rfl ?_
    refine E_mv (v' := (.str y_14)) rfl ?_
    refine E_nil ?_
    refine E_nx ?_
    refine E_as ?_
    refine E_sq ?_
    refine E_reg ?_
    refine E_mv (v' := (.int .i64 1)) rfl ?_
    refine E_nil ?_
    refine E_nx ?_
    refine E_sq ?_
    refine E_whileO (fun s_15 => [(3, (.ptr 0 0 0)), (6, (.ref 1 1 0 (List.length s_3) (some 2))), (14, (.str y_14)), (15, (.int .i64 s_15))]) (fun s_15 => [.arr 0 [(.int .i64 0), (.int .u64 0)], .arr 1 (flat Event.av s_3)]) h (wk_rn [some (0, 0), some (1, 0)] rfl (Nat.le_of_ble_eq_true rfl) ⟨(rn_ob rfl rfl (.cons (rn_b rfl) (.cons (rn_b rfl) (.nil (Nat.zero_le _)))) rfl), (rn_ob rfl rfl (.refl (Event.enc.blwf 0 _)) rfl), trivial⟩ ⟨(rn_ptr rfl rfl rfl rfl), (rn_refL Event.enc rfl rfl rfl), (rn_b rfl), (rn_b rfl), trivial⟩) (fun s_15 c h => ?_) (fun s_15 fr' S' h hw => ?_)
    · refine E_as ?_
      refine E_sq ?_
      refine E_reg ?_
      refine E_mv (v' := (.int .i64 s_15)) rfl ?_
      refine E_op0 (v' := (.bool (decide (s_15 ≤ 5)))) rfl rfl ?_
      refine E_nil ?_
      refine E_nx ?_
      refine E_sq ?_
      refine E_cs (t := (decide (s_15 ≤ 5))) rfl (fun hb => ?_) (fun hb => ?_)
      · rw [ite_t hb] at h
        refine E_skip ?_
        refine E_nx ?_
        refine E_jp h (fun s_17 => [(3, (.ptr 0 0 0)), (6, (.ref 1 1 0 (List.length s_3) (some 2))), (14, (.str y_14)), (15, (.int .i64 s_15))]) (fun s_17 => [.arr 0 [(.int .i64 0), (.int .u64 0)], .arr 1 (flat Event.av s_3)]) (fun k_16 h => ?_) (fun s_17 h => ?_)
        · refine E_block ?_
          refine E_sq ?_
          refine E_reg ?_
          refine E_mv (v' := (.int .i64 s_15)) rfl ?_
          refine E_opw (v' := (End.av (End.mk s_15 0))) rfl (.aggL ⟨(.refl _), (.refl _), trivial⟩) rfl ?_
          refine E_op (v' := .ptr 2 0 0) (S' := [.arr 0 [(.int .i64 0), (.int .u64 0)], .arr 1 (flat Event.av s_3), .arr 0 [(.int .i64 0), (.int .u64 0)]]) rfl rfl rfl ?_
          refine E_do (S' := [.arr 0 [(.int .i64 0), (.int .u64 0)], .arr 1 (flat Event.av s_3), .arr 0 [(.int .i64 s_15), (.int .u64 0)]]) rfl rfl ?_
          refine E_nil ?_
          refine E_nx ?_
          refine E_sq ?_
          refine E_reg ?_
          refine E_opw (v' := (End.av (End.mk s_15 0))) rfl (.aggL ⟨(.refl _), (.refl _), trivial⟩) rfl ?_
          obtain ⟨vend_18, hvend_18, h⟩ := bd_some h
          refine E_callW (trace_Ended_ev  hvend_18) rfl ⟨(.refl _), trivial⟩ (blwL_of ⟨(End.enc.blw _ 0), trivial⟩) rfl ?_
          refine E_nil ?_
          refine E_nx ?_
          refine E_cs (t := vend_18) rfl (fun hb => ?_) (fun hb => ?_)
          · rw [ite_t hb] at h
            refine E_sq ?_
            refine E_reg ?_
            refine E_mv (v' := (.str y_14)) rfl ?_
            refine E_mv (v' := (.int .i64 s_15)) rfl ?_
            obtain ⟨vend_19, hvend_19, h⟩ := bd_some h
            refine E_callW (trace_ending_ev  hvend_19) rfl ⟨(.refl _), trivial⟩ (blwL_of ⟨rfl, trivial⟩) rfl ?_
            obtain ⟨num_20, hnum_20, h⟩ := bd_some h
            refine E_callW (trace_number_ev  hnum_20) rfl ⟨(.refl _), (.refl _), trivial⟩ (blwL_of ⟨rfl, rfl, trivial⟩) (tup_blw ⟨rfl, rfl, trivial⟩) ?_
            refine E_mv (v' := (.tup [(.int .u64 num_20.1), (.bool num_20.2)])) rfl ?_
            refine E_op0 (v' := (.int .u64 num_20.1)) rfl rfl ?_
            refine E_op0 (v' := (.bool num_20.2)) rfl rfl ?_
            refine E_mv (v' := (.int .u64 num_20.1)) rfl ?_
            refine E_mv (v' := (.bool num_20.2)) rfl ?_
            refine E_nil ?_
            refine E_nx ?_
            refine E_sq ?_
            refine E_reg ?_
            refine E_mv (v' := (.bool num_20.2)) rfl ?_
            refine E_nil ?_
            refine E_nx ?_
            refine E_cs (t := num_20.2) rfl (fun hb => ?_) (fun hb => ?_)
            · rw [ite_t hb] at h
              refine E_sq ?_
              refine E_reg ?_
              refine E_mv (v' := (.int .u64 num_20.1)) rfl ?_
              refine E_op0 (v' := (.ptr 2 0 1)) rfl rfl ?_
              refine E_do (S' := [.arr 0 [(.int .i64 0), (.int .u64 0)], .arr 1 (flat Event.av s_3), .arr 0 [(.int .i64 s_15), (.int .u64 num_20.1)]]) rfl rfl ?_
              refine E_nil ?_
              refine E_nx ?_
              refine E_sq ?_
              refine E_reg ?_
              refine E_mv (v' := (.ref 1 1 0 (List.length s_3) (some 2))) rfl ?_
              refine E_opw (v' := (End.av (End.mk s_15 num_20.1))) rfl (.aggL ⟨(.refl _), (.refl _), trivial⟩) rfl ?_
              refine E_mv (v' := (.ref 1 1 0 (List.length s_3) (some 2))) rfl ?_
              refine E_do (S' := [.arr 0 [(.int .i64 s_15), (.int .u64 num_20.1)], .arr 1 (flat Event.av s_3), .arr 0 [(.int .i64 s_15), (.int .u64 num_20.1)]]) rfl rfl ?_
              refine E_mv (v' := (.int .i64 0)) rfl ?_
              refine E_nil ?_
              refine E_nx ?_
              refine E_ret ?_
              refine E_blr ?_
              refine E_thr ?_
              cases h
              refine L_rrO rfl (fun h => ?_)
              refine E_thr ?_
              cases h
              exact ⟨trivial, _, rfl, (fz_tup ⟨(fz_ref Event.enc (Nat.zero_le _) rfl), (fz_agg ⟨(fz_b rfl (.refl _)), (fz_b rfl (.refl _)), trivial⟩), (fz_b rfl (.refl _)), trivial⟩)⟩
            · rw [ite_f hb] at h
              refine E_skip ?_
              refine E_bln ?_
              exact E_jx _ h (wk_rn [some (0, 0), some (1, 0)] rfl (Nat.le_of_ble_eq_true rfl) ⟨(rn_ob rfl rfl (.cons (rn_b rfl) (.cons (rn_b rfl) (.nil (Nat.zero_le _)))) rfl), (rn_ob rfl rfl (.refl (Event.enc.blwf 0 _)) rfl), trivial⟩ ⟨(rn_ptr rfl rfl rfl rfl), (rn_refL Event.enc rfl rfl rfl), (rn_b rfl), (rn_b rfl), trivial⟩)
          · rw [ite_f hb] at h
            refine E_sq ?_
            refine E_reg ?_
            refine E_mv (v' := (.str y_14)) rfl ?_
            refine E_mv (v' := (.int .i64 s_15)) rfl ?_
            obtain ⟨vend_21, hvend_21, h⟩ := bd_some h
            refine E_callW (trace_ending_ev  hvend_21) rfl ⟨(.refl _), trivial⟩ (blwL_of ⟨rfl, trivial⟩) rfl ?_
            refine E_op0 (v' := (.bool (ByteArray.toList y_14 == ByteArray.toList vend_21))) rfl rfl ?_
            refine E_nil ?_
            refine E_nx ?_
            refine E_cs (t := (ByteArray.toList y_14 == ByteArray.toList vend_21)) rfl (fun hb => ?_) (fun hb => ?_)
            · rw [ite_t hb] at h
              refine E_sq ?_
              refine E_reg ?_
              refine E_mv (v' := (.ref 1 1 0 (List.length s_3) (some 2))) rfl ?_
              refine E_opw (v' := (End.av (End.mk s_15 0))) rfl (.aggL ⟨(.refl _), (.refl _), trivial⟩) rfl ?_
              refine E_mv (v' := (.ref 1 1 0 (List.length s_3) (some 2))) rfl ?_
              refine E_do (S' := [.arr 0 [(.int .i64 s_15), (.int .u64 0)], .arr 1 (flat Event.av s_3), .arr 0 [(.int .i64 s_15), (.int .u64 0)]]) rfl rfl ?_
              refine E_mv (v' := (.int .i64 0)) rfl ?_
              refine E_nil ?_
              refine E_nx ?_
              refine E_ret ?_
              refine E_blr ?_
              refine E_thr ?_
              cases h
              refine L_rrO rfl (fun h => ?_)
              refine E_thr ?_
              cases h
              exact ⟨trivial, _, rfl, (fz_tup ⟨(fz_ref Event.enc (Nat.zero_le _) rfl), (fz_agg ⟨(fz_b rfl (.refl _)), (fz_b rfl (.refl _)), trivial⟩), (fz_b rfl (.refl _)), trivial⟩)⟩
            · rw [ite_f hb] at h
              refine E_skip ?_
              refine E_bln ?_
              exact E_jx _ h (wk_rn [some (0, 0), some (1, 0)] rfl (Nat.le_of_ble_eq_true rfl) ⟨(rn_ob rfl rfl (.cons (rn_b rfl) (.cons (rn_b rfl) (.nil (Nat.zero_le _)))) rfl), (rn_ob rfl rfl (.refl (Event.enc.blwf 0 _)) rfl), trivial⟩ ⟨(rn_ptr rfl rfl rfl rfl), (rn_refL Event.enc rfl rfl rfl), (rn_b rfl), (rn_b rfl), trivial⟩)
        · refine E_reg ?_
          refine E_mv (v' := (.int .i64 s_15)) rfl ?_
          refine E_op0 (v' := (.int .i64 (I64 (s_15 + 1)))) rfl rfl ?_
          refine E_mv (v' := (.int .i64 (I64 (s_15 + 1)))) rfl ?_
          refine E_nil ?_
          cases h
          exact L_nn rfl (wk_rn [some (0, 0), some (1, 0)] rfl (Nat.le_of_ble_eq_true rfl) ⟨(rn_ob rfl rfl (.cons (rn_b rfl) (.cons (rn_b rfl) (.nil (Nat.zero_le _)))) rfl), (rn_ob rfl rfl (.refl (Event.enc.blwf 0 _)) rfl), trivial⟩ ⟨(rn_ptr rfl rfl rfl rfl), (rn_refL Event.enc rfl rfl rfl), (rn_b rfl), (rn_b rfl), trivial⟩)
      · rw [ite_f hb] at h
        refine E_exit ?_
        refine E_the ?_
        cases h
        exact L_bk rfl rfl rfl (wk_rn [some (0, 0), some (1, 0)] rfl (Nat.le_of_ble_eq_true rfl) ⟨(rn_ob rfl rfl (.cons (rn_b rfl) (.cons (rn_b rfl) (.nil (Nat.zero_le _)))) rfl), (rn_ob rfl rfl (.refl (Event.enc.blwf 0 _)) rfl), trivial⟩ ⟨(rn_ptr rfl rfl rfl rfl), (rn_refL Event.enc rfl rfl rfl), (rn_b rfl), (rn_b rfl), trivial⟩)
    · refine X_nx hw ?_
      refine E_sq ?_
      refine E_reg ?_
      refine E_opw (v' := (End.av (End.mk 0 0))) rfl (.aggL ⟨(.refl _), (.refl _), trivial⟩) rfl ?_
      refine E_mv (v' := .nils) rfl ?_
      refine E_do (S' := [.arr 0 [(.int .i64 0), (.int .u64 0)], .arr 1 (flat Event.av s_3)]) rfl rfl ?_
      refine E_mv (v' := (.int .i64 30)) rfl ?_
      refine E_nil ?_
      refine E_nx ?_
      refine E_ret ?_
      cases h
      exact ⟨trivial, _, rfl, (fz_tup ⟨(fz_b rfl .nil), (fz_agg ⟨(fz_b rfl (.refl _)), (fz_b rfl (.refl _)), trivial⟩), (fz_b rfl (.refl _)), trivial⟩)⟩
/- windlass/windlassref02.Split -/
def fc49 : FC := (.seq (.reg [⟨(some 4), none, .op (.mv (.v .nils))⟩] [])
  (.seq (.reg [⟨(some 5), none, .op (.mv (.v .nils))⟩] [])
  (.seq (.reg [⟨(some 6), none, .op (.mv (.v (.int .i64 0)))⟩] [])
  (.seq (.seq (.reg [⟨(some 7), none, .op (.mv (.v (.int .i64 0)))⟩] [])
  (.block 0 (.loop (.seq (.seq (.reg [⟨(some 8), none, .op (.mv (.t 7))⟩,
  ⟨(some 9), none, .op (.mv (.t 0))⟩,
  ⟨(some 10), none, .op (.len .str (.t 9))⟩,
  ⟨(some 11), none, .op (.bin .none .leq (.t 8) (.t 10))⟩] [])
  (.cond (.t 11)
  .skip
  (.exit 0)))
  (.seq (.block 1 (.seq (.reg [⟨(some 14), none, .op (.mv (.t 7))⟩,
  ⟨(some 15), none, .op (.mv (.t 0))⟩,
  ⟨(some 16), none, .op (.len .str (.t 15))⟩,
  ⟨(some 17), none, .op (.bin .none .eql (.t 14) (.t 16))⟩,
  ⟨(some 18), none, .op (.mv (.t 17))⟩,
  ⟨(some 19), some (18, false), .op (.mv (.t 0))⟩,
  ⟨(some 20), some (18, false), .op (.mv (.t 7))⟩,
  ⟨(some 21), some (18, false), .op (.idxs (.t 19) (.t 20))⟩,
  ⟨(some 22), some (18, false), .op (.mv (.t 1))⟩,
  ⟨(some 23), some (18, false), .op (.bin .none .eql (.t 21) (.t 22))⟩,
  ⟨(some 24), none, .op (.pick (.t 18) (.v (.bool true)) (.t 23))⟩] [])
  (.cond (.t 24)
  (.seq (.reg [⟨(some 25), none, .op (.mv (.t 5))⟩,
  ⟨(some 26), none, .op (.mv (.t 0))⟩,
  ⟨(some 27), none, .op (.mv (.t 6))⟩,
  ⟨(some 28), none, .op (.mv (.t 7))⟩,
  ⟨(some 29), none, .op (.sls (.t 26) (some (.t 27)) (some (.t 28)))⟩,
  ⟨(some 30), none, .op (.bsl none [(.str (ByteArray.mk #[]))] 1 [(0, 1, (.t 29))])⟩,
  ⟨(some 31), none, .op (.app none 16 (.t 25) (.t 30))⟩,
  ⟨(some 5), none, .op (.mv (.t 31))⟩] [])
  (.reg [⟨(some 32), none, .op (.mv (.t 7))⟩,
  ⟨(some 33), none, .op (.bin .none .add (.t 32) (.v (.int .i64 1)))⟩,
  ⟨(some 6), none, .op (.mv (.t 33))⟩] []))
  .skip)))
  (.reg [⟨(some 12), none, .op (.mv (.t 7))⟩,
  ⟨(some 13), none, .op (.bin .none .add (.t 12) (.v (.int .i64 1)))⟩,
  ⟨(some 7), none, .op (.mv (.t 13))⟩] []))))))
  (.seq (.reg [⟨(some 34), none, .op (.mv (.t 5))⟩,
  ⟨(some 4), none, .op (.mv (.t 34))⟩] [])
  .ret)))))
theorem fn49 : Fn3 Tryd.prog 49 35 [(4, none)] fc49 := ⟨_, _, Tryd.func49, rfl, rfl, rfl, by kernel_rfl⟩
def windlassref02_Split_s (fuel : Nat) (s_00 : ByteArray) (vby_01 : Int) : Option (List ByteArray) :=
  ((whileN (fun (s_1 : (Int × Int × Int × (List ByteArray))) => ((if (decide (s_1.2.2.1 ≤ (ByteArray.size s_00 : Int))) then (jp (fun (s_3 : (Int × (List ByteArray))) => (some (.nxt (s_1.1, s_3.1, (I64 (s_1.2.2.1 + 1)), s_3.2)))) (fun k_2 => (jp (fun (s_5 : Bool) => (if s_5 then ((subS s_00 s_1.2.1 s_1.2.2.1).bind fun s_7 => ((appL 16 s_1.2.2.2 [s_7]).bind fun l_8 => (k_2 ((I64 (s_1.2.2.1 + 1)), l_8)))) else (k_2 (s_1.2.1, s_1.2.2.2)))) (fun k_4 => (if (s_1.2.2.1 == (ByteArray.size s_00 : Int)) then (k_4 true) else ((strI s_00 s_1.2.2.1).bind fun b_6 => (k_4 (b_6 == s_1.1)))))))) else (some (.brk (s_1.1, s_1.2.1, s_1.2.2.1, s_1.2.2.2)))) : Option (Stp (Int × Int × Int × (List ByteArray)) (Option (List ByteArray))))) fuel (vby_01, 0, 0, [])).bind (oc (fun (s_1 : (Int × Int × Int × (List ByteArray))) => (some s_1.2.2.2))))
theorem windlassref02_Split_ev {fuel : Nat} {s_00 : ByteArray} {vby_01 : Int} {r : (List ByteArray)} (h : windlassref02_Split_s fuel s_00 vby_01 = some r) : PureEv Tryd.prog 49 [(.str s_00), (.int .u8 vby_01)] (.sl false 1 (List.map avS r)) := by
  unfold windlassref02_Split_s at h
  refine PureEv_end mixed fn49 (by simp) [31] 6 ?_
  unfold fc49
  refine E_sq ?_
  refine E_reg ?_
  refine E_mv (v' := .nils) rfl ?_
  refine E_nil ?_
  refine E_nx ?_
  refine E_sq ?_
  refine E_reg ?_
  refine E_mv (v' := .nils) rfl ?_
  refine E_nil ?_
  refine E_nx ?_
  refine E_sq ?_
  refine E_reg ?_
  refine E_mv (v' := (.int .i64 0)) rfl ?_
  refine E_nil ?_
  refine E_nx ?_
  refine E_as ?_
  refine E_sq ?_
  refine E_reg ?_
  refine E_mv (v' := (.int .i64 0)) rfl ?_
  refine E_nil ?_
  refine E_nx ?_
  refine E_sq ?_
  refine E_whileO (fun s_1 => [(0, (.str s_00)), (1, (.int .u8 s_1.1)), (5, (.ref 0 1 0 (List.length s_1.2.2.2) none)), (6, (.int .i64 s_1.2.1)), (7, (.int .i64 s_1.2.2.1))]) (fun s_1 => [.arr 1 (flat avS s_1.2.2.2)]) h (wk_rn [none] rfl (Nat.le_of_ble_eq_true rfl) ⟨(rn_obN rfl rfl rfl), trivial⟩ ⟨(rn_b rfl), (rn_b rfl), (rn_nil rfl), (rn_b rfl), (rn_b rfl), trivial⟩) (fun s_1 c h => ?_) (fun s_1 fr' S' h hw => ?_)
  · refine E_as ?_
    refine E_sq ?_
    refine E_reg ?_
    refine E_mv (v' := (.int .i64 s_1.2.2.1)) rfl ?_
    refine E_mv (v' := (.str s_00)) rfl ?_
    refine E_op0 (v' := (.int .i64 (ByteArray.size s_00 : Int))) rfl rfl ?_
    refine E_op0 (v' := (.bool (decide (s_1.2.2.1 ≤ (ByteArray.size s_00 : Int))))) rfl rfl ?_
    refine E_nil ?_
    refine E_nx ?_
    refine E_sq ?_
    refine E_cs (t := (decide (s_1.2.2.1 ≤ (ByteArray.size s_00 : Int)))) rfl (fun hb => ?_) (fun hb => ?_)
    · rw [ite_t hb] at h
      refine E_skip ?_
      refine E_nx ?_
      refine E_jp h (fun s_3 => [(0, (.str s_00)), (1, (.int .u8 s_1.1)), (5, (.ref 0 1 0 (List.length s_3.2) none)), (6, (.int .i64 s_3.1)), (7, (.int .i64 s_1.2.2.1))]) (fun s_3 => [.arr 1 (flat avS s_3.2)]) (fun k_2 h => ?_) (fun s_3 h => ?_)
      · refine E_block ?_
        refine E_jp h (fun s_5 => [(0, (.str s_00)), (1, (.int .u8 s_1.1)), (5, (.ref 0 1 0 (List.length s_1.2.2.2) none)), (6, (.int .i64 s_1.2.1)), (7, (.int .i64 s_1.2.2.1)), (24, (.bool s_5))]) (fun s_5 => [.arr 1 (flat avS s_1.2.2.2)]) (fun k_4 h => ?_) (fun s_5 h => ?_)
        · refine E_reg ?_
          refine E_mv (v' := (.int .i64 s_1.2.2.1)) rfl ?_
          refine E_mv (v' := (.str s_00)) rfl ?_
          refine E_op0 (v' := (.int .i64 (ByteArray.size s_00 : Int))) rfl rfl ?_
          refine E_op0 (v' := (.bool (s_1.2.2.1 == (ByteArray.size s_00 : Int)))) rfl rfl ?_
          refine E_mv (v' := (.bool (s_1.2.2.1 == (ByteArray.size s_00 : Int)))) rfl ?_
          refine E_gsT (b := (s_1.2.2.1 == (ByteArray.size s_00 : Int))) rfl rfl rfl (fun hb => ?_) (fun hb => ?_)
          · rw [ite_f hb] at h
            refine E_mv (v' := (.str s_00)) rfl ?_
            refine E_gh rfl ?_
            refine E_mv (v' := (.int .i64 s_1.2.2.1)) rfl ?_
            refine E_gh rfl ?_
            obtain ⟨b_6, hb_6, h⟩ := bd_some h
            refine E_idxS rfl rfl hb_6 ?_
            refine E_gh rfl ?_
            refine E_mv (v' := (.int .u8 s_1.1)) rfl ?_
            refine E_gh rfl ?_
            refine E_op0 (v' := (.bool (b_6 == s_1.1))) rfl rfl ?_
            refine E_pf rfl rfl ?_
            refine E_nil ?_
            exact E_jx _ h (wk_rn [some (0, 0)] rfl (Nat.le_of_ble_eq_true rfl) ⟨(rn_ob rfl rfl (.refl (encS.blwf 0 _)) rfl), trivial⟩ ⟨(rn_b rfl), (rn_b rfl), (rn_refL encS rfl rfl rfl), (rn_b rfl), (rn_b rfl), (rn_b rfl), trivial⟩)
          · rw [ite_t hb] at h
            refine E_gm rfl ?_
            refine E_gm rfl ?_
            refine E_gm rfl ?_
            refine E_gm rfl ?_
            refine E_pt rfl rfl ?_
            refine E_nil ?_
            exact E_jx _ h (wk_rn [some (0, 0)] rfl (Nat.le_of_ble_eq_true rfl) ⟨(rn_ob rfl rfl (.refl (encS.blwf 0 _)) rfl), trivial⟩ ⟨(rn_b rfl), (rn_b rfl), (rn_refL encS rfl rfl rfl), (rn_b rfl), (rn_b rfl), (rn_b rfl), trivial⟩)
        · refine E_cs (t := s_5) rfl (fun hb => ?_) (fun hb => ?_)
          · rw [ite_t hb] at h
            refine E_sq ?_
            refine E_reg ?_
            refine E_mv (v' := (.ref 0 1 0 (List.length s_1.2.2.2) none)) rfl ?_
            refine E_mv (v' := (.str s_00)) rfl ?_
            refine E_mv (v' := (.int .i64 s_1.2.1)) rfl ?_
            refine E_mv (v' := (.int .i64 s_1.2.2.1)) rfl ?_
            obtain ⟨s_7, hs_7, h⟩ := bd_some h
            refine E_sls rfl (fun h0 => loN_int h0) (fun h0 => hiN_int h0) hs_7 ?_
            refine E_opw (v' := (.sl true 1 (List.map avS [s_7]))) rfl (.refl _) rfl ?_
            obtain ⟨l_8, hl_8, h⟩ := bd_some h
            refine E_apL (S' := [.arr 2 (flat avS l_8)]) encS rfl (src_sl [s_7]) rfl hl_8 rfl ?_
            refine E_mv (v' := (.ref 0 2 0 (List.length l_8) none)) rfl ?_
            refine E_nil ?_
            refine E_nx ?_
            refine E_reg ?_
            refine E_mv (v' := (.int .i64 s_1.2.2.1)) rfl ?_
            refine E_op0 (v' := (.int .i64 (I64 (s_1.2.2.1 + 1)))) rfl rfl ?_
            refine E_mv (v' := (.int .i64 (I64 (s_1.2.2.1 + 1)))) rfl ?_
            refine E_nil ?_
            refine E_bln ?_
            exact E_jx _ h (wk_rn [some (0, 0)] rfl (Nat.le_of_ble_eq_true rfl) ⟨(rn_ob rfl rfl (.refl (encS.blwf 0 _)) rfl), trivial⟩ ⟨(rn_b rfl), (rn_b rfl), (rn_refL encS rfl rfl rfl), (rn_b rfl), (rn_b rfl), trivial⟩)
          · rw [ite_f hb] at h
            refine E_skip ?_
            refine E_bln ?_
            exact E_jx _ h (wk_rn [some (0, 0)] rfl (Nat.le_of_ble_eq_true rfl) ⟨(rn_ob rfl rfl (.refl (encS.blwf 0 _)) rfl), trivial⟩ ⟨(rn_b rfl), (rn_b rfl), (rn_refL encS rfl rfl rfl), (rn_b rfl), (rn_b rfl), trivial⟩)
      · refine E_reg ?_
        refine E_mv (v' := (.int .i64 s_1.2.2.1)) rfl ?_
        refine E_op0 (v' := (.int .i64 (I64 (s_1.2.2.1 + 1)))) rfl rfl ?_
        refine E_mv (v' := (.int .i64 (I64 (s_1.2.2.1 + 1)))) rfl ?_
        refine E_nil ?_
        cases h
        exact L_nn rfl (wk_rn [some (0, 0)] rfl (Nat.le_of_ble_eq_true rfl) ⟨(rn_ob rfl rfl (.refl (encS.blwf 0 _)) rfl), trivial⟩ ⟨(rn_b rfl), (rn_b rfl), (rn_refL encS rfl rfl rfl), (rn_b rfl), (rn_b rfl), trivial⟩)
    · rw [ite_f hb] at h
      refine E_exit ?_
      refine E_the ?_
      cases h
      exact L_bk rfl rfl rfl (wk_rn [some (0, 0)] rfl (Nat.le_of_ble_eq_true rfl) ⟨(rn_ob rfl rfl (.refl (encS.blwf 0 _)) rfl), trivial⟩ ⟨(rn_b rfl), (rn_b rfl), (rn_refL encS rfl rfl rfl), (rn_b rfl), (rn_b rfl), trivial⟩)
  · refine X_nx hw ?_
    refine E_sq ?_
    refine E_reg ?_
    refine E_mv (v' := (.ref 0 1 0 (List.length s_1.2.2.2) none)) rfl ?_
    refine E_mv (v' := (.ref 0 1 0 (List.length s_1.2.2.2) none)) rfl ?_
    refine E_nil ?_
    refine E_nx ?_
    refine E_ret ?_
    cases h
    exact ⟨trivial, _, rfl, (fz_ref encS (Nat.zero_le _) rfl)⟩
/- windlass/windlassref02.behind -/
def fc50 : FC := (.seq (.reg [⟨(some 4), none, .op (.mv (.v (.str (ByteArray.mk #[]))))⟩,
  ⟨(some 5), none, .op (.mv (.v (.bool false)))⟩] [])
  (.seq (.seq (.reg [⟨(some 6), none, .op (.mv (.t 0))⟩,
  ⟨(some 7), none, .op (.len .str (.t 6))⟩,
  ⟨(some 8), none, .op (.mv (.t 1))⟩,
  ⟨(some 9), none, .op (.len .str (.t 8))⟩,
  ⟨(some 10), none, .op (.bin .none .lss (.t 7) (.t 9))⟩,
  ⟨(some 11), none, .op (.mv (.t 10))⟩,
  ⟨(some 12), some (11, false), .op (.mv (.t 0))⟩,
  ⟨(some 13), some (11, false), .op (.mv (.t 1))⟩,
  ⟨(some 14), some (11, false), .op (.len .str (.t 13))⟩,
  ⟨(some 15), some (11, false), .op (.sls (.t 12) none (some (.t 14)))⟩,
  ⟨(some 16), some (11, false), .op (.mv (.t 1))⟩,
  ⟨(some 17), some (11, false), .op (.bin .none .neq (.t 15) (.t 16))⟩,
  ⟨(some 18), none, .op (.pick (.t 11) (.v (.bool true)) (.t 17))⟩] [])
  (.cond (.t 18)
  (.seq (.reg [⟨(some 4), none, .op (.mv (.v (.str (ByteArray.mk #[]))))⟩,
  ⟨(some 5), none, .op (.mv (.v (.bool false)))⟩] [])
  .ret)
  .skip))
  (.seq (.reg [⟨(some 19), none, .op (.mv (.t 0))⟩,
  ⟨(some 20), none, .op (.mv (.t 1))⟩,
  ⟨(some 21), none, .op (.len .str (.t 20))⟩,
  ⟨(some 22), none, .op (.sls (.t 19) (some (.t 21)) none)⟩,
  ⟨(some 4), none, .op (.mv (.t 22))⟩,
  ⟨(some 5), none, .op (.mv (.v (.bool true)))⟩] [])
  .ret)))
theorem fn50 : Fn3 Tryd.prog 50 23 [(4, none), (5, none)] fc50 := ⟨_, _, Tryd.func50, rfl, rfl, rfl, by kernel_rfl⟩
def windlassref02_behind_s (s_00 : ByteArray) (head_01 : ByteArray) : Option (ByteArray × Bool) :=
  (jp (fun (s_2 : (ByteArray × Bool)) => (if s_2.2 then (some ((ByteArray.mk #[]), false)) else ((subS s_00 (ByteArray.size s_2.1 : Int) (ByteArray.size s_00 : Int)).bind fun s_4 => (some (s_4, true))))) (fun k_1 => (if (decide ((ByteArray.size s_00 : Int) < (ByteArray.size head_01 : Int))) then (k_1 (head_01, true)) else ((subS s_00 0 (ByteArray.size head_01 : Int)).bind fun s_3 => (k_1 (head_01, (!(ByteArray.toList s_3 == ByteArray.toList head_01))))))))
theorem windlassref02_behind_ev {s_00 : ByteArray} {head_01 : ByteArray} {r : (ByteArray × Bool)} (h : windlassref02_behind_s s_00 head_01 = some r) : PureEv Tryd.prog 50 [(.str s_00), (.str head_01)] (.tup [(.str r.1), (.bool r.2)]) := by
  unfold windlassref02_behind_s at h
  refine PureEv_end mixed fn50 (by simp) [] 6 ?_
  unfold fc50
  refine E_sq ?_
  refine E_reg ?_
  refine E_mv (v' := (.str (ByteArray.mk #[]))) rfl ?_
  refine E_mv (v' := (.bool false)) rfl ?_
  refine E_nil ?_
  refine E_nx ?_
  refine E_as ?_
  refine E_jp h (fun s_2 => [(0, (.str s_00)), (1, (.str s_2.1)), (18, (.bool s_2.2))]) (fun s_2 => []) (fun k_1 h => ?_) (fun s_2 h => ?_)
  · refine E_reg ?_
    refine E_mv (v' := (.str s_00)) rfl ?_
    refine E_op0 (v' := (.int .i64 (ByteArray.size s_00 : Int))) rfl rfl ?_
    refine E_mv (v' := (.str head_01)) rfl ?_
    refine E_op0 (v' := (.int .i64 (ByteArray.size head_01 : Int))) rfl rfl ?_
    refine E_op0 (v' := (.bool (decide ((ByteArray.size s_00 : Int) < (ByteArray.size head_01 : Int))))) rfl rfl ?_
    refine E_mv (v' := (.bool (decide ((ByteArray.size s_00 : Int) < (ByteArray.size head_01 : Int))))) rfl ?_
    refine E_gsT (b := (decide ((ByteArray.size s_00 : Int) < (ByteArray.size head_01 : Int)))) rfl rfl rfl (fun hb => ?_) (fun hb => ?_)
    · rw [ite_f hb] at h
      refine E_mv (v' := (.str s_00)) rfl ?_
      refine E_gh rfl ?_
      refine E_mv (v' := (.str head_01)) rfl ?_
      refine E_gh rfl ?_
      refine E_op0 (v' := (.int .i64 (ByteArray.size head_01 : Int))) rfl rfl ?_
      refine E_gh rfl ?_
      obtain ⟨s_3, hs_3, h⟩ := bd_some h
      refine E_sls rfl (fun _ => rfl) (fun h0 => hiN_int h0) hs_3 ?_
      refine E_gh rfl ?_
      refine E_mv (v' := (.str head_01)) rfl ?_
      refine E_gh rfl ?_
      refine E_op0 (v' := (.bool (!(ByteArray.toList s_3 == ByteArray.toList head_01)))) rfl rfl ?_
      refine E_pf rfl rfl ?_
      refine E_nil ?_
      exact E_jx _ h (wk_aw ⟨(.refl _), (.refl _), (.refl _), trivial⟩)
    · rw [ite_t hb] at h
      refine E_gm rfl ?_
      refine E_gm rfl ?_
      refine E_gm rfl ?_
      refine E_gm rfl ?_
      refine E_gm rfl ?_
      refine E_pt rfl rfl ?_
      refine E_nil ?_
      exact E_jx _ h (wk_aw ⟨(.refl _), (.refl _), (.refl _), trivial⟩)
  · refine E_sq ?_
    refine E_cs (t := s_2.2) rfl (fun hb => ?_) (fun hb => ?_)
    · rw [ite_t hb] at h
      refine E_sq ?_
      refine E_reg ?_
      refine E_mv (v' := (.str (ByteArray.mk #[]))) rfl ?_
      refine E_mv (v' := (.bool false)) rfl ?_
      refine E_nil ?_
      refine E_nx ?_
      refine E_ret ?_
      refine E_thr ?_
      cases h
      exact ⟨trivial, _, rfl, (fz_tup ⟨(fz_b rfl (.refl _)), (fz_b rfl (.refl _)), trivial⟩)⟩
    · rw [ite_f hb] at h
      refine E_skip ?_
      refine E_nx ?_
      refine E_sq ?_
      refine E_reg ?_
      refine E_mv (v' := (.str s_00)) rfl ?_
      refine E_mv (v' := (.str s_2.1)) rfl ?_
      refine E_op0 (v' := (.int .i64 (ByteArray.size s_2.1 : Int))) rfl rfl ?_
      obtain ⟨s_4, hs_4, h⟩ := bd_some h
      refine E_sls rfl (fun h0 => loN_int h0) (fun _ => by simp [evO, hiN]) hs_4 ?_
      refine E_mv (v' := (.str s_4)) rfl ?_
      refine E_mv (v' := (.bool true)) rfl ?_
      refine E_nil ?_
      refine E_nx ?_
      refine E_ret ?_
      cases h
      exact ⟨trivial, _, rfl, (fz_tup ⟨(fz_b rfl (.refl _)), (fz_b rfl (.refl _)), trivial⟩)⟩
/- windlass/windlassref02.value -/
def fc51 : FC := (.seq (.reg [⟨(some 2), none, .op (.mv (.v (.int .u64 0)))⟩,
  ⟨(some 3), none, .op (.mv (.v (.bool false)))⟩] [])
  (.seq (.seq (.reg [⟨(some 7), none, .op (.mv (.t 0))⟩,
  ⟨(some 8), none, .op (.len .str (.t 7))⟩,
  ⟨(some 9), none, .op (.bin .none .eql (.t 8) (.v (.int .i64 0)))⟩,
  ⟨(some 10), none, .op (.mv (.t 9))⟩,
  ⟨(some 11), some (10, false), .op (.mv (.t 0))⟩,
  ⟨(some 12), some (10, false), .op (.len .str (.t 11))⟩,
  ⟨(some 13), some (10, false), .op (.bin .none .gtr (.t 12) (.v (.int .i64 1)))⟩,
  ⟨(some 14), some (10, false), .op (.mv (.t 13))⟩,
  ⟨(some 15), some (14, true), .op (.mv (.t 0))⟩,
  ⟨(some 16), some (14, true), .op (.idxs (.t 15) (.v (.int .i64 0)))⟩,
  ⟨(some 17), some (14, true), .op (.bin .none .eql (.t 16) (.v (.int .u8 48)))⟩,
  ⟨(some 18), some (10, false), .op (.pick (.t 14) (.t 17) (.v (.bool false)))⟩,
  ⟨(some 19), none, .op (.pick (.t 10) (.v (.bool true)) (.t 18))⟩] [])
  (.cond (.t 19)
  (.seq (.reg [⟨(some 2), none, .op (.mv (.v (.int .u64 0)))⟩,
  ⟨(some 3), none, .op (.mv (.v (.bool false)))⟩] [])
  .ret)
  .skip))
  (.seq (.reg [⟨(some 4), none, .op (.mv (.v (.int .u64 0)))⟩] [])
  (.seq (.seq (.reg [⟨(some 5), none, .op (.mv (.v (.int .i64 0)))⟩] [])
  (.block 0 (.loop (.seq (.seq (.reg [⟨(some 20), none, .op (.mv (.t 5))⟩,
  ⟨(some 21), none, .op (.mv (.t 0))⟩,
  ⟨(some 22), none, .op (.len .str (.t 21))⟩,
  ⟨(some 23), none, .op (.bin .none .lss (.t 20) (.t 22))⟩] [])
  (.cond (.t 23)
  .skip
  (.exit 0)))
  (.seq (.block 1 (.seq (.seq (.reg [⟨(some 26), none, .op (.mv (.t 0))⟩,
  ⟨(some 27), none, .op (.mv (.t 5))⟩,
  ⟨(some 28), none, .op (.idxs (.t 26) (.t 27))⟩,
  ⟨(some 29), none, .op (.bin .none .lss (.t 28) (.v (.int .u8 48)))⟩,
  ⟨(some 30), none, .op (.mv (.t 29))⟩,
  ⟨(some 31), some (30, false), .op (.mv (.t 0))⟩,
  ⟨(some 32), some (30, false), .op (.mv (.t 5))⟩,
  ⟨(some 33), some (30, false), .op (.idxs (.t 31) (.t 32))⟩,
  ⟨(some 34), some (30, false), .op (.bin .none .gtr (.t 33) (.v (.int .u8 57)))⟩,
  ⟨(some 35), none, .op (.pick (.t 30) (.v (.bool true)) (.t 34))⟩] [])
  (.cond (.t 35)
  (.seq (.reg [⟨(some 2), none, .op (.mv (.v (.int .u64 0)))⟩,
  ⟨(some 3), none, .op (.mv (.v (.bool false)))⟩] [])
  .ret)
  .skip))
  (.seq (.reg [⟨(some 36), none, .op (.mv (.t 0))⟩,
  ⟨(some 37), none, .op (.mv (.t 5))⟩,
  ⟨(some 38), none, .op (.idxs (.t 36) (.t 37))⟩,
  ⟨(some 39), none, .op (.bin .none .sub (.t 38) (.v (.int .u8 48)))⟩,
  ⟨(some 40), none, .op (.cint .u64 (.t 39))⟩,
  ⟨(some 6), none, .op (.mv (.t 40))⟩] [])
  (.seq (.seq (.reg [⟨(some 41), none, .op (.mv (.t 4))⟩,
  ⟨(some 42), none, .op (.bin .none .gtr (.t 41) (.v (.int .u64 1844674407370955161)))⟩,
  ⟨(some 43), none, .op (.mv (.t 42))⟩,
  ⟨(some 44), some (43, false), .op (.mv (.t 4))⟩,
  ⟨(some 45), some (43, false), .op (.bin .none .eql (.t 44) (.v (.int .u64 1844674407370955161)))⟩,
  ⟨(some 46), some (43, false), .op (.mv (.t 45))⟩,
  ⟨(some 47), some (46, true), .op (.mv (.t 6))⟩,
  ⟨(some 48), some (46, true), .op (.bin .none .gtr (.t 47) (.v (.int .u64 5)))⟩,
  ⟨(some 49), some (43, false), .op (.pick (.t 46) (.t 48) (.v (.bool false)))⟩,
  ⟨(some 50), none, .op (.pick (.t 43) (.v (.bool true)) (.t 49))⟩] [])
  (.cond (.t 50)
  (.seq (.reg [⟨(some 2), none, .op (.mv (.v (.int .u64 0)))⟩,
  ⟨(some 3), none, .op (.mv (.v (.bool false)))⟩] [])
  .ret)
  .skip))
  (.reg [⟨(some 51), none, .op (.mv (.t 4))⟩,
  ⟨(some 52), none, .op (.bin .none .mul (.v (.int .u64 10)) (.t 51))⟩,
  ⟨(some 53), none, .op (.mv (.t 6))⟩,
  ⟨(some 54), none, .op (.bin .none .add (.t 52) (.t 53))⟩,
  ⟨(some 4), none, .op (.mv (.t 54))⟩] [])))))
  (.reg [⟨(some 24), none, .op (.mv (.t 5))⟩,
  ⟨(some 25), none, .op (.bin .none .add (.t 24) (.v (.int .i64 1)))⟩,
  ⟨(some 5), none, .op (.mv (.t 25))⟩] []))))))
  (.seq (.reg [⟨(some 55), none, .op (.mv (.t 4))⟩,
  ⟨(some 2), none, .op (.mv (.t 55))⟩,
  ⟨(some 3), none, .op (.mv (.v (.bool true)))⟩] [])
  .ret)))))
theorem fn51 : Fn3 Tryd.prog 51 56 [(2, none), (3, none)] fc51 := ⟨_, _, Tryd.func51, rfl, rfl, rfl, by kernel_rfl⟩
def windlassref02_value_s (fuel : Nat) (s_00 : ByteArray) : Option (Int × Bool) :=
  (jp (fun (s_2 : Bool) => (if s_2 then (some (0, false)) else ((whileN (fun (s_4 : (Int × Int)) => ((if (decide (s_4.2 < (ByteArray.size s_00 : Int))) then (jp (fun (s_6 : Bool) => (if s_6 then (some (.ret (some (0, false)))) else ((strI s_00 s_4.2).bind fun b_9 => (jp (fun (s_11 : Bool) => (if s_11 then (some (.ret (some (0, false)))) else (some (.nxt ((U64 ((U64 (10 * s_4.1)) + (U64 (U8 (b_9 - 48))))), (I64 (s_4.2 + 1))))))) (fun k_10 => (if (decide (s_4.1 > 1844674407370955161)) then (k_10 true) else (if (s_4.1 == 1844674407370955161) then (k_10 (decide ((U64 (U8 (b_9 - 48))) > 5))) else (k_10 false)))))))) (fun k_5 => ((strI s_00 s_4.2).bind fun b_7 => (if (decide (b_7 < 48)) then (k_5 true) else ((strI s_00 s_4.2).bind fun b_8 => (k_5 (decide (b_8 > 57)))))))) else (some (.brk (s_4.1, s_4.2)))) : Option (Stp (Int × Int) (Option (Int × Bool))))) fuel (0, 0)).bind (oc (fun (s_4 : (Int × Int)) => (some (s_4.1, true))))))) (fun k_1 => (if ((ByteArray.size s_00 : Int) == 0) then (k_1 true) else (if (decide ((ByteArray.size s_00 : Int) > 1)) then ((strI s_00 0).bind fun b_3 => (k_1 (b_3 == 48))) else (k_1 false)))))
theorem windlassref02_value_ev {fuel : Nat} {s_00 : ByteArray} {r : (Int × Bool)} (h : windlassref02_value_s fuel s_00 = some r) : PureEv Tryd.prog 51 [(.str s_00)] (.tup [(.int .u64 r.1), (.bool r.2)]) := by
  unfold windlassref02_value_s at h
  refine PureEv_end mixed fn51 (by simp) [] 6 ?_
  unfold fc51
  refine E_sq ?_
  refine E_reg ?_
  refine E_mv (v' := (.int .u64 0)) rfl ?_
  refine E_mv (v' := (.bool false)) rfl ?_
  refine E_nil ?_
  refine E_nx ?_
  refine E_as ?_
  refine E_jp h (fun s_2 => [(0, (.str s_00)), (19, (.bool s_2))]) (fun s_2 => []) (fun k_1 h => ?_) (fun s_2 h => ?_)
  · refine E_reg ?_
    refine E_mv (v' := (.str s_00)) rfl ?_
    refine E_op0 (v' := (.int .i64 (ByteArray.size s_00 : Int))) rfl rfl ?_
    refine E_op0 (v' := (.bool ((ByteArray.size s_00 : Int) == 0))) rfl rfl ?_
    refine E_mv (v' := (.bool ((ByteArray.size s_00 : Int) == 0))) rfl ?_
    refine E_gsT (b := ((ByteArray.size s_00 : Int) == 0)) rfl rfl rfl (fun hb => ?_) (fun hb => ?_)
    · rw [ite_f hb] at h
      refine E_mv (v' := (.str s_00)) rfl ?_
      refine E_gh rfl ?_
      refine E_op0 (v' := (.int .i64 (ByteArray.size s_00 : Int))) rfl rfl ?_
      refine E_gh rfl ?_
      refine E_op0 (v' := (.bool (decide ((ByteArray.size s_00 : Int) > 1)))) rfl rfl ?_
      refine E_gh rfl ?_
      refine E_mv (v' := (.bool (decide ((ByteArray.size s_00 : Int) > 1)))) rfl ?_
      refine E_gsT (b := (decide ((ByteArray.size s_00 : Int) > 1))) rfl rfl rfl (fun hb => ?_) (fun hb => ?_)
      · rw [ite_t hb] at h
        refine E_mv (v' := (.str s_00)) rfl ?_
        refine E_gh rfl ?_
        obtain ⟨b_3, hb_3, h⟩ := bd_some h
        refine E_idxS rfl rfl hb_3 ?_
        refine E_gh rfl ?_
        refine E_op0 (v' := (.bool (b_3 == 48))) rfl rfl ?_
        refine E_gh rfl ?_
        refine E_pt rfl rfl ?_
        refine E_pf rfl rfl ?_
        refine E_nil ?_
        exact E_jx _ h (wk_aw ⟨(.refl _), (.refl _), trivial⟩)
      · rw [ite_f hb] at h
        refine E_gm rfl ?_
        refine E_gm rfl ?_
        refine E_gh rfl ?_
        refine E_pf rfl rfl ?_
        refine E_pf rfl rfl ?_
        refine E_nil ?_
        exact E_jx _ h (wk_aw ⟨(.refl _), (.refl _), trivial⟩)
    · rw [ite_t hb] at h
      refine E_gm rfl ?_
      refine E_gm rfl ?_
      refine E_gm rfl ?_
      refine E_gz rfl ?_
      refine E_gz rfl ?_
      refine E_gz rfl ?_
      refine E_gm rfl ?_
      refine E_pt rfl rfl ?_
      refine E_nil ?_
      exact E_jx _ h (wk_aw ⟨(.refl _), (.refl _), trivial⟩)
  · refine E_sq ?_
    refine E_cs (t := s_2) rfl (fun hb => ?_) (fun hb => ?_)
    · rw [ite_t hb] at h
      refine E_sq ?_
      refine E_reg ?_
      refine E_mv (v' := (.int .u64 0)) rfl ?_
      refine E_mv (v' := (.bool false)) rfl ?_
      refine E_nil ?_
      refine E_nx ?_
      refine E_ret ?_
      refine E_thr ?_
      cases h
      exact ⟨trivial, _, rfl, (fz_tup ⟨(fz_b rfl (.refl _)), (fz_b rfl (.refl _)), trivial⟩)⟩
    · rw [ite_f hb] at h
      refine E_skip ?_
      refine E_nx ?_
      refine E_sq ?_
      refine E_reg ?_
      refine E_mv (v' := (.int .u64 0)) rfl ?_
      refine E_nil ?_
      refine E_nx ?_
      refine E_as ?_
      refine E_sq ?_
      refine E_reg ?_
      refine E_mv (v' := (.int .i64 0)) rfl ?_
      refine E_nil ?_
      refine E_nx ?_
      refine E_sq ?_
      refine E_whileO (fun s_4 => [(0, (.str s_00)), (4, (.int .u64 s_4.1)), (5, (.int .i64 s_4.2))]) (fun s_4 => []) h (wk_aw ⟨(.refl _), (.refl _), (.refl _), trivial⟩) (fun s_4 c h => ?_) (fun s_4 fr' S' h hw => ?_)
      · refine E_as ?_
        refine E_sq ?_
        refine E_reg ?_
        refine E_mv (v' := (.int .i64 s_4.2)) rfl ?_
        refine E_mv (v' := (.str s_00)) rfl ?_
        refine E_op0 (v' := (.int .i64 (ByteArray.size s_00 : Int))) rfl rfl ?_
        refine E_op0 (v' := (.bool (decide (s_4.2 < (ByteArray.size s_00 : Int))))) rfl rfl ?_
        refine E_nil ?_
        refine E_nx ?_
        refine E_sq ?_
        refine E_cs (t := (decide (s_4.2 < (ByteArray.size s_00 : Int)))) rfl (fun hb => ?_) (fun hb => ?_)
        · rw [ite_t hb] at h
          refine E_skip ?_
          refine E_nx ?_
          refine E_sq ?_
          refine E_block ?_
          refine E_as ?_
          refine E_jp h (fun s_6 => [(0, (.str s_00)), (4, (.int .u64 s_4.1)), (5, (.int .i64 s_4.2)), (35, (.bool s_6))]) (fun s_6 => []) (fun k_5 h => ?_) (fun s_6 h => ?_)
          · refine E_reg ?_
            refine E_mv (v' := (.str s_00)) rfl ?_
            refine E_mv (v' := (.int .i64 s_4.2)) rfl ?_
            obtain ⟨b_7, hb_7, h⟩ := bd_some h
            refine E_idxS rfl rfl hb_7 ?_
            refine E_op0 (v' := (.bool (decide (b_7 < 48)))) rfl rfl ?_
            refine E_mv (v' := (.bool (decide (b_7 < 48)))) rfl ?_
            refine E_gsT (b := (decide (b_7 < 48))) rfl rfl rfl (fun hb => ?_) (fun hb => ?_)
            · rw [ite_f hb] at h
              refine E_mv (v' := (.str s_00)) rfl ?_
              refine E_gh rfl ?_
              refine E_mv (v' := (.int .i64 s_4.2)) rfl ?_
              refine E_gh rfl ?_
              obtain ⟨b_8, hb_8, h⟩ := bd_some h
              refine E_idxS rfl rfl hb_8 ?_
              refine E_gh rfl ?_
              refine E_op0 (v' := (.bool (decide (b_8 > 57)))) rfl rfl ?_
              refine E_pf rfl rfl ?_
              refine E_nil ?_
              exact E_jx _ h (wk_aw ⟨(.refl _), (.refl _), (.refl _), (.refl _), trivial⟩)
            · rw [ite_t hb] at h
              refine E_gm rfl ?_
              refine E_gm rfl ?_
              refine E_gm rfl ?_
              refine E_pt rfl rfl ?_
              refine E_nil ?_
              exact E_jx _ h (wk_aw ⟨(.refl _), (.refl _), (.refl _), (.refl _), trivial⟩)
          · refine E_sq ?_
            refine E_cs (t := s_6) rfl (fun hb => ?_) (fun hb => ?_)
            · rw [ite_t hb] at h
              refine E_sq ?_
              refine E_reg ?_
              refine E_mv (v' := (.int .u64 0)) rfl ?_
              refine E_mv (v' := (.bool false)) rfl ?_
              refine E_nil ?_
              refine E_nx ?_
              refine E_ret ?_
              refine E_thr ?_
              refine E_blr ?_
              refine E_thr ?_
              cases h
              refine L_rrO rfl (fun h => ?_)
              refine E_thr ?_
              cases h
              exact ⟨trivial, _, rfl, (fz_tup ⟨(fz_b rfl (.refl _)), (fz_b rfl (.refl _)), trivial⟩)⟩
            · rw [ite_f hb] at h
              refine E_skip ?_
              refine E_nx ?_
              refine E_sq ?_
              refine E_reg ?_
              refine E_mv (v' := (.str s_00)) rfl ?_
              refine E_mv (v' := (.int .i64 s_4.2)) rfl ?_
              obtain ⟨b_9, hb_9, h⟩ := bd_some h
              refine E_idxS rfl rfl hb_9 ?_
              refine E_op0 (v' := (.int .u8 (U8 (b_9 - 48)))) rfl rfl ?_
              refine E_op0 (v' := (.int .u64 (U64 (U8 (b_9 - 48))))) rfl rfl ?_
              refine E_mv (v' := (.int .u64 (U64 (U8 (b_9 - 48))))) rfl ?_
              refine E_nil ?_
              refine E_nx ?_
              refine E_as ?_
              refine E_jp h (fun s_11 => [(0, (.str s_00)), (4, (.int .u64 s_4.1)), (5, (.int .i64 s_4.2)), (6, (.int .u64 (U64 (U8 (b_9 - 48))))), (50, (.bool s_11))]) (fun s_11 => []) (fun k_10 h => ?_) (fun s_11 h => ?_)
              · refine E_reg ?_
                refine E_mv (v' := (.int .u64 s_4.1)) rfl ?_
                refine E_op0 (v' := (.bool (decide (s_4.1 > 1844674407370955161)))) rfl rfl ?_
                refine E_mv (v' := (.bool (decide (s_4.1 > 1844674407370955161)))) rfl ?_
                refine E_gsT (b := (decide (s_4.1 > 1844674407370955161))) rfl rfl rfl (fun hb => ?_) (fun hb => ?_)
                · rw [ite_f hb] at h
                  refine E_mv (v' := (.int .u64 s_4.1)) rfl ?_
                  refine E_gh rfl ?_
                  refine E_op0 (v' := (.bool (s_4.1 == 1844674407370955161))) rfl rfl ?_
                  refine E_gh rfl ?_
                  refine E_mv (v' := (.bool (s_4.1 == 1844674407370955161))) rfl ?_
                  refine E_gsT (b := (s_4.1 == 1844674407370955161)) rfl rfl rfl (fun hb => ?_) (fun hb => ?_)
                  · rw [ite_t hb] at h
                    refine E_mv (v' := (.int .u64 (U64 (U8 (b_9 - 48))))) rfl ?_
                    refine E_gh rfl ?_
                    refine E_op0 (v' := (.bool (decide ((U64 (U8 (b_9 - 48))) > 5)))) rfl rfl ?_
                    refine E_gh rfl ?_
                    refine E_pt rfl rfl ?_
                    refine E_pf rfl rfl ?_
                    refine E_nil ?_
                    exact E_jx _ h (wk_aw ⟨(.refl _), (.refl _), (.refl _), (.refl _), (.refl _), trivial⟩)
                  · rw [ite_f hb] at h
                    refine E_gm rfl ?_
                    refine E_gh rfl ?_
                    refine E_pf rfl rfl ?_
                    refine E_pf rfl rfl ?_
                    refine E_nil ?_
                    exact E_jx _ h (wk_aw ⟨(.refl _), (.refl _), (.refl _), (.refl _), (.refl _), trivial⟩)
                · rw [ite_t hb] at h
                  refine E_gm rfl ?_
                  refine E_gm rfl ?_
                  refine E_gz rfl ?_
                  refine E_gz rfl ?_
                  refine E_gm rfl ?_
                  refine E_pt rfl rfl ?_
                  refine E_nil ?_
                  exact E_jx _ h (wk_aw ⟨(.refl _), (.refl _), (.refl _), (.refl _), (.refl _), trivial⟩)
              · refine E_sq ?_
                refine E_cs (t := s_11) rfl (fun hb => ?_) (fun hb => ?_)
                · rw [ite_t hb] at h
                  refine E_sq ?_
                  refine E_reg ?_
                  refine E_mv (v' := (.int .u64 0)) rfl ?_
                  refine E_mv (v' := (.bool false)) rfl ?_
                  refine E_nil ?_
                  refine E_nx ?_
                  refine E_ret ?_
                  refine E_thr ?_
                  refine E_blr ?_
                  refine E_thr ?_
                  cases h
                  refine L_rrO rfl (fun h => ?_)
                  refine E_thr ?_
                  cases h
                  exact ⟨trivial, _, rfl, (fz_tup ⟨(fz_b rfl (.refl _)), (fz_b rfl (.refl _)), trivial⟩)⟩
                · rw [ite_f hb] at h
                  refine E_skip ?_
                  refine E_nx ?_
                  refine E_reg ?_
                  refine E_mv (v' := (.int .u64 s_4.1)) rfl ?_
                  refine E_op0 (v' := (.int .u64 (U64 (10 * s_4.1)))) rfl rfl ?_
                  refine E_mv (v' := (.int .u64 (U64 (U8 (b_9 - 48))))) rfl ?_
                  refine E_op0 (v' := (.int .u64 (U64 ((U64 (10 * s_4.1)) + (U64 (U8 (b_9 - 48))))))) rfl rfl ?_
                  refine E_mv (v' := (.int .u64 (U64 ((U64 (10 * s_4.1)) + (U64 (U8 (b_9 - 48))))))) rfl ?_
                  refine E_nil ?_
                  refine E_bln ?_
                  refine E_nx ?_
                  refine E_reg ?_
                  refine E_mv (v' := (.int .i64 s_4.2)) rfl ?_
                  refine E_op0 (v' := (.int .i64 (I64 (s_4.2 + 1)))) rfl rfl ?_
                  refine E_mv (v' := (.int .i64 (I64 (s_4.2 + 1)))) rfl ?_
                  refine E_nil ?_
                  cases h
                  exact L_nn rfl (wk_aw ⟨(.refl _), (.refl _), (.refl _), trivial⟩)
        · rw [ite_f hb] at h
          refine E_exit ?_
          refine E_the ?_
          cases h
          exact L_bk rfl rfl rfl (wk_aw ⟨(.refl _), (.refl _), (.refl _), trivial⟩)
      · refine X_nx hw ?_
        refine E_sq ?_
        refine E_reg ?_
        refine E_mv (v' := (.int .u64 s_4.1)) rfl ?_
        refine E_mv (v' := (.int .u64 s_4.1)) rfl ?_
        refine E_mv (v' := (.bool true)) rfl ?_
        refine E_nil ?_
        refine E_nx ?_
        refine E_ret ?_
        cases h
        exact ⟨trivial, _, rfl, (fz_tup ⟨(fz_b rfl (.refl _)), (fz_b rfl (.refl _)), trivial⟩)⟩
/- windlass/windlassref02.Read -/
def fc17 : FC := (.seq (.reg [⟨(some 2), none, .op (.mv (.v .nils))⟩,
  ⟨(some 3), none, .op (.new [(.int .i64 0), (.int .u64 0)])⟩,
  ⟨(some 4), none, .op (.mv (.v (.bool false)))⟩] [])
  (.seq (.reg [⟨(some 24), none, .op (.mv (.t 0))⟩,
  ⟨(some 25), none, .call 49 [(.t 24), (.v (.int .u8 32))]⟩,
  ⟨(some 5), none, .op (.mv (.t 25))⟩] [])
  (.seq (.reg [⟨(some 6), none, .op (.mv (.v .nils))⟩] [])
  (.seq (.seq (.reg [⟨(some 7), none, .op (.mv (.v (.int .i64 0)))⟩] [])
  (.block 0 (.loop (.seq (.seq (.reg [⟨(some 26), none, .op (.mv (.t 7))⟩,
  ⟨(some 27), none, .op (.mv (.t 5))⟩,
  ⟨(some 28), none, .op (.len .sl (.t 27))⟩,
  ⟨(some 29), none, .op (.bin .none .sub (.t 28) (.v (.int .i64 1)))⟩,
  ⟨(some 30), none, .op (.bin .none .lss (.t 26) (.t 29))⟩] [])
  (.cond (.t 30)
  .skip
  (.exit 0)))
  (.seq (.block 1 (.seq (.reg [⟨(some 33), none, .op (.build [(.int .i64 0), (.int .u64 0)] [])⟩,
  ⟨(some 8), none, .op (.new [(.int .i64 0), (.int .u64 0)])⟩,
  ⟨none, none, .op (.store 2 (.t 8) (.t 33))⟩] [])
  (.seq (.seq (.reg [⟨(some 34), none, .op (.bsl none [(.str (ByteArray.mk #[]))] 2 [(0, 1, (.v (.str (ByteArray.mk #[111, 117, 116, 61])))), (1, 1, (.v (.str (ByteArray.mk #[105, 110, 61]))))])⟩,
  ⟨(some 35), none, .op (.len .sl (.t 34))⟩,
  ⟨(some 36), none, .op (.mv (.v (.int .i64 0)))⟩] [])
  (.block 2 (.loop (.seq (.reg [⟨(some 37), none, .op (.bin .none .lss (.t 36) (.t 35))⟩] [])
  (.seq (.cond (.t 37)
  .skip
  (.exit 2))
  (.seq (.block 3 (.seq (.reg [⟨(some 38), none, .op (.mv (.t 36))⟩,
  ⟨(some 39), none, .op (.iad none none (.t 34) (.t 36))⟩,
  ⟨(some 40), none, .op (.load none (.t 39))⟩,
  ⟨(some 9), none, .op (.mv (.t 38))⟩,
  ⟨(some 10), none, .op (.mv (.t 40))⟩] [])
  (.seq (.reg [⟨(some 42), none, .op (.mv (.t 5))⟩,
  ⟨(some 43), none, .op (.mv (.t 7))⟩,
  ⟨(some 44), none, .op (.iad none none (.t 42) (.t 43))⟩,
  ⟨(some 45), none, .op (.load none (.t 44))⟩,
  ⟨(some 46), none, .op (.mv (.t 10))⟩,
  ⟨(some 47), none, .call 50 [(.t 45), (.t 46)]⟩,
  ⟨(some 41), none, .op (.mv (.t 47))⟩,
  ⟨(some 48), none, .op (.ext 0 (.t 41))⟩,
  ⟨(some 49), none, .op (.ext 1 (.t 41))⟩,
  ⟨(some 11), none, .op (.mv (.t 48))⟩,
  ⟨(some 12), none, .op (.mv (.t 49))⟩] [])
  (.seq (.reg [⟨(some 50), none, .op (.mv (.t 12))⟩] [])
  (.cond (.t 50)
  (.seq (.reg [⟨(some 52), none, .op (.mv (.t 11))⟩,
  ⟨(some 53), none, .call 51 [(.t 52)]⟩,
  ⟨(some 51), none, .op (.mv (.t 53))⟩,
  ⟨(some 54), none, .op (.ext 0 (.t 51))⟩,
  ⟨(some 55), none, .op (.ext 1 (.t 51))⟩,
  ⟨(some 13), none, .op (.mv (.t 54))⟩,
  ⟨(some 14), none, .op (.mv (.t 55))⟩] [])
  (.seq (.reg [⟨(some 56), none, .op (.mv (.t 14))⟩] [])
  (.cond (.t 56)
  (.reg [⟨(some 57), none, .op (.mv (.t 9))⟩,
  ⟨(some 58), none, .op (.bin .none .add (.t 57) (.v (.int .i64 1)))⟩,
  ⟨(some 59), none, .op (.mv (.t 13))⟩,
  ⟨(some 60), none, .op (.build [(.int .i64 0), (.int .u64 0)] [(0, 1, (.t 58)), (1, 1, (.t 59))])⟩,
  ⟨none, none, .op (.store 2 (.t 8) (.t 60))⟩] [])
  .skip)))
  .skip)))))
  (.reg [⟨(some 61), none, .op (.bin .none .add (.t 36) (.v (.int .i64 1)))⟩,
  ⟨(some 36), none, .op (.mv (.t 61))⟩] [])))))))
  (.seq (.seq (.reg [⟨(some 62), none, .op (.fad 0 (.t 8))⟩,
  ⟨(some 63), none, .op (.load none (.t 62))⟩,
  ⟨(some 64), none, .op (.bin .none .eql (.t 63) (.v (.int .i64 0)))⟩] [])
  (.cond (.t 64)
  (.seq (.reg [⟨(some 65), none, .op (.build [(.int .i64 0), (.int .u64 0)] [])⟩,
  ⟨(some 2), none, .op (.mv (.v .nils))⟩,
  ⟨none, none, .op (.store 2 (.t 3) (.t 65))⟩,
  ⟨(some 4), none, .op (.mv (.v (.bool false)))⟩] [])
  .ret)
  .skip))
  (.reg [⟨(some 66), none, .op (.mv (.t 6))⟩,
  ⟨(some 67), none, .op (.load (some 2) (.t 8))⟩,
  ⟨(some 68), none, .op (.bsl (some 2) [(.int .i64 0), (.int .u64 0)] 1 [(0, 2, (.t 67))])⟩,
  ⟨(some 69), none, .op (.app (some 2) 16 (.t 66) (.t 68))⟩,
  ⟨(some 6), none, .op (.mv (.t 69))⟩] [])))))
  (.reg [⟨(some 31), none, .op (.mv (.t 7))⟩,
  ⟨(some 32), none, .op (.bin .none .add (.t 31) (.v (.int .i64 1)))⟩,
  ⟨(some 7), none, .op (.mv (.t 32))⟩] []))))))
  (.seq (.reg [⟨(some 70), none, .op (.mv (.t 5))⟩,
  ⟨(some 71), none, .op (.mv (.t 5))⟩,
  ⟨(some 72), none, .op (.len .sl (.t 71))⟩,
  ⟨(some 73), none, .op (.bin .none .sub (.t 72) (.v (.int .i64 1)))⟩,
  ⟨(some 74), none, .op (.iad none none (.t 70) (.t 73))⟩,
  ⟨(some 75), none, .op (.load none (.t 74))⟩,
  ⟨(some 15), none, .op (.mv (.t 75))⟩] [])
  (.seq (.seq (.reg [⟨(some 76), none, .op (.bsl none [(.str (ByteArray.mk #[]))] 2 [(0, 1, (.v (.str (ByteArray.mk #[101, 120, 105, 116, 61])))), (1, 1, (.v (.str (ByteArray.mk #[112, 97, 110, 105, 99, 61]))))])⟩,
  ⟨(some 77), none, .op (.len .sl (.t 76))⟩,
  ⟨(some 78), none, .op (.mv (.v (.int .i64 0)))⟩] [])
  (.block 4 (.loop (.seq (.reg [⟨(some 79), none, .op (.bin .none .lss (.t 78) (.t 77))⟩] [])
  (.seq (.cond (.t 79)
  .skip
  (.exit 4))
  (.seq (.block 5 (.seq (.reg [⟨(some 80), none, .op (.mv (.t 78))⟩,
  ⟨(some 81), none, .op (.iad none none (.t 76) (.t 78))⟩,
  ⟨(some 82), none, .op (.load none (.t 81))⟩,
  ⟨(some 16), none, .op (.mv (.t 80))⟩,
  ⟨(some 17), none, .op (.mv (.t 82))⟩] [])
  (.seq (.reg [⟨(some 84), none, .op (.mv (.t 15))⟩,
  ⟨(some 85), none, .op (.mv (.t 17))⟩,
  ⟨(some 86), none, .call 50 [(.t 84), (.t 85)]⟩,
  ⟨(some 83), none, .op (.mv (.t 86))⟩,
  ⟨(some 87), none, .op (.ext 0 (.t 83))⟩,
  ⟨(some 88), none, .op (.ext 1 (.t 83))⟩,
  ⟨(some 18), none, .op (.mv (.t 87))⟩,
  ⟨(some 19), none, .op (.mv (.t 88))⟩] [])
  (.seq (.reg [⟨(some 89), none, .op (.mv (.t 19))⟩] [])
  (.cond (.t 89)
  (.seq (.reg [⟨(some 91), none, .op (.mv (.t 18))⟩,
  ⟨(some 92), none, .call 51 [(.t 91)]⟩,
  ⟨(some 90), none, .op (.mv (.t 92))⟩,
  ⟨(some 93), none, .op (.ext 0 (.t 90))⟩,
  ⟨(some 94), none, .op (.ext 1 (.t 90))⟩,
  ⟨(some 20), none, .op (.mv (.t 93))⟩,
  ⟨(some 21), none, .op (.mv (.t 94))⟩] [])
  (.seq (.seq (.reg [⟨(some 95), none, .op (.mv (.t 21))⟩,
  ⟨(some 96), none, .op (.un .not (.t 95))⟩] [])
  (.cond (.t 96)
  (.seq (.reg [⟨(some 97), none, .op (.build [(.int .i64 0), (.int .u64 0)] [])⟩,
  ⟨(some 2), none, .op (.mv (.v .nils))⟩,
  ⟨none, none, .op (.store 2 (.t 3) (.t 97))⟩,
  ⟨(some 4), none, .op (.mv (.v (.bool false)))⟩] [])
  .ret)
  .skip))
  (.seq (.reg [⟨(some 98), none, .op (.mv (.t 6))⟩,
  ⟨(some 99), none, .op (.mv (.t 16))⟩,
  ⟨(some 100), none, .op (.bin .none .add (.t 99) (.v (.int .i64 1)))⟩,
  ⟨(some 101), none, .op (.mv (.t 20))⟩,
  ⟨(some 102), none, .op (.build [(.int .i64 0), (.int .u64 0)] [(0, 1, (.t 100)), (1, 1, (.t 101))])⟩,
  ⟨(some 2), none, .op (.mv (.t 98))⟩,
  ⟨none, none, .op (.store 2 (.t 3) (.t 102))⟩,
  ⟨(some 4), none, .op (.mv (.v (.bool true)))⟩] [])
  .ret)))
  .skip)))))
  (.reg [⟨(some 103), none, .op (.bin .none .add (.t 78) (.v (.int .i64 1)))⟩,
  ⟨(some 78), none, .op (.mv (.t 103))⟩] [])))))))
  (.seq (.seq (.reg [⟨(some 104), none, .op (.bsl none [(.str (ByteArray.mk #[]))] 3 [(0, 1, (.v (.str (ByteArray.mk #[102, 117, 101, 108])))), (1, 1, (.v (.str (ByteArray.mk #[115, 116, 97, 99, 107])))), (2, 1, (.v (.str (ByteArray.mk #[115, 116, 117, 99, 107]))))])⟩,
  ⟨(some 105), none, .op (.len .sl (.t 104))⟩,
  ⟨(some 106), none, .op (.mv (.v (.int .i64 0)))⟩] [])
  (.block 6 (.loop (.seq (.reg [⟨(some 107), none, .op (.bin .none .lss (.t 106) (.t 105))⟩] [])
  (.seq (.cond (.t 107)
  .skip
  (.exit 6))
  (.seq (.block 7 (.seq (.reg [⟨(some 108), none, .op (.mv (.t 106))⟩,
  ⟨(some 109), none, .op (.iad none none (.t 104) (.t 106))⟩,
  ⟨(some 110), none, .op (.load none (.t 109))⟩,
  ⟨(some 22), none, .op (.mv (.t 108))⟩,
  ⟨(some 23), none, .op (.mv (.t 110))⟩] [])
  (.seq (.reg [⟨(some 111), none, .op (.mv (.t 15))⟩,
  ⟨(some 112), none, .op (.mv (.t 23))⟩,
  ⟨(some 113), none, .op (.bin .none .eql (.t 111) (.t 112))⟩] [])
  (.cond (.t 113)
  (.seq (.reg [⟨(some 114), none, .op (.mv (.t 6))⟩,
  ⟨(some 115), none, .op (.mv (.t 22))⟩,
  ⟨(some 116), none, .op (.bin .none .add (.t 115) (.v (.int .i64 3)))⟩,
  ⟨(some 117), none, .op (.build [(.int .i64 0), (.int .u64 0)] [(0, 1, (.t 116))])⟩,
  ⟨(some 2), none, .op (.mv (.t 114))⟩,
  ⟨none, none, .op (.store 2 (.t 3) (.t 117))⟩,
  ⟨(some 4), none, .op (.mv (.v (.bool true)))⟩] [])
  .ret)
  .skip))))
  (.reg [⟨(some 118), none, .op (.bin .none .add (.t 106) (.v (.int .i64 1)))⟩,
  ⟨(some 106), none, .op (.mv (.t 118))⟩] [])))))))
  (.seq (.reg [⟨(some 119), none, .op (.build [(.int .i64 0), (.int .u64 0)] [])⟩,
  ⟨(some 2), none, .op (.mv (.v .nils))⟩,
  ⟨none, none, .op (.store 2 (.t 3) (.t 119))⟩,
  ⟨(some 4), none, .op (.mv (.v (.bool false)))⟩] [])
  .ret))))))))
theorem fn17 : Fn3 Tryd.prog 17 120 [(2, none), (3, (some (some 2))), (4, none)] fc17 := ⟨_, _, Tryd.func17, rfl, rfl, rfl, by kernel_rfl⟩
def windlassref02_Read_s (fuel : Nat) (s_00 : ByteArray) : Option ((List Event) × End × Bool) :=
  ((windlassref02_Split_s fuel s_00 32).bind fun spl_1 => ((whileN (fun (s_2 : (Int × (List Event))) => ((if (decide (s_2.1 < (I64 ((List.length spl_1 : Int) - 1)))) then ((rng (fun (i_4 : Nat) (head_5 : ByteArray) (s_3 : (Int × Int)) => (((getI spl_1 s_2.1).bind fun y_7 => ((windlassref02_behind_s y_7 head_5).bind fun beh_8 => (if beh_8.2 then ((windlassref02_value_s fuel beh_8.1).bind fun val_9 => (if val_9.2 then (some (.nxt ((I64 ((i_4 : Int) + 1)), val_9.1))) else (some (.nxt (s_3.1, s_3.2))))) else (some (.nxt (s_3.1, s_3.2)))))) : Option (Stp (Int × Int) (Option (Stp (Int × (List Event)) (Option ((List Event) × End × Bool))))))) [(ByteArray.mk #[111, 117, 116, 61]), (ByteArray.mk #[105, 110, 61])] (0, 0)).bind (oc (fun (s_3 : (Int × Int)) => (if (s_3.1 == 0) then (some (.ret (some ([], (End.mk 0 0), false)))) else ((appL 16 s_2.2 [(Event.mk s_3.1 s_3.2)]).bind fun l_10 => (some (.nxt ((I64 (s_2.1 + 1)), l_10)))))))) else (some (.brk (s_2.1, s_2.2)))) : Option (Stp (Int × (List Event)) (Option ((List Event) × End × Bool))))) fuel (0, [])).bind (oc (fun (s_2 : (Int × (List Event))) => ((getI spl_1 (I64 ((List.length spl_1 : Int) - 1))).bind fun y_11 => ((rng (fun (i_13 : Nat) (head_14 : ByteArray) (s_12 : Unit) => (((windlassref02_behind_s y_11 head_14).bind fun beh_16 => (if beh_16.2 then ((windlassref02_value_s fuel beh_16.1).bind fun val_17 => (if (!val_17.2) then (some (.ret (some ([], (End.mk 0 0), false)))) else (some (.ret (some (s_2.2, (End.mk (I64 ((i_13 : Int) + 1)) val_17.1), true)))))) else (some (.nxt ())))) : Option (Stp Unit (Option ((List Event) × End × Bool))))) [(ByteArray.mk #[101, 120, 105, 116, 61]), (ByteArray.mk #[112, 97, 110, 105, 99, 61])] ()).bind (oc (fun (s_12 : Unit) => ((rng (fun (i_19 : Nat) (name_20 : ByteArray) (s_18 : Unit) => ((if (ByteArray.toList y_11 == ByteArray.toList name_20) then (some (.ret (some (s_2.2, (End.mk (I64 ((i_19 : Int) + 3)) 0), true)))) else (some (.nxt ()))) : Option (Stp Unit (Option ((List Event) × End × Bool))))) [(ByteArray.mk #[102, 117, 101, 108]), (ByteArray.mk #[115, 116, 97, 99, 107]), (ByteArray.mk #[115, 116, 117, 99, 107])] ()).bind (oc (fun (s_18 : Unit) => (some ([], (End.mk 0 0), false)))))))))))))
theorem windlassref02_Read_ev {fuel : Nat} {s_00 : ByteArray} {r : ((List Event) × End × Bool)} (h : windlassref02_Read_s fuel s_00 = some r) : PureEv Tryd.prog 17 [(.str s_00)] (.tup [(.sl false 2 (List.map Event.av r.1)), (End.av r.2.1), (.bool r.2.2)]) := by
  unfold windlassref02_Read_s at h
  refine PureEv_end mixed fn17 (by simp) [3, 8, 69] 6 ?_
  unfold fc17
  refine E_sq ?_
  refine E_reg ?_
  refine E_mv (v' := .nils) rfl ?_
  refine E_op (v' := .ptr 0 0 0) (S' := [.arr 0 [(.int .i64 0), (.int .u64 0)]]) rfl rfl rfl ?_
  refine E_mv (v' := (.bool false)) rfl ?_
  refine E_nil ?_
  refine E_nx ?_
  refine E_sq ?_
  refine E_reg ?_
  refine E_mv (v' := (.str s_00)) rfl ?_
  obtain ⟨spl_1, hspl_1, h⟩ := bd_some h
  refine E_callW (windlassref02_Split_ev (fuel := fuel)  hspl_1) rfl ⟨(.refl _), (.refl _), trivial⟩ (blwL_of ⟨rfl, rfl, trivial⟩) (encS.blws 0) ?_
  refine E_mv (v' := (.sl false 1 (List.map avS spl_1))) rfl ?_
  refine E_nil ?_
  refine E_nx ?_
  refine E_sq ?_
  refine E_reg ?_
  refine E_mv (v' := .nils) rfl ?_
  refine E_nil ?_
  refine E_nx ?_
  refine E_as ?_
  refine E_sq ?_
  refine E_reg ?_
  refine E_mv (v' := (.int .i64 0)) rfl ?_
  refine E_nil ?_
  refine E_nx ?_
  refine E_sq ?_
  refine E_whileO (fun s_2 => [(3, (.ptr 0 0 0)), (5, (.sl false 1 (List.map avS spl_1))), (6, (.ref 1 1 0 (List.length s_2.2) (some 2))), (7, (.int .i64 s_2.1))]) (fun s_2 => [.arr 0 [(.int .i64 0), (.int .u64 0)], .arr 1 (flat Event.av s_2.2)]) h (wk_rn [some (0, 0), none] rfl (Nat.le_of_ble_eq_true rfl) ⟨(rn_ob rfl rfl (.cons (rn_b rfl) (.cons (rn_b rfl) (.nil (Nat.zero_le _)))) rfl), (rn_obN rfl rfl rfl), trivial⟩ ⟨(rn_ptr rfl rfl rfl rfl), (rn_b (encS.blws 0)), (rn_nil rfl), (rn_b rfl), trivial⟩) (fun s_2 c h => ?_) (fun s_2 fr' S' h hw => ?_)
  · refine E_as ?_
    refine E_sq ?_
    refine E_reg ?_
    refine E_mv (v' := (.int .i64 s_2.1)) rfl ?_
    refine E_mv (v' := (.sl false 1 (List.map avS spl_1))) rfl ?_
    refine E_len rfl ?_
    refine E_op0 (v' := (.int .i64 (I64 ((List.length spl_1 : Int) - 1)))) rfl rfl ?_
    refine E_op0 (v' := (.bool (decide (s_2.1 < (I64 ((List.length spl_1 : Int) - 1)))))) rfl rfl ?_
    refine E_nil ?_
    refine E_nx ?_
    refine E_sq ?_
    refine E_cs (t := (decide (s_2.1 < (I64 ((List.length spl_1 : Int) - 1))))) rfl (fun hb => ?_) (fun hb => ?_)
    · rw [ite_t hb] at h
      refine E_skip ?_
      refine E_nx ?_
      refine E_sq ?_
      refine E_block ?_
      refine E_sq ?_
      refine E_reg ?_
      refine E_opw (v' := (Event.av (Event.mk 0 0))) rfl (.aggL ⟨(.refl _), (.refl _), trivial⟩) rfl ?_
      refine E_op (v' := .ptr 2 0 0) (S' := [.arr 0 [(.int .i64 0), (.int .u64 0)], .arr 1 (flat Event.av s_2.2), .arr 0 [(.int .i64 0), (.int .u64 0)]]) rfl rfl rfl ?_
      refine E_do (S' := [.arr 0 [(.int .i64 0), (.int .u64 0)], .arr 1 (flat Event.av s_2.2), .arr 0 [(.int .i64 0), (.int .u64 0)]]) rfl rfl ?_
      refine E_nil ?_
      refine E_nx ?_
      refine E_as ?_
      refine E_sq ?_
      refine E_reg ?_
      refine E_opw (v' := (.sl true 1 (List.map avS [(ByteArray.mk #[111, 117, 116, 61]), (ByteArray.mk #[105, 110, 61])]))) rfl (.refl _) rfl ?_
      refine E_len rfl ?_
      refine E_mv (v' := (.int .i64 0)) rfl ?_
      refine E_nil ?_
      refine E_nx ?_
      refine E_sq ?_
      refine E_rngO (fun s_3 => [(3, (.ptr 0 0 0)), (5, (.sl false 1 (List.map avS spl_1))), (6, (.ref 1 1 0 (List.length s_2.2) (some 2))), (7, (.int .i64 s_2.1)), (8, (.ptr 2 0 0)), (34, (.sl true 1 (List.map avS [(ByteArray.mk #[111, 117, 116, 61]), (ByteArray.mk #[105, 110, 61])])))]) (fun s_3 => [.arr 0 [(.int .i64 0), (.int .u64 0)], .arr 1 (flat Event.av s_2.2), .arr 0 [(.int .i64 s_3.1), (.int .u64 s_3.2)]]) h (by decide) (by decide) (fun _ => ⟨rfl, rfl, rfl, rfl⟩) (wk_rn [some (0, 0), some (1, 0), some (2, 0)] rfl (Nat.le_of_ble_eq_true rfl) ⟨(rn_ob rfl rfl (.cons (rn_b rfl) (.cons (rn_b rfl) (.nil (Nat.zero_le _)))) rfl), (rn_ob rfl rfl (.refl (Event.enc.blwf 0 _)) rfl), (rn_ob rfl rfl (.cons (rn_b rfl) (.cons (rn_b rfl) (.nil (Nat.zero_le _)))) rfl), trivial⟩ ⟨(rn_b rfl), (rn_b rfl), (rn_ptr rfl rfl rfl rfl), (rn_b (encS.blws 0)), (rn_refL Event.enc rfl rfl rfl), (rn_b rfl), (rn_ptr rfl rfl rfl rfl), (rn_b (encS.blws 0)), trivial⟩) (fun i_4 head_5 s_3 c hx_6 hlt h => ?_) (fun s_3 fr' S' h hw => ?_)
      · refine E_sq ?_
        refine E_reg ?_
        refine E_mv (v' := (.int .i64 (i_4 : Int))) rfl ?_
        refine E_iadF rfl rfl (getI_of hx_6) ?_
        refine E_op0 (v' := (.str head_5)) rfl rfl ?_
        refine E_mv (v' := (.int .i64 (i_4 : Int))) rfl ?_
        refine E_mv (v' := (.str head_5)) rfl ?_
        refine E_nil ?_
        refine E_nx ?_
        refine E_sq ?_
        refine E_reg ?_
        refine E_mv (v' := (.sl false 1 (List.map avS spl_1))) rfl ?_
        refine E_mv (v' := (.int .i64 s_2.1)) rfl ?_
        obtain ⟨y_7, hy_7, h⟩ := bd_some h
        refine E_iadF rfl rfl hy_7 ?_
        refine E_op0 (v' := (.str y_7)) rfl rfl ?_
        refine E_mv (v' := (.str head_5)) rfl ?_
        obtain ⟨beh_8, hbeh_8, h⟩ := bd_some h
        refine E_callW (windlassref02_behind_ev  hbeh_8) rfl ⟨(.refl _), (.refl _), trivial⟩ (blwL_of ⟨rfl, rfl, trivial⟩) (tup_blw ⟨rfl, rfl, trivial⟩) ?_
        refine E_mv (v' := (.tup [(.str beh_8.1), (.bool beh_8.2)])) rfl ?_
        refine E_op0 (v' := (.str beh_8.1)) rfl rfl ?_
        refine E_op0 (v' := (.bool beh_8.2)) rfl rfl ?_
        refine E_mv (v' := (.str beh_8.1)) rfl ?_
        refine E_mv (v' := (.bool beh_8.2)) rfl ?_
        refine E_nil ?_
        refine E_nx ?_
        refine E_sq ?_
        refine E_reg ?_
        refine E_mv (v' := (.bool beh_8.2)) rfl ?_
        refine E_nil ?_
        refine E_nx ?_
        refine E_cs (t := beh_8.2) rfl (fun hb => ?_) (fun hb => ?_)
        · rw [ite_t hb] at h
          refine E_sq ?_
          refine E_reg ?_
          refine E_mv (v' := (.str beh_8.1)) rfl ?_
          obtain ⟨val_9, hval_9, h⟩ := bd_some h
          refine E_callW (windlassref02_value_ev (fuel := fuel)  hval_9) rfl ⟨(.refl _), trivial⟩ (blwL_of ⟨rfl, trivial⟩) (tup_blw ⟨rfl, rfl, trivial⟩) ?_
          refine E_mv (v' := (.tup [(.int .u64 val_9.1), (.bool val_9.2)])) rfl ?_
          refine E_op0 (v' := (.int .u64 val_9.1)) rfl rfl ?_
          refine E_op0 (v' := (.bool val_9.2)) rfl rfl ?_
          refine E_mv (v' := (.int .u64 val_9.1)) rfl ?_
          refine E_mv (v' := (.bool val_9.2)) rfl ?_
          refine E_nil ?_
          refine E_nx ?_
          refine E_sq ?_
          refine E_reg ?_
          refine E_mv (v' := (.bool val_9.2)) rfl ?_
          refine E_nil ?_
          refine E_nx ?_
          refine E_cs (t := val_9.2) rfl (fun hb => ?_) (fun hb => ?_)
          · rw [ite_t hb] at h
            refine E_reg ?_
            refine E_mv (v' := (.int .i64 (i_4 : Int))) rfl ?_
            refine E_op0 (v' := (.int .i64 (I64 ((i_4 : Int) + 1)))) rfl rfl ?_
            refine E_mv (v' := (.int .u64 val_9.1)) rfl ?_
            refine E_opw (v' := (Event.av (Event.mk (I64 ((i_4 : Int) + 1)) val_9.1))) rfl (.aggL ⟨(.refl _), (.refl _), trivial⟩) rfl ?_
            refine E_do (S' := [.arr 0 [(.int .i64 0), (.int .u64 0)], .arr 1 (flat Event.av s_2.2), .arr 0 [(.int .i64 (I64 ((i_4 : Int) + 1))), (.int .u64 val_9.1)]]) rfl rfl ?_
            refine E_nil ?_
            cases h
            exact L_nn rfl (wk_rn [some (0, 0), some (1, 0), some (2, 0)] rfl (Nat.le_of_ble_eq_true rfl) ⟨(rn_ob rfl rfl (.cons (rn_b rfl) (.cons (rn_b rfl) (.nil (Nat.zero_le _)))) rfl), (rn_ob rfl rfl (.refl (Event.enc.blwf 0 _)) rfl), (rn_ob rfl rfl (.cons (rn_b rfl) (.cons (rn_b rfl) (.nil (Nat.zero_le _)))) rfl), trivial⟩ ⟨(rn_b rfl), (rn_b rfl), (rn_ptr rfl rfl rfl rfl), (rn_b (encS.blws 0)), (rn_refL Event.enc rfl rfl rfl), (rn_b rfl), (rn_ptr rfl rfl rfl rfl), (rn_b (encS.blws 0)), trivial⟩)
          · rw [ite_f hb] at h
            refine E_skip ?_
            cases h
            exact L_nn rfl (wk_rn [some (0, 0), some (1, 0), some (2, 0)] rfl (Nat.le_of_ble_eq_true rfl) ⟨(rn_ob rfl rfl (.cons (rn_b rfl) (.cons (rn_b rfl) (.nil (Nat.zero_le _)))) rfl), (rn_ob rfl rfl (.refl (Event.enc.blwf 0 _)) rfl), (rn_ob rfl rfl (.cons (rn_b rfl) (.cons (rn_b rfl) (.nil (Nat.zero_le _)))) rfl), trivial⟩ ⟨(rn_b rfl), (rn_b rfl), (rn_ptr rfl rfl rfl rfl), (rn_b (encS.blws 0)), (rn_refL Event.enc rfl rfl rfl), (rn_b rfl), (rn_ptr rfl rfl rfl rfl), (rn_b (encS.blws 0)), trivial⟩)
        · rw [ite_f hb] at h
          refine E_skip ?_
          cases h
          exact L_nn rfl (wk_rn [some (0, 0), some (1, 0), some (2, 0)] rfl (Nat.le_of_ble_eq_true rfl) ⟨(rn_ob rfl rfl (.cons (rn_b rfl) (.cons (rn_b rfl) (.nil (Nat.zero_le _)))) rfl), (rn_ob rfl rfl (.refl (Event.enc.blwf 0 _)) rfl), (rn_ob rfl rfl (.cons (rn_b rfl) (.cons (rn_b rfl) (.nil (Nat.zero_le _)))) rfl), trivial⟩ ⟨(rn_b rfl), (rn_b rfl), (rn_ptr rfl rfl rfl rfl), (rn_b (encS.blws 0)), (rn_refL Event.enc rfl rfl rfl), (rn_b rfl), (rn_ptr rfl rfl rfl rfl), (rn_b (encS.blws 0)), trivial⟩)
      · refine X_nx hw ?_
        refine E_as ?_
        refine E_sq ?_
        refine E_reg ?_
        refine E_op0 (v' := (.ptr 2 0 0)) rfl rfl ?_
        refine E_op (v' := (.int .i64 s_3.1)) (S' := [.arr 0 [(.int .i64 0), (.int .u64 0)], .arr 1 (flat Event.av s_2.2), .arr 0 [(.int .i64 s_3.1), (.int .u64 s_3.2)]]) rfl rfl rfl ?_
        refine E_op0 (v' := (.bool (s_3.1 == 0))) rfl rfl ?_
        refine E_nil ?_
        refine E_nx ?_
        refine E_sq ?_
        refine E_cs (t := (s_3.1 == 0)) rfl (fun hb => ?_) (fun hb => ?_)
        · rw [ite_t hb] at h
          refine E_sq ?_
          refine E_reg ?_
          refine E_opw (v' := (End.av (End.mk 0 0))) rfl (.aggL ⟨(.refl _), (.refl _), trivial⟩) rfl ?_
          refine E_mv (v' := .nils) rfl ?_
          refine E_do (S' := [.arr 0 [(.int .i64 0), (.int .u64 0)], .arr 1 (flat Event.av s_2.2), .arr 0 [(.int .i64 s_3.1), (.int .u64 s_3.2)]]) rfl rfl ?_
          refine E_mv (v' := (.bool false)) rfl ?_
          refine E_nil ?_
          refine E_nx ?_
          refine E_ret ?_
          refine E_thr ?_
          refine E_blr ?_
          refine E_thr ?_
          cases h
          refine L_rrO rfl (fun h => ?_)
          refine E_thr ?_
          cases h
          exact ⟨trivial, _, rfl, (fz_tup ⟨(fz_b rfl .nil), (fz_agg ⟨(fz_b rfl (.refl _)), (fz_b rfl (.refl _)), trivial⟩), (fz_b rfl (.refl _)), trivial⟩)⟩
        · rw [ite_f hb] at h
          refine E_skip ?_
          refine E_nx ?_
          refine E_reg ?_
          refine E_mv (v' := (.ref 1 1 0 (List.length s_2.2) (some 2))) rfl ?_
          refine E_opw (v' := (Event.av (Event.mk s_3.1 s_3.2))) rfl (.aggL ⟨(.refl _), (.refl _), trivial⟩) rfl ?_
          refine E_opw (v' := (.sl true 2 (List.map Event.av [(Event.mk s_3.1 s_3.2)]))) rfl (.refl _) rfl ?_
          obtain ⟨l_10, hl_10, h⟩ := bd_some h
          refine E_apL (S' := [.arr 0 [(.int .i64 0), (.int .u64 0)], .arr 2 (flat Event.av l_10), .arr 0 [(.int .i64 s_3.1), (.int .u64 s_3.2)]]) Event.enc rfl (src_sl [(Event.mk s_3.1 s_3.2)]) rfl hl_10 rfl ?_
          refine E_mv (v' := (.ref 1 2 0 (List.length l_10) (some 2))) rfl ?_
          refine E_nil ?_
          refine E_bln ?_
          refine E_nx ?_
          refine E_reg ?_
          refine E_mv (v' := (.int .i64 s_2.1)) rfl ?_
          refine E_op0 (v' := (.int .i64 (I64 (s_2.1 + 1)))) rfl rfl ?_
          refine E_mv (v' := (.int .i64 (I64 (s_2.1 + 1)))) rfl ?_
          refine E_nil ?_
          cases h
          exact L_nn rfl (wk_rn [some (0, 0), some (1, 0)] rfl (Nat.le_of_ble_eq_true rfl) ⟨(rn_ob rfl rfl (.cons (rn_b rfl) (.cons (rn_b rfl) (.nil (Nat.zero_le _)))) rfl), (rn_ob rfl rfl (.refl (Event.enc.blwf 0 _)) rfl), trivial⟩ ⟨(rn_ptr rfl rfl rfl rfl), (rn_b (encS.blws 0)), (rn_refL Event.enc rfl rfl rfl), (rn_b rfl), trivial⟩)
    · rw [ite_f hb] at h
      refine E_exit ?_
      refine E_the ?_
      cases h
      exact L_bk rfl rfl rfl (wk_rn [some (0, 0), some (1, 0)] rfl (Nat.le_of_ble_eq_true rfl) ⟨(rn_ob rfl rfl (.cons (rn_b rfl) (.cons (rn_b rfl) (.nil (Nat.zero_le _)))) rfl), (rn_ob rfl rfl (.refl (Event.enc.blwf 0 _)) rfl), trivial⟩ ⟨(rn_ptr rfl rfl rfl rfl), (rn_b (encS.blws 0)), (rn_refL Event.enc rfl rfl rfl), (rn_b rfl), trivial⟩)
  · refine X_nx hw ?_
    refine E_sq ?_
    refine E_reg ?_
    refine E_mv (v' := (.sl false 1 (List.map avS spl_1))) rfl ?_
    refine E_mv (v' := (.sl false 1 (List.map avS spl_1))) rfl ?_
    refine E_len rfl ?_
    refine E_op0 (v' := (.int .i64 (I64 ((List.length spl_1 : Int) - 1)))) rfl rfl ?_
    obtain ⟨y_11, hy_11, h⟩ := bd_some h
    refine E_iadF rfl rfl hy_11 ?_
    refine E_op0 (v' := (.str y_11)) rfl rfl ?_
    refine E_mv (v' := (.str y_11)) rfl ?_
    refine E_nil ?_
    refine E_nx ?_
    refine E_as ?_
    refine E_sq ?_
    refine E_reg ?_
    refine E_opw (v' := (.sl true 1 (List.map avS [(ByteArray.mk #[101, 120, 105, 116, 61]), (ByteArray.mk #[112, 97, 110, 105, 99, 61])]))) rfl (.refl _) rfl ?_
    refine E_len rfl ?_
    refine E_mv (v' := (.int .i64 0)) rfl ?_
    refine E_nil ?_
    refine E_nx ?_
    refine E_sq ?_
    refine E_rngO (fun s_12 => [(3, (.ptr 0 0 0)), (6, (.ref 1 1 0 (List.length s_2.2) (some 2))), (15, (.str y_11)), (76, (.sl true 1 (List.map avS [(ByteArray.mk #[101, 120, 105, 116, 61]), (ByteArray.mk #[112, 97, 110, 105, 99, 61])])))]) (fun s_12 => [.arr 0 [(.int .i64 0), (.int .u64 0)], .arr 1 (flat Event.av s_2.2)]) h (by decide) (by decide) (fun _ => ⟨rfl, rfl, rfl, rfl⟩) (wk_rn [some (0, 0), some (1, 0)] rfl (Nat.le_of_ble_eq_true rfl) ⟨(rn_ob rfl rfl (.cons (rn_b rfl) (.cons (rn_b rfl) (.nil (Nat.zero_le _)))) rfl), (rn_ob rfl rfl (.refl (Event.enc.blwf 0 _)) rfl), trivial⟩ ⟨(rn_b rfl), (rn_b rfl), (rn_ptr rfl rfl rfl rfl), (rn_refL Event.enc rfl rfl rfl), (rn_b rfl), (rn_b (encS.blws 0)), trivial⟩) (fun i_13 head_14 s_12 c hx_15 hlt h => ?_) (fun s_12 fr' S' h hw => ?_)
    · refine E_sq ?_
      refine E_reg ?_
      refine E_mv (v' := (.int .i64 (i_13 : Int))) rfl ?_
      refine E_iadF rfl rfl (getI_of hx_15) ?_
      refine E_op0 (v' := (.str head_14)) rfl rfl ?_
      refine E_mv (v' := (.int .i64 (i_13 : Int))) rfl ?_
      refine E_mv (v' := (.str head_14)) rfl ?_
      refine E_nil ?_
      refine E_nx ?_
      refine E_sq ?_
      refine E_reg ?_
      refine E_mv (v' := (.str y_11)) rfl ?_
      refine E_mv (v' := (.str head_14)) rfl ?_
      obtain ⟨beh_16, hbeh_16, h⟩ := bd_some h
      refine E_callW (windlassref02_behind_ev  hbeh_16) rfl ⟨(.refl _), (.refl _), trivial⟩ (blwL_of ⟨rfl, rfl, trivial⟩) (tup_blw ⟨rfl, rfl, trivial⟩) ?_
      refine E_mv (v' := (.tup [(.str beh_16.1), (.bool beh_16.2)])) rfl ?_
      refine E_op0 (v' := (.str beh_16.1)) rfl rfl ?_
      refine E_op0 (v' := (.bool beh_16.2)) rfl rfl ?_
      refine E_mv (v' := (.str beh_16.1)) rfl ?_
      refine E_mv (v' := (.bool beh_16.2)) rfl ?_
      refine E_nil ?_
      refine E_nx ?_
      refine E_sq ?_
      refine E_reg ?_
      refine E_mv (v' := (.bool beh_16.2)) rfl ?_
      refine E_nil ?_
      refine E_nx ?_
      refine E_cs (t := beh_16.2) rfl (fun hb => ?_) (fun hb => ?_)
      · rw [ite_t hb] at h
        refine E_sq ?_
        refine E_reg ?_
        refine E_mv (v' := (.str beh_16.1)) rfl ?_
        obtain ⟨val_17, hval_17, h⟩ := bd_some h
        refine E_callW (windlassref02_value_ev (fuel := fuel)  hval_17) rfl ⟨(.refl _), trivial⟩ (blwL_of ⟨rfl, trivial⟩) (tup_blw ⟨rfl, rfl, trivial⟩) ?_
        refine E_mv (v' := (.tup [(.int .u64 val_17.1), (.bool val_17.2)])) rfl ?_
        refine E_op0 (v' := (.int .u64 val_17.1)) rfl rfl ?_
        refine E_op0 (v' := (.bool val_17.2)) rfl rfl ?_
        refine E_mv (v' := (.int .u64 val_17.1)) rfl ?_
        refine E_mv (v' := (.bool val_17.2)) rfl ?_
        refine E_nil ?_
        refine E_nx ?_
        refine E_as ?_
        refine E_sq ?_
        refine E_reg ?_
        refine E_mv (v' := (.bool val_17.2)) rfl ?_
        refine E_op0 (v' := (.bool (!val_17.2))) rfl rfl ?_
        refine E_nil ?_
        refine E_nx ?_
        refine E_sq ?_
        refine E_cs (t := (!val_17.2)) rfl (fun hb => ?_) (fun hb => ?_)
        · rw [ite_t hb] at h
          refine E_sq ?_
          refine E_reg ?_
          refine E_opw (v' := (End.av (End.mk 0 0))) rfl (.aggL ⟨(.refl _), (.refl _), trivial⟩) rfl ?_
          refine E_mv (v' := .nils) rfl ?_
          refine E_do (S' := [.arr 0 [(.int .i64 0), (.int .u64 0)], .arr 1 (flat Event.av s_2.2)]) rfl rfl ?_
          refine E_mv (v' := (.bool false)) rfl ?_
          refine E_nil ?_
          refine E_nx ?_
          refine E_ret ?_
          refine E_thr ?_
          cases h
          refine L_rrO rfl (fun h => ?_)
          refine E_thr ?_
          cases h
          exact ⟨trivial, _, rfl, (fz_tup ⟨(fz_b rfl .nil), (fz_agg ⟨(fz_b rfl (.refl _)), (fz_b rfl (.refl _)), trivial⟩), (fz_b rfl (.refl _)), trivial⟩)⟩
        · rw [ite_f hb] at h
          refine E_skip ?_
          refine E_nx ?_
          refine E_sq ?_
          refine E_reg ?_
          refine E_mv (v' := (.ref 1 1 0 (List.length s_2.2) (some 2))) rfl ?_
          refine E_mv (v' := (.int .i64 (i_13 : Int))) rfl ?_
          refine E_op0 (v' := (.int .i64 (I64 ((i_13 : Int) + 1)))) rfl rfl ?_
          refine E_mv (v' := (.int .u64 val_17.1)) rfl ?_
          refine E_opw (v' := (End.av (End.mk (I64 ((i_13 : Int) + 1)) val_17.1))) rfl (.aggL ⟨(.refl _), (.refl _), trivial⟩) rfl ?_
          refine E_mv (v' := (.ref 1 1 0 (List.length s_2.2) (some 2))) rfl ?_
          refine E_do (S' := [.arr 0 [(.int .i64 (I64 ((i_13 : Int) + 1))), (.int .u64 val_17.1)], .arr 1 (flat Event.av s_2.2)]) rfl rfl ?_
          refine E_mv (v' := (.bool true)) rfl ?_
          refine E_nil ?_
          refine E_nx ?_
          refine E_ret ?_
          cases h
          refine L_rrO rfl (fun h => ?_)
          refine E_thr ?_
          cases h
          exact ⟨trivial, _, rfl, (fz_tup ⟨(fz_ref Event.enc (Nat.zero_le _) rfl), (fz_agg ⟨(fz_b rfl (.refl _)), (fz_b rfl (.refl _)), trivial⟩), (fz_b rfl (.refl _)), trivial⟩)⟩
      · rw [ite_f hb] at h
        refine E_skip ?_
        cases h
        exact L_nn rfl (wk_rn [some (0, 0), some (1, 0)] rfl (Nat.le_of_ble_eq_true rfl) ⟨(rn_ob rfl rfl (.cons (rn_b rfl) (.cons (rn_b rfl) (.nil (Nat.zero_le _)))) rfl), (rn_ob rfl rfl (.refl (Event.enc.blwf 0 _)) rfl), trivial⟩ ⟨(rn_b rfl), (rn_b rfl), (rn_ptr rfl rfl rfl rfl), (rn_refL Event.enc rfl rfl rfl), (rn_b rfl), (rn_b (encS.blws 0)), trivial⟩)
    · refine X_nx hw ?_
      refine E_as ?_
      refine E_sq ?_
      refine E_reg ?_
      refine E_opw (v := (.sl true 1 (List.map avS [(ByteArray.mk #[102, 117, 101, 108]), (ByteArray.mk #[115, 116, 97, 99, 107]), (ByteArray.mk #[115, 116, 117, 99, 107])]))) (v' := (.sl true 1 (List.map avS [(ByteArray.mk #[102, 117, 101, 108]), (ByteArray.mk #[115, 116, 97, 99, 107]), (ByteArray.mk #[115, 116, 117, 99, 107])]))) (rd := []) (δ := none) (by kernel_rfl) (.refl _) rfl ?_
      refine E_len rfl ?_
      refine E_mv (v' := (.int .i64 0)) rfl ?_
      refine E_nil ?_
      refine E_nx ?_
      refine E_sq ?_
      refine E_rngO (fun s_18 => [(3, (.ptr 0 0 0)), (6, (.ref 1 1 0 (List.length s_2.2) (some 2))), (15, (.str y_11)), (104, (.sl true 1 (List.map avS [(ByteArray.mk #[102, 117, 101, 108]), (ByteArray.mk #[115, 116, 97, 99, 107]), (ByteArray.mk #[115, 116, 117, 99, 107])])))]) (fun s_18 => [.arr 0 [(.int .i64 0), (.int .u64 0)], .arr 1 (flat Event.av s_2.2)]) h (by decide) (by decide) (fun _ => ⟨rfl, rfl, rfl, rfl⟩) (wk_rn [some (0, 0), some (1, 0)] rfl (Nat.le_of_ble_eq_true rfl) ⟨(rn_ob rfl rfl (.cons (rn_b rfl) (.cons (rn_b rfl) (.nil (Nat.zero_le _)))) rfl), (rn_ob rfl rfl (.refl (Event.enc.blwf 0 _)) rfl), trivial⟩ ⟨(rn_b rfl), (rn_b rfl), (rn_ptr rfl rfl rfl rfl), (rn_refL Event.enc rfl rfl rfl), (rn_b rfl), (rn_b (encS.blws 0)), trivial⟩) (fun i_19 name_20 s_18 c hx_21 hlt h => ?_) (fun s_18 fr' S' h hw => ?_)
      · refine E_sq ?_
        refine E_reg ?_
        refine E_mv (v' := (.int .i64 (i_19 : Int))) rfl ?_
        refine E_iadF rfl rfl (getI_of hx_21) ?_
        refine E_op0 (v' := (.str name_20)) rfl rfl ?_
        refine E_mv (v' := (.int .i64 (i_19 : Int))) rfl ?_
        refine E_mv (v' := (.str name_20)) rfl ?_
        refine E_nil ?_
        refine E_nx ?_
        refine E_sq ?_
        refine E_reg ?_
        refine E_mv (v' := (.str y_11)) rfl ?_
        refine E_mv (v' := (.str name_20)) rfl ?_
        refine E_op0 (v' := (.bool (ByteArray.toList y_11 == ByteArray.toList name_20))) rfl rfl ?_
        refine E_nil ?_
        refine E_nx ?_
        refine E_cs (t := (ByteArray.toList y_11 == ByteArray.toList name_20)) rfl (fun hb => ?_) (fun hb => ?_)
        · rw [ite_t hb] at h
          refine E_sq ?_
          refine E_reg ?_
          refine E_mv (v' := (.ref 1 1 0 (List.length s_2.2) (some 2))) rfl ?_
          refine E_mv (v' := (.int .i64 (i_19 : Int))) rfl ?_
          refine E_op0 (v' := (.int .i64 (I64 ((i_19 : Int) + 3)))) rfl rfl ?_
          refine E_opw (v' := (End.av (End.mk (I64 ((i_19 : Int) + 3)) 0))) rfl (.aggL ⟨(.refl _), (.refl _), trivial⟩) rfl ?_
          refine E_mv (v' := (.ref 1 1 0 (List.length s_2.2) (some 2))) rfl ?_
          refine E_do (S' := [.arr 0 [(.int .i64 (I64 ((i_19 : Int) + 3))), (.int .u64 0)], .arr 1 (flat Event.av s_2.2)]) rfl rfl ?_
          refine E_mv (v' := (.bool true)) rfl ?_
          refine E_nil ?_
          refine E_nx ?_
          refine E_ret ?_
          cases h
          refine L_rrO rfl (fun h => ?_)
          refine E_thr ?_
          cases h
          exact ⟨trivial, _, rfl, (fz_tup ⟨(fz_ref Event.enc (Nat.zero_le _) rfl), (fz_agg ⟨(fz_b rfl (.refl _)), (fz_b rfl (.refl _)), trivial⟩), (fz_b rfl (.refl _)), trivial⟩)⟩
        · rw [ite_f hb] at h
          refine E_skip ?_
          cases h
          exact L_nn rfl (wk_rn [some (0, 0), some (1, 0)] rfl (Nat.le_of_ble_eq_true rfl) ⟨(rn_ob rfl rfl (.cons (rn_b rfl) (.cons (rn_b rfl) (.nil (Nat.zero_le _)))) rfl), (rn_ob rfl rfl (.refl (Event.enc.blwf 0 _)) rfl), trivial⟩ ⟨(rn_b rfl), (rn_b rfl), (rn_ptr rfl rfl rfl rfl), (rn_refL Event.enc rfl rfl rfl), (rn_b rfl), (rn_b (encS.blws 0)), trivial⟩)
      · refine X_nx hw ?_
        refine E_sq ?_
        refine E_reg ?_
        refine E_opw (v' := (End.av (End.mk 0 0))) rfl (.aggL ⟨(.refl _), (.refl _), trivial⟩) rfl ?_
        refine E_mv (v' := .nils) rfl ?_
        refine E_do (S' := [.arr 0 [(.int .i64 0), (.int .u64 0)], .arr 1 (flat Event.av s_2.2)]) rfl rfl ?_
        refine E_mv (v' := (.bool false)) rfl ?_
        refine E_nil ?_
        refine E_nx ?_
        refine E_ret ?_
        cases h
        exact ⟨trivial, _, rfl, (fz_tup ⟨(fz_b rfl .nil), (fz_agg ⟨(fz_b rfl (.refl _)), (fz_b rfl (.refl _)), trivial⟩), (fz_b rfl (.refl _)), trivial⟩)⟩
/- windlass/windlassref02.Begins -/
def fc52 : FC := (.seq (.reg [⟨(some 4), none, .op (.mv (.v (.bool false)))⟩] [])
  (.seq (.seq (.reg [⟨(some 6), none, .op (.mv (.t 0))⟩,
  ⟨(some 7), none, .op (.len .sl (.t 6))⟩,
  ⟨(some 8), none, .op (.mv (.t 1))⟩,
  ⟨(some 9), none, .op (.len .sl (.t 8))⟩,
  ⟨(some 10), none, .op (.bin .none .gtr (.t 7) (.t 9))⟩] [])
  (.cond (.t 10)
  (.seq (.reg [⟨(some 4), none, .op (.mv (.v (.bool false)))⟩] [])
  .ret)
  .skip))
  (.seq (.seq (.reg [⟨(some 11), none, .op (.mv (.t 0))⟩,
  ⟨(some 12), none, .op (.len .sl (.t 11))⟩,
  ⟨(some 13), none, .op (.mv (.v (.int .i64 0)))⟩] [])
  (.block 0 (.loop (.seq (.reg [⟨(some 14), none, .op (.bin .none .lss (.t 13) (.t 12))⟩] [])
  (.seq (.cond (.t 14)
  .skip
  (.exit 0))
  (.seq (.block 1 (.seq (.reg [⟨(some 15), none, .op (.mv (.t 13))⟩,
  ⟨(some 5), none, .op (.mv (.t 15))⟩] [])
  (.seq (.reg [⟨(some 16), none, .op (.mv (.t 0))⟩,
  ⟨(some 17), none, .op (.mv (.t 5))⟩,
  ⟨(some 18), none, .op (.iad none (some 2) (.t 16) (.t 17))⟩,
  ⟨(some 19), none, .op (.load (some 2) (.t 18))⟩,
  ⟨(some 20), none, .op (.mv (.t 1))⟩,
  ⟨(some 21), none, .op (.mv (.t 5))⟩,
  ⟨(some 22), none, .op (.iad none (some 2) (.t 20) (.t 21))⟩,
  ⟨(some 23), none, .op (.load (some 2) (.t 22))⟩,
  ⟨(some 24), none, .op (.eqs [.int, .int] .neq (.t 19) (.t 23))⟩] [])
  (.cond (.t 24)
  (.seq (.reg [⟨(some 4), none, .op (.mv (.v (.bool false)))⟩] [])
  .ret)
  .skip))))
  (.reg [⟨(some 25), none, .op (.bin .none .add (.t 13) (.v (.int .i64 1)))⟩,
  ⟨(some 13), none, .op (.mv (.t 25))⟩] [])))))))
  (.seq (.reg [⟨(some 4), none, .op (.mv (.v (.bool true)))⟩] [])
  .ret))))
theorem fn52 : Fn3 Tryd.prog 52 26 [(4, none)] fc52 := ⟨_, _, Tryd.func52, rfl, rfl, rfl, by kernel_rfl⟩
def windlassref02_Begins_s (a_00 : (List Event)) (b_01 : (List Event)) : Option Bool :=
  (if (decide ((List.length a_00 : Int) > (List.length b_01 : Int))) then (some false) else ((rni (fun (i_2 : Nat) (s_1 : (List Event)) => (((getI a_00 (i_2 : Int)).bind fun y_3 => ((getI s_1 (i_2 : Int)).bind fun y_4 => (if (!((y_3.Kind == y_4.Kind) && ((y_3.Value == y_4.Value) && true))) then (some (.ret (some false))) else (some (.nxt s_1))))) : Option (Stp (List Event) (Option Bool)))) (List.length a_00 : Int) b_01).bind (oc (fun (s_1 : (List Event)) => (some true)))))
theorem windlassref02_Begins_ev {a_00 : (List Event)} {b_01 : (List Event)} {r : Bool} (h : windlassref02_Begins_s a_00 b_01 = some r) : PureEv Tryd.prog 52 [(.sl false 2 (List.map Event.av a_00)), (.sl false 2 (List.map Event.av b_01))] (.bool r) := by
  unfold windlassref02_Begins_s at h
  refine PureEv_end mixed fn52 (by simp) [] 6 ?_
  unfold fc52
  refine E_sq ?_
  refine E_reg ?_
  refine E_mv (v' := (.bool false)) rfl ?_
  refine E_nil ?_
  refine E_nx ?_
  refine E_as ?_
  refine E_sq ?_
  refine E_reg ?_
  refine E_mv (v' := (.sl false 2 (List.map Event.av a_00))) rfl ?_
  refine E_len rfl ?_
  refine E_mv (v' := (.sl false 2 (List.map Event.av b_01))) rfl ?_
  refine E_len rfl ?_
  refine E_op0 (v' := (.bool (decide ((List.length a_00 : Int) > (List.length b_01 : Int))))) rfl rfl ?_
  refine E_nil ?_
  refine E_nx ?_
  refine E_sq ?_
  refine E_cs (t := (decide ((List.length a_00 : Int) > (List.length b_01 : Int)))) rfl (fun hb => ?_) (fun hb => ?_)
  · rw [ite_t hb] at h
    refine E_sq ?_
    refine E_reg ?_
    refine E_mv (v' := (.bool false)) rfl ?_
    refine E_nil ?_
    refine E_nx ?_
    refine E_ret ?_
    refine E_thr ?_
    cases h
    exact ⟨trivial, _, rfl, (fz_b rfl (.refl _))⟩
  · rw [ite_f hb] at h
    refine E_skip ?_
    refine E_nx ?_
    refine E_as ?_
    refine E_sq ?_
    refine E_reg ?_
    refine E_mv (v' := (.sl false 2 (List.map Event.av a_00))) rfl ?_
    refine E_len rfl ?_
    refine E_mv (v' := (.int .i64 0)) rfl ?_
    refine E_nil ?_
    refine E_nx ?_
    refine E_sq ?_
    refine E_rniO (fun s_1 => [(0, (.sl false 2 (List.map Event.av a_00))), (1, (.sl false 2 (List.map Event.av s_1)))]) (fun s_1 => []) h (by decide) (by decide) (fun _ => ⟨rfl, rfl, rfl, rfl⟩) (wk_aw ⟨(.refl _), (.refl _), (.refl _), (.refl _), trivial⟩) (fun i_2 s_1 c hlt h => ?_) (fun s_1 fr' S' h hw => ?_)
    · refine E_sq ?_
      refine E_reg ?_
      refine E_mv (v' := (.int .i64 (i_2 : Int))) rfl ?_
      refine E_mv (v' := (.int .i64 (i_2 : Int))) rfl ?_
      refine E_nil ?_
      refine E_nx ?_
      refine E_sq ?_
      refine E_reg ?_
      refine E_mv (v' := (.sl false 2 (List.map Event.av a_00))) rfl ?_
      refine E_mv (v' := (.int .i64 (i_2 : Int))) rfl ?_
      obtain ⟨y_3, hy_3, h⟩ := bd_some h
      refine E_iadF rfl rfl hy_3 ?_
      refine E_op0 (v' := (Event.av y_3)) rfl rfl ?_
      refine E_mv (v' := (.sl false 2 (List.map Event.av s_1))) rfl ?_
      refine E_mv (v' := (.int .i64 (i_2 : Int))) rfl ?_
      obtain ⟨y_4, hy_4, h⟩ := bd_some h
      refine E_iadF rfl rfl hy_4 ?_
      refine E_op0 (v' := (Event.av y_4)) rfl rfl ?_
      refine E_op0 (v' := (.bool (!((y_3.Kind == y_4.Kind) && ((y_3.Value == y_4.Value) && true))))) rfl rfl ?_
      refine E_nil ?_
      refine E_nx ?_
      refine E_cs (t := (!((y_3.Kind == y_4.Kind) && ((y_3.Value == y_4.Value) && true)))) rfl (fun hb => ?_) (fun hb => ?_)
      · rw [ite_t hb] at h
        refine E_sq ?_
        refine E_reg ?_
        refine E_mv (v' := (.bool false)) rfl ?_
        refine E_nil ?_
        refine E_nx ?_
        refine E_ret ?_
        cases h
        refine L_rrO rfl (fun h => ?_)
        refine E_thr ?_
        cases h
        exact ⟨trivial, _, rfl, (fz_b rfl (.refl _))⟩
      · rw [ite_f hb] at h
        refine E_skip ?_
        cases h
        exact L_nn rfl (wk_aw ⟨(.refl _), (.refl _), (.refl _), (.refl _), trivial⟩)
    · refine X_nx hw ?_
      refine E_sq ?_
      refine E_reg ?_
      refine E_mv (v' := (.bool true)) rfl ?_
      refine E_nil ?_
      refine E_nx ?_
      refine E_ret ?_
      cases h
      exact ⟨trivial, _, rfl, (fz_b rfl (.refl _))⟩
/- windlass/windlassref02.Same -/
def fc18 : FC := (.seq (.reg [⟨(some 4), none, .op (.mv (.v (.bool false)))⟩] [])
  (.seq (.reg [⟨(some 5), none, .op (.mv (.t 0))⟩,
  ⟨(some 6), none, .op (.len .sl (.t 5))⟩,
  ⟨(some 7), none, .op (.mv (.t 1))⟩,
  ⟨(some 8), none, .op (.len .sl (.t 7))⟩,
  ⟨(some 9), none, .op (.bin .none .eql (.t 6) (.t 8))⟩,
  ⟨(some 10), none, .op (.mv (.t 9))⟩,
  ⟨(some 11), some (10, true), .op (.mv (.t 0))⟩,
  ⟨(some 12), some (10, true), .op (.mv (.t 1))⟩,
  ⟨(some 13), some (10, true), .call 52 [(.t 11), (.t 12)]⟩,
  ⟨(some 14), none, .op (.pick (.t 10) (.t 13) (.v (.bool false)))⟩,
  ⟨(some 4), none, .op (.mv (.t 14))⟩] [])
  .ret))
theorem fn18 : Fn3 Tryd.prog 18 15 [(4, none)] fc18 := ⟨_, _, Tryd.func18, rfl, rfl, rfl, by kernel_rfl⟩
def windlassref02_Same_s (a_00 : (List Event)) (b_01 : (List Event)) : Option Bool :=
  (jp (fun (s_2 : Bool) => (some s_2)) (fun k_1 => (if ((List.length a_00 : Int) == (List.length b_01 : Int)) then ((windlassref02_Begins_s a_00 b_01).bind fun beg_3 => (k_1 beg_3)) else (k_1 false))))
theorem windlassref02_Same_ev {a_00 : (List Event)} {b_01 : (List Event)} {r : Bool} (h : windlassref02_Same_s a_00 b_01 = some r) : PureEv Tryd.prog 18 [(.sl false 2 (List.map Event.av a_00)), (.sl false 2 (List.map Event.av b_01))] (.bool r) := by
  unfold windlassref02_Same_s at h
  refine PureEv_end mixed fn18 (by simp) [] 6 ?_
  unfold fc18
  refine E_sq ?_
  refine E_reg ?_
  refine E_mv (v' := (.bool false)) rfl ?_
  refine E_nil ?_
  refine E_nx ?_
  refine E_jp h (fun s_2 => [(4, (.bool s_2))]) (fun s_2 => []) (fun k_1 h => ?_) (fun s_2 h => ?_)
  · refine E_reg ?_
    refine E_mv (v' := (.sl false 2 (List.map Event.av a_00))) rfl ?_
    refine E_len rfl ?_
    refine E_mv (v' := (.sl false 2 (List.map Event.av b_01))) rfl ?_
    refine E_len rfl ?_
    refine E_op0 (v' := (.bool ((List.length a_00 : Int) == (List.length b_01 : Int)))) rfl rfl ?_
    refine E_mv (v' := (.bool ((List.length a_00 : Int) == (List.length b_01 : Int)))) rfl ?_
    refine E_gsT (b := ((List.length a_00 : Int) == (List.length b_01 : Int))) rfl rfl rfl (fun hb => ?_) (fun hb => ?_)
    · rw [ite_t hb] at h
      refine E_mv (v' := (.sl false 2 (List.map Event.av a_00))) rfl ?_
      refine E_gh rfl ?_
      refine E_mv (v' := (.sl false 2 (List.map Event.av b_01))) rfl ?_
      refine E_gh rfl ?_
      obtain ⟨beg_3, hbeg_3, h⟩ := bd_some h
      refine E_callW (windlassref02_Begins_ev  hbeg_3) rfl ⟨(.refl _), (.refl _), trivial⟩ (blwL_of ⟨(Event.enc.blws 0), (Event.enc.blws 0), trivial⟩) rfl ?_
      refine E_pt rfl rfl ?_
      refine E_mv (v' := (.bool beg_3)) rfl ?_
      refine E_nil ?_
      exact E_jx _ h (wk_aw ⟨(.refl _), trivial⟩)
    · rw [ite_f hb] at h
      refine E_gm rfl ?_
      refine E_gm rfl ?_
      refine E_pf rfl rfl ?_
      refine E_mv (v' := (.bool false)) rfl ?_
      refine E_nil ?_
      exact E_jx _ h (wk_aw ⟨(.refl _), trivial⟩)
  · refine E_ret ?_
    cases h
    exact ⟨trivial, _, rfl, (fz_b rfl (.refl _))⟩
/- windlass/windlasslaw02.TraceTexts -/
def fc3 : FC := (.seq (.reg [⟨(some 4), none, .op (.box (.t 1))⟩,
  ⟨(some 6), none, .op (.mv (.v (.bool false)))⟩] [])
  (.seq (.seq (.reg [⟨(some 16), none, .call 13 []⟩,
  ⟨(some 17), none, .op (.un .not (.t 16))⟩] [])
  (.cond (.t 17)
  (.seq (.reg [⟨(some 6), none, .op (.mv (.v (.bool false)))⟩] [])
  .ret)
  .skip))
  (.seq (.reg [⟨(some 18), none, .op (.mv (.t 0))⟩,
  ⟨(some 19), none, .op (.load (some 2) (.t 4))⟩,
  ⟨(some 20), none, .call 14 [(.t 18), (.t 19)]⟩,
  ⟨(some 7), none, .op (.mv (.t 20))⟩] [])
  (.seq (.seq (.reg [⟨(some 21), none, .op (.mv (.t 7))⟩,
  ⟨(some 22), none, .op (.mv (.t 0))⟩,
  ⟨(some 23), none, .op (.load (some 2) (.t 4))⟩,
  ⟨(some 24), none, .call 15 [(.t 22), (.t 23)]⟩,
  ⟨(some 25), none, .op (.bin .none .neq (.t 21) (.t 24))⟩] [])
  (.cond (.t 25)
  (.seq (.reg [⟨(some 6), none, .op (.mv (.v (.bool false)))⟩] [])
  .ret)
  .skip))
  (.seq (.seq (.reg [⟨(some 26), none, .op (.mv (.t 7))⟩,
  ⟨(some 27), none, .op (.mv (.t 2))⟩,
  ⟨(some 28), none, .op (.bsl none [(.str (ByteArray.mk #[]))] 2 [(0, 1, (.t 26)), (1, 1, (.t 27))])⟩,
  ⟨(some 29), none, .op (.len .sl (.t 28))⟩,
  ⟨(some 30), none, .op (.mv (.v (.int .i64 0)))⟩] [])
  (.block 0 (.loop (.seq (.reg [⟨(some 31), none, .op (.bin .none .lss (.t 30) (.t 29))⟩] [])
  (.seq (.cond (.t 31)
  .skip
  (.exit 0))
  (.seq (.block 1 (.seq (.reg [⟨(some 32), none, .op (.iad none none (.t 28) (.t 30))⟩,
  ⟨(some 33), none, .op (.load none (.t 32))⟩,
  ⟨(some 9), none, .op (.mv (.t 33))⟩] [])
  (.seq (.reg [⟨(some 35), none, .op (.mv (.t 9))⟩,
  ⟨(some 36), none, .call 16 [(.t 35)]⟩,
  ⟨(some 34), none, .op (.mv (.t 36))⟩,
  ⟨(some 37), none, .op (.ext 0 (.t 34))⟩,
  ⟨(some 38), none, .op (.ext 1 (.t 34))⟩,
  ⟨(some 39), none, .op (.ext 2 (.t 34))⟩,
  ⟨(some 11), none, .op (.new [(.int .i64 0), (.int .u64 0)])⟩,
  ⟨(some 10), none, .op (.mv (.t 37))⟩,
  ⟨none, none, .op (.store 2 (.t 11) (.t 38))⟩,
  ⟨(some 12), none, .op (.mv (.t 39))⟩] [])
  (.seq (.reg [⟨(some 41), none, .op (.mv (.t 9))⟩,
  ⟨(some 42), none, .call 17 [(.t 41)]⟩,
  ⟨(some 40), none, .op (.mv (.t 42))⟩,
  ⟨(some 43), none, .op (.ext 0 (.t 40))⟩,
  ⟨(some 44), none, .op (.ext 1 (.t 40))⟩,
  ⟨(some 45), none, .op (.ext 2 (.t 40))⟩,
  ⟨(some 14), none, .op (.new [(.int .i64 0), (.int .u64 0)])⟩,
  ⟨(some 13), none, .op (.mv (.t 43))⟩,
  ⟨none, none, .op (.store 2 (.t 14) (.t 44))⟩,
  ⟨(some 15), none, .op (.mv (.t 45))⟩] [])
  (.seq (.seq (.reg [⟨(some 46), none, .op (.mv (.t 10))⟩,
  ⟨(some 47), none, .op (.mv (.t 13))⟩,
  ⟨(some 48), none, .call 18 [(.t 46), (.t 47)]⟩,
  ⟨(some 49), none, .op (.un .not (.t 48))⟩,
  ⟨(some 50), none, .op (.mv (.t 49))⟩,
  ⟨(some 51), some (50, false), .op (.load (some 2) (.t 11))⟩,
  ⟨(some 52), some (50, false), .op (.load (some 2) (.t 14))⟩,
  ⟨(some 53), some (50, false), .op (.eqs [.int, .int] .neq (.t 51) (.t 52))⟩,
  ⟨(some 54), none, .op (.pick (.t 50) (.v (.bool true)) (.t 53))⟩,
  ⟨(some 55), none, .op (.mv (.t 54))⟩,
  ⟨(some 56), some (55, false), .op (.mv (.t 15))⟩,
  ⟨(some 57), some (55, false), .op (.mv (.t 12))⟩,
  ⟨(some 58), some (55, false), .op (.bin .none .eql (.t 57) (.v (.int .i64 0)))⟩,
  ⟨(some 59), some (55, false), .op (.bin .bool .neq (.t 56) (.t 58))⟩,
  ⟨(some 60), none, .op (.pick (.t 55) (.v (.bool true)) (.t 59))⟩,
  ⟨(some 61), none, .op (.mv (.t 60))⟩,
  ⟨(some 62), some (61, false), .op (.mv (.t 15))⟩,
  ⟨(some 63), some (61, false), .op (.un .not (.t 62))⟩,
  ⟨(some 64), some (61, false), .op (.mv (.t 63))⟩,
  ⟨(some 65), some (64, true), .op (.mv (.t 12))⟩,
  ⟨(some 66), some (64, true), .op (.bin .none .neq (.t 65) (.v (.int .i64 30)))⟩,
  ⟨(some 67), some (61, false), .op (.pick (.t 64) (.t 66) (.v (.bool false)))⟩,
  ⟨(some 68), none, .op (.pick (.t 61) (.v (.bool true)) (.t 67))⟩] [])
  (.cond (.t 68)
  (.seq (.reg [⟨(some 6), none, .op (.mv (.v (.bool false)))⟩] [])
  .ret)
  .skip))
  (.seq (.reg [⟨(some 69), none, .op (.mv (.t 15))⟩,
  ⟨(some 70), none, .op (.mv (.t 69))⟩,
  ⟨(some 71), some (70, true), .op (.mv (.t 10))⟩,
  ⟨(some 72), some (70, true), .op (.load (some 2) (.t 11))⟩,
  ⟨(some 73), some (70, true), .call 14 [(.t 71), (.t 72)]⟩,
  ⟨(some 74), some (70, true), .op (.mv (.t 9))⟩,
  ⟨(some 75), some (70, true), .op (.bin .none .neq (.t 73) (.t 74))⟩,
  ⟨(some 76), none, .op (.pick (.t 70) (.t 75) (.v (.bool false)))⟩] [])
  (.cond (.t 76)
  (.seq (.reg [⟨(some 6), none, .op (.mv (.v (.bool false)))⟩] [])
  .ret)
  .skip)))))))
  (.reg [⟨(some 77), none, .op (.bin .none .add (.t 30) (.v (.int .i64 1)))⟩,
  ⟨(some 30), none, .op (.mv (.t 77))⟩] [])))))))
  (.seq (.reg [⟨(some 6), none, .op (.mv (.v (.bool true)))⟩] [])
  .ret))))))
theorem fn3 : Fn3 Tryd.prog 3 78 [(6, none)] fc3 := ⟨_, _, Tryd.func3, rfl, rfl, rfl, by kernel_rfl⟩
def windlasslaw02_TraceTexts_s (fuel : Nat) (l_00 : (List Event)) (e_01 : End) (text_02 : ByteArray) : Option Bool :=
  (windlasslaw02_first_s.bind fun fir_1 => (if (!fir_1) then (some false) else ((trace_Print_s l_00 e_01).bind fun pri_2 => ((windlassref02_Text_s fuel l_00 e_01).bind fun tex_3 => (if (!(ByteArray.toList pri_2 == ByteArray.toList tex_3)) then (some false) else ((rng (fun (i_5 : Nat) (x_6 : ByteArray) (s_4 : Unit) => (((trace_Parse_s fuel x_6).bind fun par_8 => ((windlassref02_Read_s fuel x_6).bind fun rea_9 => (jp (fun (s_11 : Bool) => (if s_11 then (some (.ret (some false))) else (jp (fun (s_14 : Bool) => (if s_14 then (some (.ret (some false))) else (some (.nxt ())))) (fun k_13 => (if rea_9.2.2 then ((trace_Print_s par_8.1 par_8.2.1).bind fun pri_15 => (k_13 (!(ByteArray.toList pri_15 == ByteArray.toList x_6)))) else (k_13 false)))))) (fun k_10 => ((windlassref02_Same_s par_8.1 rea_9.1).bind fun sam_12 => (if (!sam_12) then (k_10 true) else (if (!((par_8.2.1.Kind == rea_9.2.1.Kind) && ((par_8.2.1.Value == rea_9.2.1.Value) && true))) then (k_10 true) else (if (!(rea_9.2.2 == (par_8.2.2 == 0))) then (k_10 true) else (if (!rea_9.2.2) then (k_10 (par_8.2.2 != 30)) else (k_10 false)))))))))) : Option (Stp Unit (Option Bool)))) [pri_2, text_02] ()).bind (oc (fun (s_4 : Unit) => (some true)))))))))
theorem windlasslaw02_TraceTexts_ev {fuel : Nat} {l_00 : (List Event)} {e_01 : End} {text_02 : ByteArray} {r : Bool} (h : windlasslaw02_TraceTexts_s fuel l_00 e_01 text_02 = some r) : PureEv Tryd.prog 3 [(.sl false 2 (List.map Event.av l_00)), (End.av e_01), (.str text_02)] (.bool r) := by
  unfold windlasslaw02_TraceTexts_s at h
  refine PureEv_end mixed fn3 (by simp) [11, 14] 6 ?_
  unfold fc3
  refine E_sq ?_
  refine E_reg ?_
  refine E_op0 (v' := (.cptr (End.av e_01).cells 0)) rfl rfl ?_
  refine E_mv (v' := (.bool false)) rfl ?_
  refine E_nil ?_
  refine E_nx ?_
  refine E_as ?_
  refine E_sq ?_
  refine E_reg ?_
  obtain ⟨fir_1, hfir_1, h⟩ := bd_some h
  refine E_callW (windlasslaw02_first_ev  hfir_1) rfl trivial (blwL_of trivial) rfl ?_
  refine E_op0 (v' := (.bool (!fir_1))) rfl rfl ?_
  refine E_nil ?_
  refine E_nx ?_
  refine E_sq ?_
  refine E_cs (t := (!fir_1)) rfl (fun hb => ?_) (fun hb => ?_)
  · rw [ite_t hb] at h
    refine E_sq ?_
    refine E_reg ?_
    refine E_mv (v' := (.bool false)) rfl ?_
    refine E_nil ?_
    refine E_nx ?_
    refine E_ret ?_
    refine E_thr ?_
    cases h
    exact ⟨trivial, _, rfl, (fz_b rfl (.refl _))⟩
  · rw [ite_f hb] at h
    refine E_skip ?_
    refine E_nx ?_
    refine E_sq ?_
    refine E_reg ?_
    refine E_mv (v' := (.sl false 2 (List.map Event.av l_00))) rfl ?_
    refine E_op0 (v' := (End.av e_01)) rfl rfl ?_
    obtain ⟨pri_2, hpri_2, h⟩ := bd_some h
    refine E_callW (trace_Print_ev  hpri_2) rfl ⟨(.refl _), (.refl _), trivial⟩ (blwL_of ⟨(Event.enc.blws 0), (End.enc.blw _ 0), trivial⟩) rfl ?_
    refine E_mv (v' := (.str pri_2)) rfl ?_
    refine E_nil ?_
    refine E_nx ?_
    refine E_as ?_
    refine E_sq ?_
    refine E_reg ?_
    refine E_mv (v' := (.str pri_2)) rfl ?_
    refine E_mv (v' := (.sl false 2 (List.map Event.av l_00))) rfl ?_
    refine E_op0 (v' := (End.av e_01)) rfl rfl ?_
    obtain ⟨tex_3, htex_3, h⟩ := bd_some h
    refine E_callW (windlassref02_Text_ev (fuel := fuel)  htex_3) rfl ⟨(.refl _), (.refl _), trivial⟩ (blwL_of ⟨(Event.enc.blws 0), (End.enc.blw _ 0), trivial⟩) rfl ?_
    refine E_op0 (v' := (.bool (!(ByteArray.toList pri_2 == ByteArray.toList tex_3)))) rfl rfl ?_
    refine E_nil ?_
    refine E_nx ?_
    refine E_sq ?_
    refine E_cs (t := (!(ByteArray.toList pri_2 == ByteArray.toList tex_3))) rfl (fun hb => ?_) (fun hb => ?_)
    · rw [ite_t hb] at h
      refine E_sq ?_
      refine E_reg ?_
      refine E_mv (v' := (.bool false)) rfl ?_
      refine E_nil ?_
      refine E_nx ?_
      refine E_ret ?_
      refine E_thr ?_
      cases h
      exact ⟨trivial, _, rfl, (fz_b rfl (.refl _))⟩
    · rw [ite_f hb] at h
      refine E_skip ?_
      refine E_nx ?_
      refine E_as ?_
      refine E_sq ?_
      refine E_reg ?_
      refine E_mv (v' := (.str pri_2)) rfl ?_
      refine E_mv (v' := (.str text_02)) rfl ?_
      refine E_opw (v' := (.sl true 1 (List.map avS [pri_2, text_02]))) rfl (.refl _) rfl ?_
      refine E_len rfl ?_
      refine E_mv (v' := (.int .i64 0)) rfl ?_
      refine E_nil ?_
      refine E_nx ?_
      refine E_sq ?_
      refine E_rngO (fun s_4 => [(28, (.sl true 1 (List.map avS [pri_2, text_02])))]) (fun s_4 => []) h (by decide) (by decide) (fun _ => ⟨rfl, rfl, rfl, rfl⟩) (wk_aw ⟨(.refl _), (.refl _), (.refl _), trivial⟩) (fun i_5 x_6 s_4 c hx_7 hlt h => ?_) (fun s_4 fr' S' h hw => ?_)
      · refine E_sq ?_
        refine E_reg ?_
        refine E_iadF rfl rfl (getI_of hx_7) ?_
        refine E_op0 (v' := (.str x_6)) rfl rfl ?_
        refine E_mv (v' := (.str x_6)) rfl ?_
        refine E_nil ?_
        refine E_nx ?_
        refine E_sq ?_
        refine E_reg ?_
        refine E_mv (v' := (.str x_6)) rfl ?_
        obtain ⟨par_8, hpar_8, h⟩ := bd_some h
        refine E_callW (trace_Parse_ev (fuel := fuel)  hpar_8) rfl ⟨(.refl _), trivial⟩ (blwL_of ⟨rfl, trivial⟩) (tup_blw ⟨(Event.enc.blws 0), (End.enc.blw _ 0), rfl, trivial⟩) ?_
        refine E_mv (v' := (.tup [(.sl false 2 (List.map Event.av par_8.1)), (End.av par_8.2.1), (.int .i64 par_8.2.2)])) rfl ?_
        refine E_op0 (v' := (.sl false 2 (List.map Event.av par_8.1))) rfl rfl ?_
        refine E_op0 (v' := (End.av par_8.2.1)) rfl rfl ?_
        refine E_op0 (v' := (.int .i64 par_8.2.2)) rfl rfl ?_
        refine E_op (v' := .ptr 0 0 0) (S' := [.arr 0 [(.int .i64 0), (.int .u64 0)]]) rfl rfl rfl ?_
        refine E_mv (v' := (.sl false 2 (List.map Event.av par_8.1))) rfl ?_
        refine E_do (S' := [.arr 0 [(.int .i64 par_8.2.1.Kind), (.int .u64 par_8.2.1.Value)]]) rfl rfl ?_
        refine E_mv (v' := (.int .i64 par_8.2.2)) rfl ?_
        refine E_nil ?_
        refine E_nx ?_
        refine E_sq ?_
        refine E_reg ?_
        refine E_mv (v' := (.str x_6)) rfl ?_
        obtain ⟨rea_9, hrea_9, h⟩ := bd_some h
        refine E_callW (windlassref02_Read_ev (fuel := fuel)  hrea_9) rfl ⟨(.refl _), trivial⟩ (blwL_of ⟨rfl, trivial⟩) (tup_blw ⟨(Event.enc.blws 0), (End.enc.blw _ 0), rfl, trivial⟩) ?_
        refine E_mv (v' := (.tup [(.sl false 2 (List.map Event.av rea_9.1)), (End.av rea_9.2.1), (.bool rea_9.2.2)])) rfl ?_
        refine E_op0 (v' := (.sl false 2 (List.map Event.av rea_9.1))) rfl rfl ?_
        refine E_op0 (v' := (End.av rea_9.2.1)) rfl rfl ?_
        refine E_op0 (v' := (.bool rea_9.2.2)) rfl rfl ?_
        refine E_op (v' := .ptr 1 0 0) (S' := [.arr 0 [(.int .i64 par_8.2.1.Kind), (.int .u64 par_8.2.1.Value)], .arr 0 [(.int .i64 0), (.int .u64 0)]]) rfl rfl rfl ?_
        refine E_mv (v' := (.sl false 2 (List.map Event.av rea_9.1))) rfl ?_
        refine E_do (S' := [.arr 0 [(.int .i64 par_8.2.1.Kind), (.int .u64 par_8.2.1.Value)], .arr 0 [(.int .i64 rea_9.2.1.Kind), (.int .u64 rea_9.2.1.Value)]]) rfl rfl ?_
        refine E_mv (v' := (.bool rea_9.2.2)) rfl ?_
        refine E_nil ?_
        refine E_nx ?_
        refine E_as ?_
        refine E_jp h (fun s_11 => [(9, (.str x_6)), (10, (.sl false 2 (List.map Event.av par_8.1))), (11, (.ptr 0 0 0)), (15, (.bool rea_9.2.2)), (28, (.sl true 1 (List.map avS [pri_2, text_02]))), (29, (.int .i64 (List.length [pri_2, text_02] : Int))), (30, (.int .i64 (i_5 : Int))), (68, (.bool s_11))]) (fun s_11 => [.arr 0 [(.int .i64 par_8.2.1.Kind), (.int .u64 par_8.2.1.Value)]]) (fun k_10 h => ?_) (fun s_11 h => ?_)
        · refine E_reg ?_
          refine E_mv (v' := (.sl false 2 (List.map Event.av par_8.1))) rfl ?_
          refine E_mv (v' := (.sl false 2 (List.map Event.av rea_9.1))) rfl ?_
          obtain ⟨sam_12, hsam_12, h⟩ := bd_some h
          refine E_callW (windlassref02_Same_ev  hsam_12) rfl ⟨(.refl _), (.refl _), trivial⟩ (blwL_of ⟨(Event.enc.blws 0), (Event.enc.blws 0), trivial⟩) rfl ?_
          refine E_op0 (v' := (.bool (!sam_12))) rfl rfl ?_
          refine E_mv (v' := (.bool (!sam_12))) rfl ?_
          refine E_gsT (b := (!sam_12)) rfl rfl rfl (fun hb => ?_) (fun hb => ?_)
          · rw [ite_f hb] at h
            refine E_opw (v' := (End.av par_8.2.1)) rfl (.aggL ⟨(.refl _), (.refl _), trivial⟩) rfl ?_
            refine E_gh rfl ?_
            refine E_opw (v' := (End.av rea_9.2.1)) rfl (.aggL ⟨(.refl _), (.refl _), trivial⟩) rfl ?_
            refine E_gh rfl ?_
            refine E_op0 (v' := (.bool (!((par_8.2.1.Kind == rea_9.2.1.Kind) && ((par_8.2.1.Value == rea_9.2.1.Value) && true))))) rfl rfl ?_
            refine E_pf rfl rfl ?_
            refine E_mv (v' := (.bool (!((par_8.2.1.Kind == rea_9.2.1.Kind) && ((par_8.2.1.Value == rea_9.2.1.Value) && true))))) rfl ?_
            refine E_gsT (b := (!((par_8.2.1.Kind == rea_9.2.1.Kind) && ((par_8.2.1.Value == rea_9.2.1.Value) && true)))) rfl rfl rfl (fun hb => ?_) (fun hb => ?_)
            · rw [ite_f hb] at h
              refine E_mv (v' := (.bool rea_9.2.2)) rfl ?_
              refine E_gh rfl ?_
              refine E_mv (v' := (.int .i64 par_8.2.2)) rfl ?_
              refine E_gh rfl ?_
              refine E_op0 (v' := (.bool (par_8.2.2 == 0))) rfl rfl ?_
              refine E_gh rfl ?_
              refine E_op0 (v' := (.bool (!(rea_9.2.2 == (par_8.2.2 == 0))))) rfl rfl ?_
              refine E_pf rfl rfl ?_
              refine E_mv (v' := (.bool (!(rea_9.2.2 == (par_8.2.2 == 0))))) rfl ?_
              refine E_gsT (b := (!(rea_9.2.2 == (par_8.2.2 == 0)))) rfl rfl rfl (fun hb => ?_) (fun hb => ?_)
              · rw [ite_f hb] at h
                refine E_mv (v' := (.bool rea_9.2.2)) rfl ?_
                refine E_gh rfl ?_
                refine E_op0 (v' := (.bool (!rea_9.2.2))) rfl rfl ?_
                refine E_gh rfl ?_
                refine E_mv (v' := (.bool (!rea_9.2.2))) rfl ?_
                refine E_gsT (b := (!rea_9.2.2)) rfl rfl rfl (fun hb => ?_) (fun hb => ?_)
                · rw [ite_t hb] at h
                  refine E_mv (v' := (.int .i64 par_8.2.2)) rfl ?_
                  refine E_gh rfl ?_
                  refine E_op0 (v' := (.bool (par_8.2.2 != 30))) rfl rfl ?_
                  refine E_gh rfl ?_
                  refine E_pt rfl rfl ?_
                  refine E_pf rfl rfl ?_
                  refine E_nil ?_
                  exact E_jx _ h (wk_rn [some (0, 0)] rfl (Nat.le_of_ble_eq_true rfl) ⟨(rn_ob rfl rfl (.cons (rn_b rfl) (.cons (rn_b rfl) (.nil (Nat.zero_le _)))) rfl), trivial⟩ ⟨(rn_b rfl), (rn_b (Event.enc.blws 0)), (rn_ptr rfl rfl rfl rfl), (rn_b rfl), (rn_b (encS.blws 0)), (rn_b rfl), (rn_b rfl), (rn_b rfl), trivial⟩)
                · rw [ite_f hb] at h
                  refine E_gm rfl ?_
                  refine E_gh rfl ?_
                  refine E_pf rfl rfl ?_
                  refine E_pf rfl rfl ?_
                  refine E_nil ?_
                  exact E_jx _ h (wk_rn [some (0, 0)] rfl (Nat.le_of_ble_eq_true rfl) ⟨(rn_ob rfl rfl (.cons (rn_b rfl) (.cons (rn_b rfl) (.nil (Nat.zero_le _)))) rfl), trivial⟩ ⟨(rn_b rfl), (rn_b (Event.enc.blws 0)), (rn_ptr rfl rfl rfl rfl), (rn_b rfl), (rn_b (encS.blws 0)), (rn_b rfl), (rn_b rfl), (rn_b rfl), trivial⟩)
              · rw [ite_t hb] at h
                refine E_gm rfl ?_
                refine E_gm rfl ?_
                refine E_gz rfl ?_
                refine E_gz rfl ?_
                refine E_gm rfl ?_
                refine E_pt rfl rfl ?_
                refine E_nil ?_
                exact E_jx _ h (wk_rn [some (0, 0)] rfl (Nat.le_of_ble_eq_true rfl) ⟨(rn_ob rfl rfl (.cons (rn_b rfl) (.cons (rn_b rfl) (.nil (Nat.zero_le _)))) rfl), trivial⟩ ⟨(rn_b rfl), (rn_b (Event.enc.blws 0)), (rn_ptr rfl rfl rfl rfl), (rn_b rfl), (rn_b (encS.blws 0)), (rn_b rfl), (rn_b rfl), (rn_b rfl), trivial⟩)
            · rw [ite_t hb] at h
              refine E_gm rfl ?_
              refine E_gm rfl ?_
              refine E_gm rfl ?_
              refine E_pt rfl rfl ?_
              refine E_mv (v' := (.bool true)) rfl ?_
              refine E_gm rfl ?_
              refine E_gm rfl ?_
              refine E_gm rfl ?_
              refine E_gz rfl ?_
              refine E_gz rfl ?_
              refine E_gm rfl ?_
              refine E_pt rfl rfl ?_
              refine E_nil ?_
              exact E_jx _ h (wk_rn [some (0, 0)] rfl (Nat.le_of_ble_eq_true rfl) ⟨(rn_ob rfl rfl (.cons (rn_b rfl) (.cons (rn_b rfl) (.nil (Nat.zero_le _)))) rfl), trivial⟩ ⟨(rn_b rfl), (rn_b (Event.enc.blws 0)), (rn_ptr rfl rfl rfl rfl), (rn_b rfl), (rn_b (encS.blws 0)), (rn_b rfl), (rn_b rfl), (rn_b rfl), trivial⟩)
          · rw [ite_t hb] at h
            refine E_gm rfl ?_
            refine E_gm rfl ?_
            refine E_pt rfl rfl ?_
            refine E_mv (v' := (.bool true)) rfl ?_
            refine E_gm rfl ?_
            refine E_gm rfl ?_
            refine E_gm rfl ?_
            refine E_gm rfl ?_
            refine E_pt rfl rfl ?_
            refine E_mv (v' := (.bool true)) rfl ?_
            refine E_gm rfl ?_
            refine E_gm rfl ?_
            refine E_gm rfl ?_
            refine E_gz rfl ?_
            refine E_gz rfl ?_
            refine E_gm rfl ?_
            refine E_pt rfl rfl ?_
            refine E_nil ?_
            exact E_jx _ h (wk_rn [some (0, 0)] rfl (Nat.le_of_ble_eq_true rfl) ⟨(rn_ob rfl rfl (.cons (rn_b rfl) (.cons (rn_b rfl) (.nil (Nat.zero_le _)))) rfl), trivial⟩ ⟨(rn_b rfl), (rn_b (Event.enc.blws 0)), (rn_ptr rfl rfl rfl rfl), (rn_b rfl), (rn_b (encS.blws 0)), (rn_b rfl), (rn_b rfl), (rn_b rfl), trivial⟩)
        · refine E_sq ?_
          refine E_cs (t := s_11) rfl (fun hb => ?_) (fun hb => ?_)
          · rw [ite_t hb] at h
            refine E_sq ?_
            refine E_reg ?_
            refine E_mv (v' := (.bool false)) rfl ?_
            refine E_nil ?_
            refine E_nx ?_
            refine E_ret ?_
            refine E_thr ?_
            cases h
            refine L_rrO rfl (fun h => ?_)
            refine E_thr ?_
            cases h
            exact ⟨trivial, _, rfl, (fz_b rfl (.refl _))⟩
          · rw [ite_f hb] at h
            refine E_skip ?_
            refine E_nx ?_
            refine E_jp h (fun s_14 => [(28, (.sl true 1 (List.map avS [pri_2, text_02]))), (29, (.int .i64 (List.length [pri_2, text_02] : Int))), (30, (.int .i64 (i_5 : Int))), (76, (.bool s_14))]) (fun s_14 => []) (fun k_13 h => ?_) (fun s_14 h => ?_)
            · refine E_reg ?_
              refine E_mv (v' := (.bool rea_9.2.2)) rfl ?_
              refine E_mv (v' := (.bool rea_9.2.2)) rfl ?_
              refine E_gsT (b := rea_9.2.2) rfl rfl rfl (fun hb => ?_) (fun hb => ?_)
              · rw [ite_t hb] at h
                refine E_mv (v' := (.sl false 2 (List.map Event.av par_8.1))) rfl ?_
                refine E_gh rfl ?_
                refine E_opw (v' := (End.av par_8.2.1)) rfl (.aggL ⟨(.refl _), (.refl _), trivial⟩) rfl ?_
                refine E_gh rfl ?_
                obtain ⟨pri_15, hpri_15, h⟩ := bd_some h
                refine E_callW (trace_Print_ev  hpri_15) rfl ⟨(.refl _), (.refl _), trivial⟩ (blwL_of ⟨(Event.enc.blws 0), (End.enc.blw _ 0), trivial⟩) rfl ?_
                refine E_gh rfl ?_
                refine E_mv (v' := (.str x_6)) rfl ?_
                refine E_gh rfl ?_
                refine E_op0 (v' := (.bool (!(ByteArray.toList pri_15 == ByteArray.toList x_6)))) rfl rfl ?_
                refine E_pt rfl rfl ?_
                refine E_nil ?_
                exact E_jx _ h (wk_rn [] rfl (Nat.le_of_ble_eq_true rfl) trivial ⟨(rn_b (encS.blws 0)), (rn_b rfl), (rn_b rfl), (rn_b rfl), trivial⟩)
              · rw [ite_f hb] at h
                refine E_gm rfl ?_
                refine E_gm rfl ?_
                refine E_gm rfl ?_
                refine E_gm rfl ?_
                refine E_pf rfl rfl ?_
                refine E_nil ?_
                exact E_jx _ h (wk_rn [] rfl (Nat.le_of_ble_eq_true rfl) trivial ⟨(rn_b (encS.blws 0)), (rn_b rfl), (rn_b rfl), (rn_b rfl), trivial⟩)
            · refine E_cs (t := s_14) rfl (fun hb => ?_) (fun hb => ?_)
              · rw [ite_t hb] at h
                refine E_sq ?_
                refine E_reg ?_
                refine E_mv (v' := (.bool false)) rfl ?_
                refine E_nil ?_
                refine E_nx ?_
                refine E_ret ?_
                cases h
                refine L_rrO rfl (fun h => ?_)
                refine E_thr ?_
                cases h
                exact ⟨trivial, _, rfl, (fz_b rfl (.refl _))⟩
              · rw [ite_f hb] at h
                refine E_skip ?_
                cases h
                exact L_nn rfl (wk_aw ⟨(.refl _), (.refl _), (.refl _), trivial⟩)
      · refine X_nx hw ?_
        refine E_sq ?_
        refine E_reg ?_
        refine E_mv (v' := (.bool true)) rfl ?_
        refine E_nil ?_
        refine E_nx ?_
        refine E_ret ?_
        cases h
        exact ⟨trivial, _, rfl, (fz_b rfl (.refl _))⟩
end Go.Proofs.YtkfhljombjmdbaaDoor
