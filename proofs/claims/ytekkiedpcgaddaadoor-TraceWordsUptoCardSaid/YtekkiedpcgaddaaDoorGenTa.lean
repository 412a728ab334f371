/- What the functions compute, and that they do (printed by wip/gen/gen.py), part 1. -/
import Derived.Test.YtekkiedpcgaddaaDoorWlP2
import Derived.Test.YtekkiedpcgaddaaDoorRows
import Derived.Test.YtekkiedpcgaddaaDoorWlT2
namespace Go.Proofs.YtekkiedpcgaddaaDoor
open Go Go.Ab
set_option maxRecDepth 20000
set_option maxHeartbeats 2000000
set_option linter.unusedVariables false
set_option linter.unusedSimpArgs false
theorem mixed : Tryd.prog.follows .mixedOrders = true := Tryd.checked.mixed
structure Event where
  Kind : Int
  Value : Int
def Event.cells (x : Event) : List AV := [(.int .i64 x.Kind), (.int .u64 x.Value)]
def Event.av (x : Event) : AV := .agg (Event.cells x)
theorem Event.enc : Enc Event.av (some 2) := ⟨fun _ => rfl, fun _ => rfl, fun _ => rfl, fun x n => blwL_of ⟨((encI .i64).blw x.Kind n), ((encI .u64).blw x.Value n), trivial⟩⟩
structure End where
  Kind : Int
  Value : Int
def End.cells (x : End) : List AV := [(.int .i64 x.Kind), (.int .u64 x.Value)]
def End.av (x : End) : AV := .agg (End.cells x)
theorem End.enc : Enc End.av (some 2) := ⟨fun _ => rfl, fun _ => rfl, fun _ => rfl, fun x n => blwL_of ⟨((encI .i64).blw x.Kind n), ((encI .u64).blw x.Value n), trivial⟩⟩
structure St45 where
  e0 : Int
  e1 : Int
def St45.cells (x : St45) : List AV := [(.int .i64 x.e0), (.int .i64 x.e1)]
def St45.av (x : St45) : AV := .agg (St45.cells x)
theorem St45.enc : Enc St45.av (some 2) := ⟨fun _ => rfl, fun _ => rfl, fun _ => rfl, fun x n => blwL_of ⟨((encI .i64).blw x.e0 n), ((encI .i64).blw x.e1 n), trivial⟩⟩
/- slices.Clone[[]uint64,uint64] -/
def fc33 : FC := (.seq (.reg [⟨(some 2), none, .op (.mv (.v .nils))⟩] [])
  (.seq (.seq (.reg [⟨(some 3), none, .op (.mv (.t 0))⟩,
  ⟨(some 4), none, .op (.bin .flat .eql (.t 3) (.v .nils))⟩] [])
  (.cond (.t 4)
  (.seq (.reg [⟨(some 2), none, .op (.mv (.v .nils))⟩] [])
  .ret)
  .skip))
  (.seq (.reg [⟨(some 5), none, .op (.bsl none [(.int .u64 0)] 0 [])⟩,
  ⟨(some 6), none, .op (.mv (.t 0))⟩,
  ⟨(some 7), none, .op (.app none 8 (.t 5) (.t 6))⟩,
  ⟨(some 2), none, .op (.mv (.t 7))⟩] [])
  .ret)))
theorem fn33 : Fn3 Tryd.prog 33 8 [(2, none)] fc33 := ⟨_, _, Tryd.func33, rfl, rfl, rfl, by kernel_rfl⟩
def slices_Clone_0_z_s (s_00 : List Int) : Option (List Int) :=
  ((appL 8 [] s_00).bind fun l_1 => (some l_1))
theorem slices_Clone_0_z_ev {s_00 : List Int} {r : List Int} (h : slices_Clone_0_z_s s_00 = some r) : PureEv Tryd.prog 33 [.sl false 1 (List.map (avI .u64) s_00)] (.sl false 1 (List.map (avI .u64) r)) := by
  unfold slices_Clone_0_z_s at h
  obtain ⟨l_1, hl_1, h2⟩ := bd_some h
  clear h
  refine PureEv_sl (fun hx => ?_) (fun hx => ?_) (fun hx => ?_)
  · obtain rfl : s_00 = [] := by simpa using hx
    have e : l_1 = [] := by unfold appL at hl_1; split at hl_1 <;> simp_all
    subst e
    refine PureEv_end mixed fn33 (by simp) [5] 6 ?_
    unfold fc33
    refine E_sq ?_
    refine E_reg ?_
    refine E_mv (v' := .nils) rfl ?_
    refine E_nil ?_
    refine E_nx ?_
    refine E_as ?_
    refine E_sq ?_
    refine E_reg ?_
    refine E_mv (v' := .nils) rfl ?_
    refine E_op0 (v' := (.bool true)) rfl rfl ?_
    refine E_nil ?_
    refine E_nx ?_
    refine E_sq ?_
    refine E_cs (t := true) rfl (fun hb => ?_) (fun hb => ?_)
    · refine E_sq ?_
      refine E_reg ?_
      refine E_mv (v' := .nils) rfl ?_
      refine E_nil ?_
      refine E_nx ?_
      refine E_ret ?_
      refine E_thr ?_
      cases h2
      exact ⟨trivial, _, rfl, (fz_b rfl .nil)⟩
    · cases hb
  · obtain rfl : s_00 = [] := by simpa using hx
    refine PureEv_end mixed fn33 (by simp) [5] 6 ?_
    unfold fc33
    refine E_sq ?_
    refine E_reg ?_
    refine E_mv (v' := .nils) rfl ?_
    refine E_nil ?_
    refine E_nx ?_
    refine E_as ?_
    refine E_sq ?_
    refine E_reg ?_
    refine E_mv (v' := (.snn 1)) rfl ?_
    refine E_op0 (v' := (.bool false)) rfl rfl ?_
    refine E_nil ?_
    refine E_nx ?_
    refine E_sq ?_
    refine E_cs (t := false) rfl (fun hb => ?_) (fun hb => ?_)
    · cases hb
    · refine E_skip ?_
      refine E_nx ?_
      refine E_sq ?_
      refine E_reg ?_
      refine E_op (v' := (.ref 0 0 0 0 none)) (S' := [.arr 0 []]) rfl rfl rfl ?_
      refine E_mv (v' := (.snn 1)) rfl ?_
      refine E_apL (S' := [.arr 1 (flat (avI .u64) l_1)]) (encI .u64) (l := []) rfl (rfl) rfl hl_1 rfl ?_
      refine E_mv (v' := (.ref 0 1 0 (List.length l_1) none)) rfl ?_
      refine E_nil ?_
      refine E_nx ?_
      refine E_ret ?_
      cases h2
      exact ⟨trivial, _, rfl, (fz_ref (encI .u64) (Nat.zero_le _) rfl)⟩
  · obtain ⟨x, xs, rfl⟩ : ∃ x xs, s_00 = x :: xs := by cases s_00 with | nil => exact (hx rfl).elim | cons x xs => exact ⟨x, xs, rfl⟩
    refine PureEv_end mixed fn33 (by simp) [5] 6 ?_
    unfold fc33
    refine E_sq ?_
    refine E_reg ?_
    refine E_mv (v' := .nils) rfl ?_
    refine E_nil ?_
    refine E_nx ?_
    refine E_as ?_
    refine E_sq ?_
    refine E_reg ?_
    refine E_mv (v' := (.sl false 1 (List.map (avI .u64) (x :: xs)))) rfl ?_
    refine E_op0 (v' := (.bool false)) rfl rfl ?_
    refine E_nil ?_
    refine E_nx ?_
    refine E_sq ?_
    refine E_cs (t := false) rfl (fun hb => ?_) (fun hb => ?_)
    · cases hb
    · refine E_skip ?_
      refine E_nx ?_
      refine E_sq ?_
      refine E_reg ?_
      refine E_op (v' := (.ref 0 0 0 0 none)) (S' := [.arr 0 []]) rfl rfl rfl ?_
      refine E_mv (v' := (.sl false 1 (List.map (avI .u64) (x :: xs)))) rfl ?_
      refine E_apL (S' := [.arr 1 (flat (avI .u64) l_1)]) (encI .u64) (l := []) rfl (src_sl (x :: xs)) rfl hl_1 rfl ?_
      refine E_mv (v' := (.ref 0 1 0 (List.length l_1) none)) rfl ?_
      refine E_nil ?_
      refine E_nx ?_
      refine E_ret ?_
      cases h2
      exact ⟨trivial, _, rfl, (fz_ref (encI .u64) (Nat.zero_le _) rfl)⟩
/- windlass/trace.New -/
def fc12 : FC := (.seq (.reg [⟨(some 2), none, .op (.mv (.v .nilp))⟩] [])
  (.seq (.reg [⟨(some 3), none, .op (.mv (.t 0))⟩,
  ⟨(some 4), none, .call 33 [(.t 3)]⟩,
  ⟨(some 5), none, .op (.build [.nils, .nils] [(0, 1, (.t 4))])⟩,
  ⟨(some 6), none, .op (.box (.t 5))⟩,
  ⟨(some 2), none, .op (.mv (.t 6))⟩] [])
  .ret))
theorem fn12 : Fn3 Tryd.prog 12 7 [(2, none)] fc12 := ⟨_, _, Tryd.func12, rfl, rfl, rfl, by kernel_rfl⟩
def trace_New_o_s (tape_00 : (List Int)) : Option (List Int) :=
  ((slices_Clone_0_z_s tape_00).bind fun v0_1 => (some v0_1))
theorem trace_New_o_ev {tape_00 : (List Int)} {r : (List Int)} (h : trace_New_o_s tape_00 = some r) : Ev Tryd.prog 12 [(.sl false 1 (List.map (avI .u64) tape_00))] (hp []) (.ptr 0 0 0) (hp [.arr 0 [(.sl false 1 (List.map (avI .u64) r)), .nils]]) := by
  unfold trace_New_o_s at h
  refine Ev_end mixed fn12 (by simp) [6] ?_
  unfold fc12
  refine E_sq ?_
  refine E_reg ?_
  refine E_mv (v' := .nilp) rfl ?_
  refine E_nil ?_
  refine E_nx ?_
  refine E_sq ?_
  refine E_reg ?_
  refine E_mv (v' := (.sl false 1 (List.map (avI .u64) tape_00))) rfl ?_
  obtain ⟨v0_1, hv0_1, h⟩ := bd_some h
  refine E_callW (slices_Clone_0_z_ev  hv0_1) rfl ⟨(.refl _), trivial⟩ (blwL_of ⟨((encI .u64).blws 0), trivial⟩) ((encI .u64).blws 0) ?_
  refine E_op0 (v' := (.agg [(.sl false 1 (List.map (avI .u64) v0_1)), .nils])) rfl rfl ?_
  refine E_op (v' := .ptr 0 0 0) (S' := [.arr 0 [(.sl false 1 (List.map (avI .u64) v0_1)), .nils]]) rfl rfl rfl ?_
  refine E_mv (v' := (.ptr 0 0 0)) rfl ?_
  refine E_nil ?_
  refine E_nx ?_
  refine E_ret ?_
  cases h
  exact ⟨trivial, _, _, rfl, gwk_rn [some (0, 0)] rfl (Nat.le_of_ble_eq_true rfl) ⟨(rn_ob rfl rfl (.cons (rn_b ((encI .u64).blws 0)) (.cons (rn_b rfl) (.nil (Nat.zero_le _)))) rfl), trivial⟩, (rn_ptr rfl rfl rfl rfl)⟩
/- (*windlass/trace.Trace).In -/
def fc13 : FC := (.seq (.reg [⟨(some 2), none, .op (.mv (.v (.int .u64 0)))⟩] [])
  (.seq (.seq (.reg [⟨(some 4), none, .op (.mv (.t 0))⟩,
  ⟨(some 5), none, .op (.bin .ptr .eql (.t 4) (.v .nilp))⟩] [])
  (.cond (.t 5)
  (.seq (.reg [⟨(some 2), none, .op (.mv (.v (.int .u64 0)))⟩] [])
  .ret)
  .skip))
  (.seq (.reg [⟨(some 3), none, .op (.mv (.v (.int .u64 0)))⟩] [])
  (.seq (.seq (.reg [⟨(some 6), none, .op (.mv (.t 0))⟩,
  ⟨(some 7), none, .op (.nchk (.t 6))⟩,
  ⟨(some 8), none, .op (.fad 0 (.t 7))⟩,
  ⟨(some 9), none, .op (.load none (.t 8))⟩,
  ⟨(some 10), none, .op (.len .sl (.t 9))⟩,
  ⟨(some 11), none, .op (.bin .none .gtr (.t 10) (.v (.int .i64 0)))⟩] [])
  (.cond (.t 11)
  (.reg [⟨(some 12), none, .op (.mv (.t 0))⟩,
  ⟨(some 13), none, .op (.mv (.t 0))⟩,
  ⟨(some 14), none, .op (.nchk (.t 13))⟩,
  ⟨(some 15), none, .op (.fad 0 (.t 14))⟩,
  ⟨(some 16), none, .op (.load none (.t 15))⟩,
  ⟨(some 17), none, .op (.iad none none (.t 16) (.v (.int .i64 0)))⟩,
  ⟨(some 18), none, .op (.load none (.t 17))⟩,
  ⟨(some 19), none, .op (.mv (.t 0))⟩,
  ⟨(some 20), none, .op (.nchk (.t 19))⟩,
  ⟨(some 21), none, .op (.fad 0 (.t 20))⟩,
  ⟨(some 22), none, .op (.load none (.t 21))⟩,
  ⟨(some 23), none, .op (.slc none (.t 22) (some (.v (.int .i64 1))) none none)⟩,
  ⟨(some 3), none, .op (.mv (.t 18))⟩,
  ⟨(some 24), none, .op (.nchk (.t 12))⟩,
  ⟨(some 25), none, .op (.fad 0 (.t 24))⟩,
  ⟨none, none, .op (.store 1 (.t 25) (.t 23))⟩] [])
  .skip))
  (.seq (.reg [⟨(some 26), none, .op (.mv (.t 0))⟩,
  ⟨(some 27), none, .op (.mv (.t 0))⟩,
  ⟨(some 28), none, .op (.nchk (.t 27))⟩,
  ⟨(some 29), none, .op (.fad 1 (.t 28))⟩,
  ⟨(some 30), none, .op (.load none (.t 29))⟩,
  ⟨(some 31), none, .op (.mv (.t 3))⟩,
  ⟨(some 32), none, .op (.build [(.int .i64 0), (.int .u64 0)] [(0, 1, (.v (.int .i64 2))), (1, 1, (.t 31))])⟩,
  ⟨(some 33), none, .op (.bsl (some 2) [(.int .i64 0), (.int .u64 0)] 1 [(0, 2, (.t 32))])⟩,
  ⟨(some 34), none, .op (.app (some 2) 16 (.t 30) (.t 33))⟩,
  ⟨(some 35), none, .op (.nchk (.t 26))⟩,
  ⟨(some 36), none, .op (.fad 1 (.t 35))⟩,
  ⟨none, none, .op (.store 1 (.t 36) (.t 34))⟩] [])
  (.seq (.reg [⟨(some 37), none, .op (.mv (.t 3))⟩,
  ⟨(some 2), none, .op (.mv (.t 37))⟩] [])
  .ret))))))
theorem fn13 : Fn3 Tryd.prog 13 38 [(2, none)] fc13 := ⟨_, _, Tryd.func13, rfl, rfl, rfl, by kernel_rfl⟩
def trace_Trace_In_pNn_s (t_tape_00 : (List Int)) : Option (Int × (List Int) × (List Event)) :=
  (jp (fun (s_2 : (Int × (List Int))) => ((appL 16 [] [(Event.mk 2 s_2.1)]).bind fun l_5 => (some (s_2.1, s_2.2, l_5)))) (fun k_1 => (if (decide ((List.length t_tape_00 : Int) > 0)) then ((getI t_tape_00 0).bind fun y_3 => ((subL t_tape_00 1 (List.length t_tape_00 : Int)).bind fun l_4 => (k_1 (y_3, l_4)))) else (k_1 (0, t_tape_00)))))
theorem trace_Trace_In_pNn_ev {t_tape_00 : (List Int)} {r : (Int × (List Int) × (List Event))} (h : trace_Trace_In_pNn_s t_tape_00 = some r) : Ev Tryd.prog 13 [(.ptr 0 0 0)] (hp [.arr 0 [(.sl false 1 (List.map (avI .u64) t_tape_00)), .nils]]) (.int .u64 r.1) (hp [.arr 0 [(.sl false 1 (List.map (avI .u64) r.2.1)), (.ref 1 1 0 (List.length r.2.2) (some 2))], .arr 1 (flat Event.av r.2.2)]) := by
  unfold trace_Trace_In_pNn_s at h
  refine Ev_end mixed fn13 (by simp) [34] ?_
  unfold fc13
  refine E_sq ?_
  refine E_reg ?_
  refine E_mv (v' := (.int .u64 0)) rfl ?_
  refine E_nil ?_
  refine E_nx ?_
  refine E_as ?_
  refine E_sq ?_
  refine E_reg ?_
  refine E_mv (v' := (.ptr 0 0 0)) rfl ?_
  refine E_op0 (v' := (.bool false)) rfl rfl ?_
  refine E_nil ?_
  refine E_nx ?_
  refine E_sq ?_
  refine E_cf rfl ?_
  refine E_skip ?_
  refine E_nx ?_
  refine E_sq ?_
  refine E_reg ?_
  refine E_mv (v' := (.int .u64 0)) rfl ?_
  refine E_nil ?_
  refine E_nx ?_
  refine E_as ?_
  refine E_sq ?_
  refine E_reg ?_
  refine E_mv (v' := (.ptr 0 0 0)) rfl ?_
  refine E_op0 (v' := (.ptr 0 0 0)) rfl rfl ?_
  refine E_op0 (v' := (.ptr 0 0 0)) rfl rfl ?_
  refine E_op (v' := (.sl false 1 (List.map (avI .u64) t_tape_00))) (S' := [.arr 0 [(.sl false 1 (List.map (avI .u64) t_tape_00)), .nils]]) rfl rfl rfl ?_
  refine E_len rfl ?_
  refine E_op0 (v' := (.bool (decide ((List.length t_tape_00 : Int) > 0)))) rfl rfl ?_
  refine E_nil ?_
  refine E_nx ?_
  refine E_jp h (fun s_2 => [(0, (.ptr 0 0 0)), (3, (.int .u64 s_2.1))]) (fun s_2 => [.arr 0 [(.sl false 1 (List.map (avI .u64) s_2.2)), .nils]]) (fun k_1 h => ?_) (fun s_2 h => ?_)
  · refine E_cs (t := (decide ((List.length t_tape_00 : Int) > 0))) rfl (fun hb => ?_) (fun hb => ?_)
    · rw [ite_t hb] at h
      refine E_reg ?_
      refine E_mv (v' := (.ptr 0 0 0)) rfl ?_
      refine E_mv (v' := (.ptr 0 0 0)) rfl ?_
      refine E_op0 (v' := (.ptr 0 0 0)) rfl rfl ?_
      refine E_op0 (v' := (.ptr 0 0 0)) rfl rfl ?_
      refine E_op (v' := (.sl false 1 (List.map (avI .u64) t_tape_00))) (S' := [.arr 0 [(.sl false 1 (List.map (avI .u64) t_tape_00)), .nils]]) rfl rfl rfl ?_
      obtain ⟨y_3, hy_3, h⟩ := bd_some h
      refine E_iadF rfl rfl hy_3 ?_
      refine E_op0 (v' := (.int .u64 y_3)) rfl rfl ?_
      refine E_mv (v' := (.ptr 0 0 0)) rfl ?_
      refine E_op0 (v' := (.ptr 0 0 0)) rfl rfl ?_
      refine E_op0 (v' := (.ptr 0 0 0)) rfl rfl ?_
      refine E_op (v' := (.sl false 1 (List.map (avI .u64) t_tape_00))) (S' := [.arr 0 [(.sl false 1 (List.map (avI .u64) t_tape_00)), .nils]]) rfl rfl rfl ?_
      obtain ⟨l_4, hl_4, h⟩ := bd_some h
      refine E_slcL rfl (fun h0 => loN_int h0) (fun _ => by simp [evO, hiN]) hl_4 ?_
      refine E_mv (v' := (.int .u64 y_3)) rfl ?_
      refine E_op0 (v' := (.ptr 0 0 0)) rfl rfl ?_
      refine E_op0 (v' := (.ptr 0 0 0)) rfl rfl ?_
      refine E_do (S' := [.arr 0 [(.sl false 1 (List.map (avI .u64) l_4)), .nils]]) rfl rfl ?_
      refine E_nil ?_
      exact E_jx _ h (wk_rn [some (0, 0)] rfl (Nat.le_of_ble_eq_true rfl) ⟨(rn_obS rfl rfl (.cons (rn_b ((encI .u64).blws 0)) (.cons (rn_b rfl) (.nil (Nat.zero_le _)))) rfl), trivial⟩ ⟨(rn_ptr rfl rfl rfl rfl), (rn_b rfl), trivial⟩)
    · rw [ite_f hb] at h
      refine E_skip ?_
      exact E_jx _ h (wk_rn [some (0, 0)] rfl (Nat.le_of_ble_eq_true rfl) ⟨(rn_obS rfl rfl (.cons (rn_b ((encI .u64).blws 0)) (.cons (rn_b rfl) (.nil (Nat.zero_le _)))) rfl), trivial⟩ ⟨(rn_ptr rfl rfl rfl rfl), (rn_b rfl), trivial⟩)
  · refine E_sq ?_
    refine E_reg ?_
    refine E_mv (v' := (.ptr 0 0 0)) rfl ?_
    refine E_mv (v' := (.ptr 0 0 0)) rfl ?_
    refine E_op0 (v' := (.ptr 0 0 0)) rfl rfl ?_
    refine E_op0 (v' := (.ptr 0 0 1)) rfl rfl ?_
    refine E_op (v' := .nils) (S' := [.arr 0 [(.sl false 1 (List.map (avI .u64) s_2.2)), .nils]]) rfl rfl rfl ?_
    refine E_mv (v' := (.int .u64 s_2.1)) rfl ?_
    refine E_opw (v' := (Event.av (Event.mk 2 s_2.1))) rfl (.aggL ⟨(.refl _), (.refl _), trivial⟩) rfl ?_
    refine E_opw (v' := (.sl true 2 (List.map Event.av [(Event.mk 2 s_2.1)]))) rfl (.refl _) rfl ?_
    obtain ⟨l_5, hl_5, h⟩ := bd_some h
    refine E_apN (S' := [.arr 0 [(.sl false 1 (List.map (avI .u64) s_2.2)), .nils], .arr 0 (flat Event.av l_5)]) Event.enc rfl (.inl rfl) (src_sl [(Event.mk 2 s_2.1)]) hl_5 rfl ?_
    refine E_op0 (v' := (.ptr 0 0 0)) rfl rfl ?_
    refine E_op0 (v' := (.ptr 0 0 1)) rfl rfl ?_
    refine E_do (S' := [.arr 0 [(.sl false 1 (List.map (avI .u64) s_2.2)), (.ref 1 0 0 (List.length l_5) (some 2))], .arr 0 (flat Event.av l_5)]) rfl rfl ?_
    refine E_nil ?_
    refine E_nx ?_
    refine E_sq ?_
    refine E_reg ?_
    refine E_mv (v' := (.int .u64 s_2.1)) rfl ?_
    refine E_mv (v' := (.int .u64 s_2.1)) rfl ?_
    refine E_nil ?_
    refine E_nx ?_
    refine E_ret ?_
    cases h
    exact ⟨trivial, _, _, rfl, gwk_rn [some (0, 0), some (1, 0)] rfl (Nat.le_of_ble_eq_true rfl) ⟨(rn_obS rfl rfl (.cons (rn_b ((encI .u64).blws 0)) (.cons (rn_refL Event.enc rfl rfl rfl) (.nil (Nat.zero_le _)))) rfl), (rn_ob rfl rfl (.refl (Event.enc.blwf 0 _)) rfl), trivial⟩, (rn_b rfl)⟩
/- (*windlass/trace.Trace).Out -/
def fc14 : FC := (.seq (.reg [⟨(some 4), none, .op (.mv (.t 0))⟩,
  ⟨(some 5), none, .op (.bin .ptr .neq (.t 4) (.v .nilp))⟩] [])
  (.cond (.t 5)
  (.reg [⟨(some 6), none, .op (.mv (.t 0))⟩,
  ⟨(some 7), none, .op (.mv (.t 0))⟩,
  ⟨(some 8), none, .op (.nchk (.t 7))⟩,
  ⟨(some 9), none, .op (.fad 1 (.t 8))⟩,
  ⟨(some 10), none, .op (.load none (.t 9))⟩,
  ⟨(some 11), none, .op (.mv (.t 1))⟩,
  ⟨(some 12), none, .op (.build [(.int .i64 0), (.int .u64 0)] [(0, 1, (.v (.int .i64 1))), (1, 1, (.t 11))])⟩,
  ⟨(some 13), none, .op (.bsl (some 2) [(.int .i64 0), (.int .u64 0)] 1 [(0, 2, (.t 12))])⟩,
  ⟨(some 14), none, .op (.app (some 2) 16 (.t 10) (.t 13))⟩,
  ⟨(some 15), none, .op (.nchk (.t 6))⟩,
  ⟨(some 16), none, .op (.fad 1 (.t 15))⟩,
  ⟨none, none, .op (.store 1 (.t 16) (.t 14))⟩] [])
  .skip))
theorem fn14 : Fn3 Tryd.prog 14 17 [] fc14 := ⟨_, _, Tryd.func14, rfl, rfl, rfl, by kernel_rfl⟩
def trace_Trace_Out_pNR_s (t_tape_00 : (List Int)) (t_events_00 : (List Event)) (v_01 : Int) : Option ((List Int) × (List Event)) :=
  ((appL 16 t_events_00 [(Event.mk 1 v_01)]).bind fun l_1 => (some (t_tape_00, l_1)))
theorem trace_Trace_Out_pNR_ev {t_tape_00 : (List Int)} {t_events_00 : (List Event)} {v_01 : Int} {r : ((List Int) × (List Event))} (h : trace_Trace_Out_pNR_s t_tape_00 t_events_00 v_01 = some r) : Ev Tryd.prog 14 [(.ptr 0 0 0), (.int .u64 v_01)] (hp [.arr 0 [(.sl false 1 (List.map (avI .u64) t_tape_00)), (.ref 1 0 0 (List.length t_events_00) (some 2))], .arr 0 (flat Event.av t_events_00)]) (.tup []) (hp [.arr 0 [(.sl false 1 (List.map (avI .u64) r.1)), (.ref 1 1 0 (List.length r.2) (some 2))], .arr 1 (flat Event.av r.2)]) := by
  unfold trace_Trace_Out_pNR_s at h
  refine Ev_end mixed fn14 (by simp) [] ?_
  unfold fc14
  refine E_sq ?_
  refine E_reg ?_
  refine E_mv (v' := (.ptr 0 0 0)) rfl ?_
  refine E_op0 (v' := (.bool true)) rfl rfl ?_
  refine E_nil ?_
  refine E_nx ?_
  refine E_ct rfl ?_
  refine E_reg ?_
  refine E_mv (v' := (.ptr 0 0 0)) rfl ?_
  refine E_mv (v' := (.ptr 0 0 0)) rfl ?_
  refine E_op0 (v' := (.ptr 0 0 0)) rfl rfl ?_
  refine E_op0 (v' := (.ptr 0 0 1)) rfl rfl ?_
  refine E_op (v' := (.ref 1 0 0 (List.length t_events_00) (some 2))) (S' := [.arr 0 [(.sl false 1 (List.map (avI .u64) t_tape_00)), (.ref 1 0 0 (List.length t_events_00) (some 2))], .arr 0 (flat Event.av t_events_00)]) rfl rfl rfl ?_
  refine E_mv (v' := (.int .u64 v_01)) rfl ?_
  refine E_opw (v' := (Event.av (Event.mk 1 v_01))) rfl (.aggL ⟨(.refl _), (.refl _), trivial⟩) rfl ?_
  refine E_opw (v' := (.sl true 2 (List.map Event.av [(Event.mk 1 v_01)]))) rfl (.refl _) rfl ?_
  obtain ⟨l_1, hl_1, h⟩ := bd_some h
  refine E_apL (S' := [.arr 0 [(.sl false 1 (List.map (avI .u64) t_tape_00)), (.ref 1 0 0 (List.length t_events_00) (some 2))], .arr 1 (flat Event.av l_1)]) Event.enc rfl (src_sl [(Event.mk 1 v_01)]) rfl hl_1 rfl ?_
  refine E_op0 (v' := (.ptr 0 0 0)) rfl rfl ?_
  refine E_op0 (v' := (.ptr 0 0 1)) rfl rfl ?_
  refine E_do (S' := [.arr 0 [(.sl false 1 (List.map (avI .u64) t_tape_00)), (.ref 1 1 0 (List.length l_1) (some 2))], .arr 1 (flat Event.av l_1)]) rfl rfl ?_
  refine E_nil ?_
  cases h
  exact ⟨trivial, _, _, rfl, gwk_rn [some (0, 0), some (1, 0)] rfl (Nat.le_of_ble_eq_true rfl) ⟨(rn_obS rfl rfl (.cons (rn_b ((encI .u64).blws 0)) (.cons (rn_refL Event.enc rfl rfl rfl) (.nil (Nat.zero_le _)))) rfl), (rn_obV rfl rfl (.refl (Event.enc.blwf 0 _)) rfl rfl), trivial⟩, (rn_tup trivial)⟩
/- slices.Clone[[]windlass/api.Event,windlass/api.Event] -/
def fc34 : FC := (.seq (.reg [⟨(some 2), none, .op (.mv (.v .nils))⟩] [])
  (.seq (.seq (.reg [⟨(some 3), none, .op (.mv (.t 0))⟩,
  ⟨(some 4), none, .op (.bin .flat .eql (.t 3) (.v .nils))⟩] [])
  (.cond (.t 4)
  (.seq (.reg [⟨(some 2), none, .op (.mv (.v .nils))⟩] [])
  .ret)
  .skip))
  (.seq (.reg [⟨(some 5), none, .op (.bsl (some 2) [(.int .i64 0), (.int .u64 0)] 0 [])⟩,
  ⟨(some 6), none, .op (.mv (.t 0))⟩,
  ⟨(some 7), none, .op (.app (some 2) 16 (.t 5) (.t 6))⟩,
  ⟨(some 2), none, .op (.mv (.t 7))⟩] [])
  .ret)))
theorem fn34 : Fn3 Tryd.prog 34 8 [(2, none)] fc34 := ⟨_, _, Tryd.func34, rfl, rfl, rfl, by kernel_rfl⟩
def slices_Clone_1_r_z_s (s_00 : List Event) : Option (List Event) :=
  ((appL 16 [] s_00).bind fun l_1 => (some l_1))
theorem slices_Clone_1_r_z_ev {s_00 : List Event} {r : List Event} (h : slices_Clone_1_r_z_s s_00 = some r) : Ev Tryd.prog 34 [.ref 0 0 0 (List.length s_00) (some 2)] (hp [.arr 0 (flat Event.av s_00)]) (.sl false 2 (List.map Event.av r)) (hp [.arr 0 (flat Event.av s_00)]) := by
  unfold slices_Clone_1_r_z_s at h
  obtain ⟨l_1, hl_1, h2⟩ := bd_some h
  clear h
  refine Ev_rf (sz := 2) rfl (fun hx => ?_) (fun hx => ?_) (fun hx => ?_)
  · obtain rfl : s_00 = [] := by simpa using hx
    have e : l_1 = [] := by unfold appL at hl_1; split at hl_1 <;> simp_all
    subst e
    refine Ev_end mixed fn34 (by simp) [5] ?_
    unfold fc34
    refine E_sq ?_
    refine E_reg ?_
    refine E_mv (v' := .nils) rfl ?_
    refine E_nil ?_
    refine E_nx ?_
    refine E_as ?_
    refine E_sq ?_
    refine E_reg ?_
    refine E_mv (v' := .nils) rfl ?_
    refine E_op0 (v' := (.bool true)) rfl rfl ?_
    refine E_nil ?_
    refine E_nx ?_
    refine E_sq ?_
    refine E_cs (t := true) rfl (fun hb => ?_) (fun hb => ?_)
    · refine E_sq ?_
      refine E_reg ?_
      refine E_mv (v' := .nils) rfl ?_
      refine E_nil ?_
      refine E_nx ?_
      refine E_ret ?_
      refine E_thr ?_
      cases h2
      exact ⟨trivial, _, _, rfl, gwk_rn [some (0, 0)] rfl (Nat.le_of_ble_eq_true rfl) ⟨(rn_obS rfl rfl (.refl (Event.enc.blwf 0 _)) rfl), trivial⟩, (.base rfl .nil)⟩
    · cases hb
  · obtain rfl : s_00 = [] := by simpa using hx
    refine Ev_end mixed fn34 (by simp) [5] ?_
    unfold fc34
    refine E_sq ?_
    refine E_reg ?_
    refine E_mv (v' := .nils) rfl ?_
    refine E_nil ?_
    refine E_nx ?_
    refine E_as ?_
    refine E_sq ?_
    refine E_reg ?_
    refine E_mv (v' := (.snn 2)) rfl ?_
    refine E_op0 (v' := (.bool false)) rfl rfl ?_
    refine E_nil ?_
    refine E_nx ?_
    refine E_sq ?_
    refine E_cs (t := false) rfl (fun hb => ?_) (fun hb => ?_)
    · cases hb
    · refine E_skip ?_
      refine E_nx ?_
      refine E_sq ?_
      refine E_reg ?_
      refine E_op (v' := (.ref 1 0 0 0 (some 2))) (S' := [.arr 0 (flat Event.av []), .arr 0 []]) rfl rfl rfl ?_
      refine E_mv (v' := (.snn 2)) rfl ?_
      refine E_apL (S' := [.arr 0 (flat Event.av []), .arr 1 (flat Event.av l_1)]) Event.enc (l := []) rfl (rfl) rfl hl_1 rfl ?_
      refine E_mv (v' := (.ref 1 1 0 (List.length l_1) (some 2))) rfl ?_
      refine E_nil ?_
      refine E_nx ?_
      refine E_ret ?_
      cases h2
      exact ⟨trivial, _, _, rfl, (gwk_rn (S' := [.arr 0 (flat Event.av []), .arr 1 (flat Event.av r)]) [some (0, 0), some (1, 0)] rfl (Nat.le_of_ble_eq_true rfl) ⟨(rn_obS rfl rfl (.refl (Event.enc.blwf 0 _)) rfl), (rn_ob rfl rfl (.refl (Event.enc.blwf 0 _)) rfl), trivial⟩).trans (gwk_fz 1 6 rfl ⟨⟨rfl, fzL_id (Event.enc.blwf 1 _)⟩, trivial⟩), ⟨(.ref 1 1 0 (List.length r) (some 2)), (rn_refL Event.enc rfl rfl rfl), _, rfl, (fz_ref Event.enc (Nat.le_of_ble_eq_true rfl) rfl)⟩⟩
  · obtain ⟨x, xs, rfl⟩ : ∃ x xs, s_00 = x :: xs := by cases s_00 with | nil => exact (hx rfl).elim | cons x xs => exact ⟨x, xs, rfl⟩
    refine Ev_end mixed fn34 (by simp) [5] ?_
    unfold fc34
    refine E_sq ?_
    refine E_reg ?_
    refine E_mv (v' := .nils) rfl ?_
    refine E_nil ?_
    refine E_nx ?_
    refine E_as ?_
    refine E_sq ?_
    refine E_reg ?_
    refine E_mv (v' := (.ref 0 0 0 (List.length (x :: xs)) (some 2))) rfl ?_
    refine E_op0 (v' := (.bool false)) rfl rfl ?_
    refine E_nil ?_
    refine E_nx ?_
    refine E_sq ?_
    refine E_cs (t := false) rfl (fun hb => ?_) (fun hb => ?_)
    · cases hb
    · refine E_skip ?_
      refine E_nx ?_
      refine E_sq ?_
      refine E_reg ?_
      refine E_op (v' := (.ref 1 0 0 0 (some 2))) (S' := [.arr 0 (flat Event.av (x :: xs)), .arr 0 []]) rfl rfl rfl ?_
      refine E_mv (v' := (.ref 0 0 0 (List.length (x :: xs)) (some 2))) rfl ?_
      refine E_apL (S' := [.arr 0 (flat Event.av (x :: xs)), .arr 1 (flat Event.av l_1)]) Event.enc (l := []) rfl (src_ref Event.enc rfl) rfl hl_1 rfl ?_
      refine E_mv (v' := (.ref 1 1 0 (List.length l_1) (some 2))) rfl ?_
      refine E_nil ?_
      refine E_nx ?_
      refine E_ret ?_
      cases h2
      exact ⟨trivial, _, _, rfl, (gwk_rn (S' := [.arr 0 (flat Event.av (x :: xs)), .arr 1 (flat Event.av r)]) [some (0, 0), some (1, 0)] rfl (Nat.le_of_ble_eq_true rfl) ⟨(rn_obS rfl rfl (.refl (Event.enc.blwf 0 _)) rfl), (rn_ob rfl rfl (.refl (Event.enc.blwf 0 _)) rfl), trivial⟩).trans (gwk_fz 1 6 rfl ⟨⟨rfl, fzL_id (Event.enc.blwf 1 _)⟩, trivial⟩), ⟨(.ref 1 1 0 (List.length r) (some 2)), (rn_refL Event.enc rfl rfl rfl), _, rfl, (fz_ref Event.enc (Nat.le_of_ble_eq_true rfl) rfl)⟩⟩
/- (*windlass/trace.Trace).Events -/
def fc15 : FC := (.seq (.reg [⟨(some 2), none, .op (.mv (.v .nils))⟩] [])
  (.seq (.seq (.reg [⟨(some 3), none, .op (.mv (.t 0))⟩,
  ⟨(some 4), none, .op (.bin .ptr .eql (.t 3) (.v .nilp))⟩] [])
  (.cond (.t 4)
  (.seq (.reg [⟨(some 2), none, .op (.mv (.v .nils))⟩] [])
  .ret)
  .skip))
  (.seq (.reg [⟨(some 5), none, .op (.mv (.t 0))⟩,
  ⟨(some 6), none, .op (.nchk (.t 5))⟩,
  ⟨(some 7), none, .op (.fad 1 (.t 6))⟩,
  ⟨(some 8), none, .op (.load none (.t 7))⟩,
  ⟨(some 9), none, .call 34 [(.t 8)]⟩,
  ⟨(some 2), none, .op (.mv (.t 9))⟩] [])
  .ret)))
theorem fn15 : Fn3 Tryd.prog 15 10 [(2, none)] fc15 := ⟨_, _, Tryd.func15, rfl, rfl, rfl, by kernel_rfl⟩
def trace_Trace_Events_pNR_s (t_tape_00 : (List Int)) (t_events_00 : (List Event)) : Option ((List Event) × (List Int)) :=
  ((slices_Clone_1_r_z_s t_events_00).bind fun (v1_1 : (List Event)) => (some (v1_1, t_tape_00)))
theorem trace_Trace_Events_pNR_ev {t_tape_00 : (List Int)} {t_events_00 : (List Event)} {r : ((List Event) × (List Int))} (h : trace_Trace_Events_pNR_s t_tape_00 t_events_00 = some r) : Ev Tryd.prog 15 [(.ptr 0 0 0)] (hp [.arr 0 [(.sl false 1 (List.map (avI .u64) t_tape_00)), (.ref 1 0 0 (List.length t_events_00) (some 2))], .arr 0 (flat Event.av t_events_00)]) (.sl false 2 (List.map Event.av r.1)) (hp [.arr 0 [(.sl false 1 (List.map (avI .u64) r.2)), (.ref 1 0 0 (List.length t_events_00) (some 2))], .arr 0 (flat Event.av t_events_00)]) := by
  unfold trace_Trace_Events_pNR_s at h
  refine Ev_end mixed fn15 (by simp) [] ?_
  unfold fc15
  refine E_sq ?_
  refine E_reg ?_
  refine E_mv (v' := .nils) rfl ?_
  refine E_nil ?_
  refine E_nx ?_
  refine E_as ?_
  refine E_sq ?_
  refine E_reg ?_
  refine E_mv (v' := (.ptr 0 0 0)) rfl ?_
  refine E_op0 (v' := (.bool false)) rfl rfl ?_
  refine E_nil ?_
  refine E_nx ?_
  refine E_sq ?_
  refine E_cf rfl ?_
  refine E_skip ?_
  refine E_nx ?_
  refine E_sq ?_
  refine E_reg ?_
  refine E_mv (v' := (.ptr 0 0 0)) rfl ?_
  refine E_op0 (v' := (.ptr 0 0 0)) rfl rfl ?_
  refine E_op0 (v' := (.ptr 0 0 1)) rfl rfl ?_
  refine E_op (v' := (.ref 1 0 0 (List.length t_events_00) (some 2))) (S' := [.arr 0 [(.sl false 1 (List.map (avI .u64) t_tape_00)), (.ref 1 0 0 (List.length t_events_00) (some 2))], .arr 0 (flat Event.av t_events_00)]) rfl rfl rfl ?_
  obtain ⟨v1_1, hv1_1, h⟩ := bd_some h
  refine E_callF (S' := [.arr 0 [(.sl false 1 (List.map (avI .u64) t_tape_00)), (.ref 1 0 0 (List.length t_events_00) (some 2))], .arr 0 (flat Event.av t_events_00)]) (r' := (.sl false 2 (List.map Event.av v1_1))) (slices_Clone_1_r_z_ev hv1_1) [1] rfl rfl (by decide) rfl rfl ⟨(fr_in rfl rfl (.refl (Event.enc.blwf 0 _))), trivial⟩ ⟨(fr_outS rfl rfl (.refl (Event.enc.blwf 0 _)) rfl rfl), trivial⟩ ⟨.inr rfl, .inl rfl, trivial⟩ rfl (.cons (fi_ref rfl rfl rfl rfl) (.nil (Nat.zero_le _))) (rn_b (Event.enc.blws 0)) ?_
  refine E_mv (v' := (.sl false 2 (List.map Event.av v1_1))) rfl ?_
  refine E_nil ?_
  refine E_nx ?_
  refine E_ret ?_
  cases h
  exact ⟨trivial, _, _, rfl, gwk_rn [some (0, 0), some (1, 0)] rfl (Nat.le_of_ble_eq_true rfl) ⟨(rn_obS rfl rfl (.cons (rn_b ((encI .u64).blws 0)) (.cons (rn_refL Event.enc rfl rfl rfl) (.nil (Nat.zero_le _)))) rfl), (rn_obS rfl rfl (.refl (Event.enc.blwf 0 _)) rfl), trivial⟩, (rn_b (Event.enc.blws 0))⟩
/- windlass/trace.event -/
def fc35 : FC := (.seq (.reg [⟨(some 2), none, .op (.mv (.v (.str (ByteArray.mk #[]))))⟩] [])
  (.seq (.seq (.reg [⟨(some 3), none, .op (.mv (.t 0))⟩] [])
  (.block 0 (.seq (.reg [⟨(some 5), none, .op (.bin .none .eql (.t 3) (.v (.int .i64 1)))⟩,
  ⟨(some 4), none, .op (.mv (.t 5))⟩] [])
  (.cond (.t 4)
  (.seq (.reg [⟨(some 2), none, .op (.mv (.v (.str (ByteArray.mk #[111, 117, 116]))))⟩] [])
  .ret)
  (.seq (.reg [⟨(some 7), none, .op (.bin .none .eql (.t 3) (.v (.int .i64 2)))⟩,
  ⟨(some 6), none, .op (.mv (.t 7))⟩] [])
  (.cond (.t 6)
  (.seq (.reg [⟨(some 2), none, .op (.mv (.v (.str (ByteArray.mk #[105, 110]))))⟩] [])
  .ret)
  .skip))))))
  (.seq (.reg [⟨(some 2), none, .op (.mv (.v (.str (ByteArray.mk #[]))))⟩] [])
  .ret)))
theorem fn35 : Fn3 Tryd.prog 35 8 [(2, none)] fc35 := ⟨_, _, Tryd.func35, rfl, rfl, rfl, by kernel_rfl⟩
def trace_event_s (k_00 : Int) : Option ByteArray :=
  (if (k_00 == 1) then (some (ByteArray.mk #[111, 117, 116])) else (if (k_00 == 2) then (some (ByteArray.mk #[105, 110])) else (some (ByteArray.mk #[]))))
theorem trace_event_ev {k_00 : Int} {r : ByteArray} (h : trace_event_s k_00 = some r) : PureEv Tryd.prog 35 [(.int .i64 k_00)] (.str r) := by
  unfold trace_event_s at h
  refine PureEv_end mixed fn35 (by simp) [] 6 ?_
  unfold fc35
  refine E_sq ?_
  refine E_reg ?_
  refine E_mv (v' := (.str (ByteArray.mk #[]))) rfl ?_
  refine E_nil ?_
  refine E_nx ?_
  refine E_as ?_
  refine E_sq ?_
  refine E_reg ?_
  refine E_mv (v' := (.int .i64 k_00)) rfl ?_
  refine E_nil ?_
  refine E_nx ?_
  refine E_sq ?_
  refine E_block ?_
  refine E_sq ?_
  refine E_reg ?_
  refine E_op0 (v' := (.bool (k_00 == 1))) rfl rfl ?_
  refine E_mv (v' := (.bool (k_00 == 1))) rfl ?_
  refine E_nil ?_
  refine E_nx ?_
  refine E_cs (t := (k_00 == 1)) rfl (fun hb => ?_) (fun hb => ?_)
  · rw [ite_t hb] at h
    refine E_sq ?_
    refine E_reg ?_
    refine E_mv (v' := (.str (ByteArray.mk #[111, 117, 116]))) rfl ?_
    refine E_nil ?_
    refine E_nx ?_
    refine E_ret ?_
    refine E_blr ?_
    refine E_thr ?_
    cases h
    exact ⟨trivial, _, rfl, (fz_b rfl (.refl _))⟩
  · rw [ite_f hb] at h
    refine E_sq ?_
    refine E_reg ?_
    refine E_op0 (v' := (.bool (k_00 == 2))) rfl rfl ?_
    refine E_mv (v' := (.bool (k_00 == 2))) rfl ?_
    refine E_nil ?_
    refine E_nx ?_
    refine E_cs (t := (k_00 == 2)) rfl (fun hb => ?_) (fun hb => ?_)
    · rw [ite_t hb] at h
      refine E_sq ?_
      refine E_reg ?_
      refine E_mv (v' := (.str (ByteArray.mk #[105, 110]))) rfl ?_
      refine E_nil ?_
      refine E_nx ?_
      refine E_ret ?_
      refine E_blr ?_
      refine E_thr ?_
      cases h
      exact ⟨trivial, _, rfl, (fz_b rfl (.refl _))⟩
    · rw [ite_f hb] at h
      refine E_skip ?_
      refine E_bln ?_
      refine E_nx ?_
      refine E_sq ?_
      refine E_reg ?_
      refine E_mv (v' := (.str (ByteArray.mk #[]))) rfl ?_
      refine E_nil ?_
      refine E_nx ?_
      refine E_ret ?_
      cases h
      exact ⟨trivial, _, rfl, (fz_b rfl (.refl _))⟩
/- strconv.FormatUint -/
def fc36 : FC := (.seq (.reg [⟨(some 4), none, .op (.mv (.v (.str (ByteArray.mk #[]))))⟩] [])
  (.seq (.reg [⟨(some 5), none, .op (.mv (.t 0))⟩,
  ⟨(some 6), none, .op (.mv (.t 1))⟩,
  ⟨(some 7), none, .call 58 [(.t 5), (.t 6)]⟩,
  ⟨(some 4), none, .op (.mv (.t 7))⟩] [])
  .ret))
theorem fn36 : Fn3 Tryd.prog 36 8 [(4, none)] fc36 := ⟨_, _, Tryd.func36, rfl, rfl, rfl, by kernel_rfl⟩
def strconv_FormatUint_s (i_00 : Int) (base_01 : Int) : Option ByteArray :=
  ((internal_strconv_FormatUint_s i_00 base_01).bind fun vfor_1 => (some vfor_1))
theorem strconv_FormatUint_ev {i_00 : Int} {base_01 : Int} {r : ByteArray} (h : strconv_FormatUint_s i_00 base_01 = some r) : PureEv Tryd.prog 36 [(.int .u64 i_00), (.int .i64 base_01)] (.str r) := by
  unfold strconv_FormatUint_s at h
  refine PureEv_end mixed fn36 (by simp) [] 6 ?_
  unfold fc36
  refine E_sq ?_
  refine E_reg ?_
  refine E_mv (v' := (.str (ByteArray.mk #[]))) rfl ?_
  refine E_nil ?_
  refine E_nx ?_
  refine E_sq ?_
  refine E_reg ?_
  refine E_mv (v' := (.int .u64 i_00)) rfl ?_
  refine E_mv (v' := (.int .i64 base_01)) rfl ?_
  obtain ⟨vfor_1, hvfor_1, h⟩ := bd_some h
  refine E_callW (internal_strconv_FormatUint_ev  hvfor_1) rfl ⟨(.refl _), (.refl _), trivial⟩ (blwL_of ⟨rfl, rfl, trivial⟩) rfl ?_
  refine E_mv (v' := (.str vfor_1)) rfl ?_
  refine E_nil ?_
  refine E_nx ?_
  refine E_ret ?_
  cases h
  exact ⟨trivial, _, rfl, (fz_b rfl (.refl _))⟩
/- windlass/trace.ending -/
def fc37 : FC := (.seq (.reg [⟨(some 2), none, .op (.mv (.v (.str (ByteArray.mk #[]))))⟩] [])
  (.seq (.seq (.reg [⟨(some 3), none, .op (.mv (.t 0))⟩,
  ⟨(some 4), none, .op (.bin .none .lss (.t 3) (.v (.int .i64 1)))⟩,
  ⟨(some 5), none, .op (.mv (.t 4))⟩,
  ⟨(some 6), some (5, false), .op (.mv (.t 0))⟩,
  ⟨(some 7), some (5, false), .op (.bin .none .gtr (.t 6) (.v (.int .i64 5)))⟩,
  ⟨(some 8), none, .op (.pick (.t 5) (.v (.bool true)) (.t 7))⟩] [])
  (.cond (.t 8)
  (.seq (.reg [⟨(some 2), none, .op (.mv (.v (.str (ByteArray.mk #[]))))⟩] [])
  .ret)
  .skip))
  (.seq (.reg [⟨(some 9), none, .op (.bsl none [(.str (ByteArray.mk #[]))] 5 [(0, 1, (.v (.str (ByteArray.mk #[101, 120, 105, 116])))), (1, 1, (.v (.str (ByteArray.mk #[112, 97, 110, 105, 99])))), (2, 1, (.v (.str (ByteArray.mk #[102, 117, 101, 108])))), (3, 1, (.v (.str (ByteArray.mk #[115, 116, 97, 99, 107])))), (4, 1, (.v (.str (ByteArray.mk #[115, 116, 117, 99, 107]))))])⟩,
  ⟨(some 10), none, .op (.mv (.t 0))⟩,
  ⟨(some 11), none, .op (.bin .none .sub (.t 10) (.v (.int .i64 1)))⟩,
  ⟨(some 12), none, .op (.iad none none (.t 9) (.t 11))⟩,
  ⟨(some 13), none, .op (.load none (.t 12))⟩,
  ⟨(some 2), none, .op (.mv (.t 13))⟩] [])
  .ret)))
theorem fn37 : Fn3 Tryd.prog 37 14 [(2, none)] fc37 := ⟨_, _, Tryd.func37, rfl, rfl, rfl, by kernel_rfl⟩
def trace_ending_s (k_00 : Int) : Option ByteArray :=
  (jp (fun (s_2 : Bool) => (if s_2 then (some (ByteArray.mk #[])) else ((getI [(ByteArray.mk #[101, 120, 105, 116]), (ByteArray.mk #[112, 97, 110, 105, 99]), (ByteArray.mk #[102, 117, 101, 108]), (ByteArray.mk #[115, 116, 97, 99, 107]), (ByteArray.mk #[115, 116, 117, 99, 107])] (I64 (k_00 - 1))).bind fun y_3 => (some y_3)))) (fun k_1 => (if (decide (k_00 < 1)) then (k_1 true) else (k_1 (decide (k_00 > 5))))))
theorem trace_ending_ev {k_00 : Int} {r : ByteArray} (h : trace_ending_s k_00 = some r) : PureEv Tryd.prog 37 [(.int .i64 k_00)] (.str r) := by
  unfold trace_ending_s at h
  refine PureEv_end mixed fn37 (by simp) [] 6 ?_
  unfold fc37
  refine E_sq ?_
  refine E_reg ?_
  refine E_mv (v' := (.str (ByteArray.mk #[]))) rfl ?_
  refine E_nil ?_
  refine E_nx ?_
  refine E_as ?_
  refine E_jp h (fun s_2 => [(0, (.int .i64 k_00)), (8, (.bool s_2))]) (fun s_2 => []) (fun k_1 h => ?_) (fun s_2 h => ?_)
  · refine E_reg ?_
    refine E_mv (v' := (.int .i64 k_00)) rfl ?_
    refine E_op0 (v' := (.bool (decide (k_00 < 1)))) rfl rfl ?_
    refine E_mv (v' := (.bool (decide (k_00 < 1)))) rfl ?_
    refine E_gsT (b := (decide (k_00 < 1))) rfl rfl rfl (fun hb => ?_) (fun hb => ?_)
    · rw [ite_f hb] at h
      refine E_mv (v' := (.int .i64 k_00)) rfl ?_
      refine E_gh rfl ?_
      refine E_op0 (v' := (.bool (decide (k_00 > 5)))) rfl rfl ?_
      refine E_pf rfl rfl ?_
      refine E_nil ?_
      exact E_jx _ h (wk_aw ⟨(.refl _), (.refl _), trivial⟩)
    · rw [ite_t hb] at h
      refine E_gm rfl ?_
      refine E_pt rfl rfl ?_
      refine E_nil ?_
      exact E_jx _ h (wk_aw ⟨(.refl _), (.refl _), trivial⟩)
  · refine E_sq ?_
    refine E_cs (t := s_2) rfl (fun hb => ?_) (fun hb => ?_)
    · rw [ite_t hb] at h
      refine E_sq ?_
      refine E_reg ?_
      refine E_mv (v' := (.str (ByteArray.mk #[]))) rfl ?_
      refine E_nil ?_
      refine E_nx ?_
      refine E_ret ?_
      refine E_thr ?_
      cases h
      exact ⟨trivial, _, rfl, (fz_b rfl (.refl _))⟩
    · rw [ite_f hb] at h
      refine E_skip ?_
      refine E_nx ?_
      refine E_sq ?_
      refine E_reg ?_
      refine E_opw (v := (.sl true 1 (List.map avS [(ByteArray.mk #[101, 120, 105, 116]), (ByteArray.mk #[112, 97, 110, 105, 99]), (ByteArray.mk #[102, 117, 101, 108]), (ByteArray.mk #[115, 116, 97, 99, 107]), (ByteArray.mk #[115, 116, 117, 99, 107])]))) (v' := (.sl true 1 (List.map avS [(ByteArray.mk #[101, 120, 105, 116]), (ByteArray.mk #[112, 97, 110, 105, 99]), (ByteArray.mk #[102, 117, 101, 108]), (ByteArray.mk #[115, 116, 97, 99, 107]), (ByteArray.mk #[115, 116, 117, 99, 107])]))) (rd := []) (δ := none) (by kernel_rfl) (.refl _) rfl ?_
      refine E_mv (v' := (.int .i64 k_00)) rfl ?_
      refine E_op0 (v' := (.int .i64 (I64 (k_00 - 1)))) rfl rfl ?_
      obtain ⟨y_3, hy_3, h⟩ := bd_some h
      refine E_iadF rfl rfl hy_3 ?_
      refine E_op0 (v' := (.str y_3)) rfl rfl ?_
      refine E_mv (v' := (.str y_3)) rfl ?_
      refine E_nil ?_
      refine E_nx ?_
      refine E_ret ?_
      cases h
      exact ⟨trivial, _, rfl, (fz_b rfl (.refl _))⟩
/- windlass/trace.Ended -/
def fc21 : FC := (.seq (.reg [⟨(some 1), none, .op (.box (.t 0))⟩,
  ⟨(some 2), none, .op (.mv (.v (.bool false)))⟩] [])
  (.seq (.reg [⟨(some 3), none, .op (.fad 0 (.t 1))⟩,
  ⟨(some 4), none, .op (.load none (.t 3))⟩,
  ⟨(some 5), none, .op (.bin .none .eql (.t 4) (.v (.int .i64 1)))⟩,
  ⟨(some 6), none, .op (.mv (.t 5))⟩,
  ⟨(some 7), some (6, false), .op (.fad 0 (.t 1))⟩,
  ⟨(some 8), some (6, false), .op (.load none (.t 7))⟩,
  ⟨(some 9), some (6, false), .op (.bin .none .eql (.t 8) (.v (.int .i64 2)))⟩,
  ⟨(some 10), none, .op (.pick (.t 6) (.v (.bool true)) (.t 9))⟩,
  ⟨(some 2), none, .op (.mv (.t 10))⟩] [])
  .ret))
theorem fn21 : Fn3 Tryd.prog 21 11 [(2, none)] fc21 := ⟨_, _, Tryd.func21, rfl, rfl, rfl, by kernel_rfl⟩
def trace_Ended_s (e_00 : End) : Option Bool :=
  (jp (fun (s_2 : Bool) => (some s_2)) (fun k_1 => (if (e_00.Kind == 1) then (k_1 true) else (k_1 (e_00.Kind == 2)))))
theorem trace_Ended_ev {e_00 : End} {r : Bool} (h : trace_Ended_s e_00 = some r) : PureEv Tryd.prog 21 [(End.av e_00)] (.bool r) := by
  unfold trace_Ended_s at h
  refine PureEv_end mixed fn21 (by simp) [] 6 ?_
  unfold fc21
  refine E_sq ?_
  refine E_reg ?_
  refine E_op0 (v' := (.cptr (End.av e_00).cells 0)) rfl rfl ?_
  refine E_mv (v' := (.bool false)) rfl ?_
  refine E_nil ?_
  refine E_nx ?_
  refine E_jp h (fun s_2 => [(2, (.bool s_2))]) (fun s_2 => []) (fun k_1 h => ?_) (fun s_2 h => ?_)
  · refine E_reg ?_
    refine E_op0 (v' := (.cptr (End.av e_00).cells 0)) rfl rfl ?_
    refine E_op0 (v' := (.int .i64 e_00.Kind)) rfl rfl ?_
    refine E_op0 (v' := (.bool (e_00.Kind == 1))) rfl rfl ?_
    refine E_mv (v' := (.bool (e_00.Kind == 1))) rfl ?_
    refine E_gsT (b := (e_00.Kind == 1)) rfl rfl rfl (fun hb => ?_) (fun hb => ?_)
    · rw [ite_f hb] at h
      refine E_op0 (v' := (.cptr (End.av e_00).cells 0)) rfl rfl ?_
      refine E_gh rfl ?_
      refine E_op0 (v' := (.int .i64 e_00.Kind)) rfl rfl ?_
      refine E_gh rfl ?_
      refine E_op0 (v' := (.bool (e_00.Kind == 2))) rfl rfl ?_
      refine E_pf rfl rfl ?_
      refine E_mv (v' := (.bool (e_00.Kind == 2))) rfl ?_
      refine E_nil ?_
      exact E_jx _ h (wk_aw ⟨(.refl _), trivial⟩)
    · rw [ite_t hb] at h
      refine E_gm rfl ?_
      refine E_gm rfl ?_
      refine E_pt rfl rfl ?_
      refine E_mv (v' := (.bool true)) rfl ?_
      refine E_nil ?_
      exact E_jx _ h (wk_aw ⟨(.refl _), trivial⟩)
  · refine E_ret ?_
    cases h
    exact ⟨trivial, _, rfl, (fz_b rfl (.refl _))⟩
def gc_trace_Print : FC := (.seq (.reg [⟨(some 3), none, .op (.box (.t 1))⟩,
  ⟨(some 4), none, .op (.mv (.v (.str (ByteArray.mk #[]))))⟩] [])
  (.seq (.reg [⟨(some 5), none, .op (.mv (.v .nils))⟩] [])
  (.seq (.seq (.reg [⟨(some 11), none, .op (.mv (.t 0))⟩,
  ⟨(some 12), none, .op (.len .sl (.t 11))⟩,
  ⟨(some 13), none, .op (.mv (.v (.int .i64 0)))⟩] [])
  (.block 0 (.loop (.seq (.reg [⟨(some 14), none, .op (.bin .none .lss (.t 13) (.t 12))⟩] [])
  (.seq (.cond (.t 14)
  .skip
  (.exit 0))
  (.seq (.block 1 (.seq (.reg [⟨(some 15), none, .op (.iad none (some 2) (.t 11) (.t 13))⟩,
  ⟨(some 16), none, .op (.load (some 2) (.t 15))⟩,
  ⟨(some 7), none, .op (.new [(.int .i64 0), (.int .u64 0)])⟩,
  ⟨none, none, .op (.store 2 (.t 7) (.t 16))⟩] [])
  (.seq (.reg [⟨(some 8), none, .op (.mv (.v (.str (ByteArray.mk #[63]))))⟩] [])
  (.seq (.seq (.reg [⟨(some 17), none, .op (.fad 0 (.t 7))⟩,
  ⟨(some 18), none, .op (.load none (.t 17))⟩,
  ⟨(some 19), none, .call 35 [(.t 18)]⟩,
  ⟨(some 9), none, .op (.mv (.t 19))⟩] [])
  (.seq (.reg [⟨(some 20), none, .op (.mv (.t 9))⟩,
  ⟨(some 21), none, .op (.bin .none .neq (.t 20) (.v (.str (ByteArray.mk #[]))))⟩] [])
  (.cond (.t 21)
  (.reg [⟨(some 22), none, .op (.mv (.t 9))⟩,
  ⟨(some 23), none, .op (.bin .none .add (.t 22) (.v (.str (ByteArray.mk #[61]))))⟩,
  ⟨(some 24), none, .op (.fad 1 (.t 7))⟩,
  ⟨(some 25), none, .op (.load none (.t 24))⟩,
  ⟨(some 26), none, .call 36 [(.t 25), (.v (.int .i64 10))]⟩,
  ⟨(some 27), none, .op (.bin .none .add (.t 23) (.t 26))⟩,
  ⟨(some 8), none, .op (.mv (.t 27))⟩] [])
  .skip)))
  (.reg [⟨(some 28), none, .op (.mv (.t 5))⟩,
  ⟨(some 29), none, .op (.mv (.t 8))⟩,
  ⟨(some 30), none, .op (.bsl none [(.str (ByteArray.mk #[]))] 1 [(0, 1, (.t 29))])⟩,
  ⟨(some 31), none, .op (.app none 16 (.t 28) (.t 30))⟩,
  ⟨(some 5), none, .op (.mv (.t 31))⟩] [])))))
  (.reg [⟨(some 32), none, .op (.bin .none .add (.t 13) (.v (.int .i64 1)))⟩,
  ⟨(some 13), none, .op (.mv (.t 32))⟩] [])))))))
  (.seq (.reg [⟨(some 33), none, .op (.fad 0 (.t 3))⟩,
  ⟨(some 34), none, .op (.load none (.t 33))⟩,
  ⟨(some 35), none, .call 37 [(.t 34)]⟩,
  ⟨(some 10), none, .op (.mv (.t 35))⟩] [])
  (.seq (.block 2 (.seq (.reg [⟨(some 37), none, .op (.mv (.t 10))⟩,
  ⟨(some 38), none, .op (.bin .none .eql (.t 37) (.v (.str (ByteArray.mk #[]))))⟩,
  ⟨(some 36), none, .op (.mv (.t 38))⟩] [])
  (.cond (.t 36)
  (.reg [⟨(some 10), none, .op (.mv (.v (.str (ByteArray.mk #[63]))))⟩] [])
  (.seq (.reg [⟨(some 40), none, .op (.load (some 2) (.t 3))⟩,
  ⟨(some 41), none, .call 21 [(.t 40)]⟩,
  ⟨(some 39), none, .op (.mv (.t 41))⟩] [])
  (.cond (.t 39)
  (.reg [⟨(some 42), none, .op (.mv (.t 10))⟩,
  ⟨(some 43), none, .op (.fad 1 (.t 3))⟩,
  ⟨(some 44), none, .op (.load none (.t 43))⟩,
  ⟨(some 45), none, .call 36 [(.t 44), (.v (.int .i64 10))]⟩,
  ⟨(some 46), none, .op (.bin .none .add (.v (.str (ByteArray.mk #[61]))) (.t 45))⟩,
  ⟨(some 47), none, .op (.bin .none .add (.t 42) (.t 46))⟩,
  ⟨(some 10), none, .op (.mv (.t 47))⟩] [])
  .skip)))))
  (.seq (.block 1000003 (.seq (.reg [⟨(some 48), none, .op (.mv (.t 5))⟩,
  ⟨(some 49), none, .op (.mv (.t 10))⟩,
  ⟨(some 50), none, .op (.bsl none [(.str (ByteArray.mk #[]))] 1 [(0, 1, (.t 49))])⟩,
  ⟨(some 51), none, .op (.app none 16 (.t 48) (.t 50))⟩] []) (.reg [⟨(some 52), none, .call 38 [(.t 51), (.v (.str (ByteArray.mk #[32])))]⟩,
  ⟨(some 4), none, .op (.mv (.t 52))⟩] [])))
  .ret))))))
theorem gn_trace_Print : Fn3S Tryd.prog 17 53 [(4, none)] gc_trace_Print := ⟨_, _, Tryd.func17, rfl, rfl, rfl, by kernel_rfl, by kernel_rfl⟩
def trace_Print_s (events_00 : (List Event)) (e_01 : End) : Option ByteArray :=
  ((rng (fun (i_2 : Nat) (x_3 : Event) (s_1 : (End × (List ByteArray))) => (((trace_event_s x_3.Kind).bind fun eve_5 => (jp (fun (s_7 : ByteArray) => ((appL 16 s_1.2 [s_7]).bind fun l_11 => (some (.nxt (s_1.1, l_11))))) (fun k_6 => (if (!(ByteArray.toList eve_5 == ByteArray.toList (ByteArray.mk #[]))) then ((catS eve_5 (ByteArray.mk #[61])).bind fun s_8 => ((strconv_FormatUint_s x_3.Value 10).bind fun vfor_9 => ((catS s_8 vfor_9).bind fun s_10 => (k_6 s_10)))) else (k_6 (ByteArray.mk #[63])))))) : Option (Stp (End × (List ByteArray)) (Option ByteArray)))) events_00 (e_01, [])).bind (oc (fun (s_1 : (End × (List ByteArray))) => ((trace_ending_s s_1.1.Kind).bind fun vend_12 => (jp (fun (s_14 : ByteArray) => ((appL 16 s_1.2 [s_14]).bind fun l_19 => ((strings_Join_s l_19 (ByteArray.mk #[32])).bind fun joi_20 => (some joi_20)))) (fun k_13 => (if (ByteArray.toList vend_12 == ByteArray.toList (ByteArray.mk #[])) then (k_13 (ByteArray.mk #[63])) else ((trace_Ended_s s_1.1).bind fun vend_15 => (if vend_15 then ((strconv_FormatUint_s s_1.1.Value 10).bind fun vfor_16 => ((catS (ByteArray.mk #[61]) vfor_16).bind fun s_17 => ((catS vend_12 s_17).bind fun s_18 => (k_13 s_18)))) else (k_13 vend_12))))))))))
theorem trace_Print_ev {events_00 : (List Event)} {e_01 : End} {r : ByteArray} (h : trace_Print_s events_00 e_01 = some r) : PureEv Tryd.prog 17 [(.sl false 2 (List.map Event.av events_00)), (End.av e_01)] (.str r) := by
  unfold trace_Print_s at h
  refine PureEv_endS mixed gn_trace_Print (by simp) [7, 31] 6 ?_
  unfold gc_trace_Print
  refine E_sq ?_
  refine E_reg ?_
  refine E_op0 (v' := (.cptr (End.av e_01).cells 0)) rfl rfl ?_
  refine E_mv (v' := (.str (ByteArray.mk #[]))) rfl ?_
  refine E_nil ?_
  refine E_nx ?_
  refine E_sq ?_
  refine E_reg ?_
  refine E_mv (v' := .nils) rfl ?_
  refine E_nil ?_
  refine E_nx ?_
  refine E_as ?_
  refine E_sq ?_
  refine E_reg ?_
  refine E_mv (v' := (.sl false 2 (List.map Event.av events_00))) rfl ?_
  refine E_len rfl ?_
  refine E_mv (v' := (.int .i64 0)) rfl ?_
  refine E_nil ?_
  refine E_nx ?_
  refine E_sq ?_
  refine E_rngO (fun s_1 => [(3, (.cptr (End.av s_1.1).cells 0)), (5, (.ref 0 1 0 (List.length s_1.2) none)), (11, (.sl false 2 (List.map Event.av events_00)))]) (fun s_1 => [.arr 1 (flat avS s_1.2)]) h (by decide) (by decide) (fun _ => ⟨rfl, rfl, rfl, rfl⟩) (wk_rn [none] rfl (Nat.le_of_ble_eq_true rfl) ⟨(rn_obN rfl rfl rfl), trivial⟩ ⟨(rn_b rfl), (rn_b rfl), (rn_b (cp_blw (End.enc.blw _ 0))), (rn_nil rfl), (rn_b (Event.enc.blws 0)), trivial⟩) (fun i_2 x_3 s_1 c hx_4 hlt h => ?_) (fun s_1 fr' S' h hw => ?_)
  · refine E_sq ?_
    refine E_reg ?_
    refine E_iadF rfl rfl (getI_of hx_4) ?_
    refine E_op0 (v' := (Event.av x_3)) rfl rfl ?_
    refine E_op (v' := .ptr 1 0 0) (S' := [.arr 1 (flat avS s_1.2), .arr 0 [(.int .i64 0), (.int .u64 0)]]) rfl rfl rfl ?_
    refine E_do (S' := [.arr 1 (flat avS s_1.2), .arr 0 [(.int .i64 x_3.Kind), (.int .u64 x_3.Value)]]) rfl rfl ?_
    refine E_nil ?_
    refine E_nx ?_
    refine E_sq ?_
    refine E_reg ?_
    refine E_mv (v' := (.str (ByteArray.mk #[63]))) rfl ?_
    refine E_nil ?_
    refine E_nx ?_
    refine E_as ?_
    refine E_sq ?_
    refine E_reg ?_
    refine E_op0 (v' := (.ptr 1 0 0)) rfl rfl ?_
    refine E_op (v' := (.int .i64 x_3.Kind)) (S' := [.arr 1 (flat avS s_1.2), .arr 0 [(.int .i64 x_3.Kind), (.int .u64 x_3.Value)]]) rfl rfl rfl ?_
    obtain ⟨eve_5, heve_5, h⟩ := bd_some h
    refine E_callW (trace_event_ev  heve_5) rfl ⟨(.refl _), trivial⟩ (blwL_of ⟨rfl, trivial⟩) rfl ?_
    refine E_mv (v' := (.str eve_5)) rfl ?_
    refine E_nil ?_
    refine E_nx ?_
    refine E_as ?_
    refine E_sq ?_
    refine E_reg ?_
    refine E_mv (v' := (.str eve_5)) rfl ?_
    refine E_op0 (v' := (.bool (!(ByteArray.toList eve_5 == ByteArray.toList (ByteArray.mk #[]))))) rfl rfl ?_
    refine E_nil ?_
    refine E_nx ?_
    refine E_jp h (fun s_7 => [(3, (.cptr (End.av s_1.1).cells 0)), (5, (.ref 0 1 0 (List.length s_1.2) none)), (8, (.str s_7)), (11, (.sl false 2 (List.map Event.av events_00))), (12, (.int .i64 (List.length events_00 : Int))), (13, (.int .i64 (i_2 : Int)))]) (fun s_7 => [.arr 1 (flat avS s_1.2)]) (fun k_6 h => ?_) (fun s_7 h => ?_)
    · refine E_cs (t := (!(ByteArray.toList eve_5 == ByteArray.toList (ByteArray.mk #[])))) rfl (fun hb => ?_) (fun hb => ?_)
      · rw [ite_t hb] at h
        refine E_reg ?_
        refine E_mv (v' := (.str eve_5)) rfl ?_
        obtain ⟨s_8, hs_8, h⟩ := bd_some h
        refine E_cat rfl rfl hs_8 ?_
        refine E_op0 (v' := (.ptr 1 0 1)) rfl rfl ?_
        refine E_op (v' := (.int .u64 x_3.Value)) (S' := [.arr 1 (flat avS s_1.2), .arr 0 [(.int .i64 x_3.Kind), (.int .u64 x_3.Value)]]) rfl rfl rfl ?_
        obtain ⟨vfor_9, hvfor_9, h⟩ := bd_some h
        refine E_callW (strconv_FormatUint_ev  hvfor_9) rfl ⟨(.refl _), (.refl _), trivial⟩ (blwL_of ⟨rfl, rfl, trivial⟩) rfl ?_
        obtain ⟨s_10, hs_10, h⟩ := bd_some h
        refine E_cat rfl rfl hs_10 ?_
        refine E_mv (v' := (.str s_10)) rfl ?_
        refine E_nil ?_
        exact E_jx _ h (wk_rn [some (0, 0)] rfl (Nat.le_of_ble_eq_true rfl) ⟨(rn_ob rfl rfl (.refl (encS.blwf 0 _)) rfl), trivial⟩ ⟨(rn_b (cp_blw (End.enc.blw _ 0))), (rn_refL encS rfl rfl rfl), (rn_b rfl), (rn_b (Event.enc.blws 0)), (rn_b rfl), (rn_b rfl), trivial⟩)
      · rw [ite_f hb] at h
        refine E_skip ?_
        exact E_jx _ h (wk_rn [some (0, 0)] rfl (Nat.le_of_ble_eq_true rfl) ⟨(rn_ob rfl rfl (.refl (encS.blwf 0 _)) rfl), trivial⟩ ⟨(rn_b (cp_blw (End.enc.blw _ 0))), (rn_refL encS rfl rfl rfl), (rn_b rfl), (rn_b (Event.enc.blws 0)), (rn_b rfl), (rn_b rfl), trivial⟩)
    · refine E_reg ?_
      refine E_mv (v' := (.ref 0 1 0 (List.length s_1.2) none)) rfl ?_
      refine E_mv (v' := (.str s_7)) rfl ?_
      refine E_opw (v' := (.sl true 1 (List.map avS [s_7]))) rfl (.refl _) rfl ?_
      obtain ⟨l_11, hl_11, h⟩ := bd_some h
      refine E_apL (S' := [.arr 2 (flat avS l_11)]) encS rfl (src_sl [s_7]) rfl hl_11 rfl ?_
      refine E_mv (v' := (.ref 0 2 0 (List.length l_11) none)) rfl ?_
      refine E_nil ?_
      cases h
      exact L_nn rfl (wk_rn [some (0, 0)] rfl (Nat.le_of_ble_eq_true rfl) ⟨(rn_ob rfl rfl (.refl (encS.blwf 0 _)) rfl), trivial⟩ ⟨(rn_b rfl), (rn_b rfl), (rn_b (cp_blw (End.enc.blw _ 0))), (rn_refL encS rfl rfl rfl), (rn_b (Event.enc.blws 0)), trivial⟩)
  · refine X_nx hw ?_
    refine E_sq ?_
    refine E_reg ?_
    refine E_op0 (v' := (.cptr (End.av s_1.1).cells 0)) rfl rfl ?_
    refine E_op0 (v' := (.int .i64 s_1.1.Kind)) rfl rfl ?_
    obtain ⟨vend_12, hvend_12, h⟩ := bd_some h
    refine E_callW (trace_ending_ev  hvend_12) rfl ⟨(.refl _), trivial⟩ (blwL_of ⟨rfl, trivial⟩) rfl ?_
    refine E_mv (v' := (.str vend_12)) rfl ?_
    refine E_nil ?_
    refine E_nx ?_
    refine E_jp h (fun s_14 => [(5, (.ref 0 1 0 (List.length s_1.2) none)), (10, (.str s_14))]) (fun s_14 => [.arr 1 (flat avS s_1.2)]) (fun k_13 h => ?_) (fun s_14 h => ?_)
    · refine E_block ?_
      refine E_sq ?_
      refine E_reg ?_
      refine E_mv (v' := (.str vend_12)) rfl ?_
      refine E_op0 (v' := (.bool (ByteArray.toList vend_12 == ByteArray.toList (ByteArray.mk #[])))) rfl rfl ?_
      refine E_mv (v' := (.bool (ByteArray.toList vend_12 == ByteArray.toList (ByteArray.mk #[])))) rfl ?_
      refine E_nil ?_
      refine E_nx ?_
      refine E_cs (t := (ByteArray.toList vend_12 == ByteArray.toList (ByteArray.mk #[]))) rfl (fun hb => ?_) (fun hb => ?_)
      · rw [ite_t hb] at h
        refine E_reg ?_
        refine E_mv (v' := (.str (ByteArray.mk #[63]))) rfl ?_
        refine E_nil ?_
        refine E_bln ?_
        exact E_jx _ h (wk_rn [some (0, 0)] rfl (Nat.le_of_ble_eq_true rfl) ⟨(rn_ob rfl rfl (.refl (encS.blwf 0 _)) rfl), trivial⟩ ⟨(rn_refL encS rfl rfl rfl), (rn_b rfl), trivial⟩)
      · rw [ite_f hb] at h
        refine E_sq ?_
        refine E_reg ?_
        refine E_op0 (v' := (End.av s_1.1)) rfl rfl ?_
        obtain ⟨vend_15, hvend_15, h⟩ := bd_some h
        refine E_callW (trace_Ended_ev  hvend_15) rfl ⟨(.refl _), trivial⟩ (blwL_of ⟨(End.enc.blw _ 0), trivial⟩) rfl ?_
        refine E_mv (v' := (.bool vend_15)) rfl ?_
        refine E_nil ?_
        refine E_nx ?_
        refine E_cs (t := vend_15) rfl (fun hb => ?_) (fun hb => ?_)
        · rw [ite_t hb] at h
          refine E_reg ?_
          refine E_mv (v' := (.str vend_12)) rfl ?_
          refine E_op0 (v' := (.cptr (End.av s_1.1).cells 1)) rfl rfl ?_
          refine E_op0 (v' := (.int .u64 s_1.1.Value)) rfl rfl ?_
          obtain ⟨vfor_16, hvfor_16, h⟩ := bd_some h
          refine E_callW (strconv_FormatUint_ev  hvfor_16) rfl ⟨(.refl _), (.refl _), trivial⟩ (blwL_of ⟨rfl, rfl, trivial⟩) rfl ?_
          obtain ⟨s_17, hs_17, h⟩ := bd_some h
          refine E_cat rfl rfl hs_17 ?_
          obtain ⟨s_18, hs_18, h⟩ := bd_some h
          refine E_cat rfl rfl hs_18 ?_
          refine E_mv (v' := (.str s_18)) rfl ?_
          refine E_nil ?_
          refine E_bln ?_
          exact E_jx _ h (wk_rn [some (0, 0)] rfl (Nat.le_of_ble_eq_true rfl) ⟨(rn_ob rfl rfl (.refl (encS.blwf 0 _)) rfl), trivial⟩ ⟨(rn_refL encS rfl rfl rfl), (rn_b rfl), trivial⟩)
        · rw [ite_f hb] at h
          refine E_skip ?_
          refine E_bln ?_
          exact E_jx _ h (wk_rn [some (0, 0)] rfl (Nat.le_of_ble_eq_true rfl) ⟨(rn_ob rfl rfl (.refl (encS.blwf 0 _)) rfl), trivial⟩ ⟨(rn_refL encS rfl rfl rfl), (rn_b rfl), trivial⟩)
    · refine E_sq ?_
      refine E_block ?_
      refine E_sq ?_
      refine E_reg ?_
      refine E_mv (v' := (.ref 0 1 0 (List.length s_1.2) none)) rfl ?_
      refine E_mv (v' := (.str s_14)) rfl ?_
      refine E_opw (v' := (.sl true 1 (List.map avS [s_14]))) rfl (.refl _) rfl ?_
      obtain ⟨l_19, hl_19, h⟩ := bd_some h
      refine E_apL (S' := [.arr 2 (flat avS l_19)]) encS rfl (src_sl [s_14]) rfl hl_19 rfl ?_
      refine E_nil ?_
      refine E_nxw (F := [(51, (.sl false 1 (List.map avS l_19)))]) (T := []) (wk_trans (fr'' := [(51, (.sl false 1 (List.map avS l_19)))]) (S'' := []) (wk_rn (fr' := [(51, (.ref 0 1 0 (List.length l_19) none))]) (S' := [.arr 1 (flat avS l_19)]) [some (0, 0)] rfl (Nat.le_of_ble_eq_true rfl) ⟨(rn_ob rfl rfl (.refl (encS.blwf 0 _)) rfl), trivial⟩ ⟨(rn_refL encS rfl rfl rfl), trivial⟩) (wk_fz 0 6 rfl trivial ⟨(fz_ref encS (Nat.le_of_ble_eq_true rfl) rfl), trivial⟩)) ?_
      refine E_reg ?_
      obtain ⟨joi_20, hjoi_20, h⟩ := bd_some h
      refine E_callW (strings_Join_ev  hjoi_20) rfl ⟨(.refl _), (.refl _), trivial⟩ (blwL_of ⟨(encS.blws 0), rfl, trivial⟩) rfl ?_
      refine E_mv (v' := (.str joi_20)) rfl ?_
      refine E_nil ?_
      refine E_bln ?_
      refine E_nx ?_
      refine E_ret ?_
      cases h
      exact ⟨trivial, _, rfl, (fz_b rfl (.refl _))⟩
/- windlass/windlasslaw02.first -/
def fc11 : FC := (.seq (.reg [⟨(some 0), none, .op (.mv (.v (.bool false)))⟩] [])
  (.seq (.reg [⟨(some 3), none, .op (.bsl none [(.int .u64 0)] 1 [(0, 1, (.v (.int .u64 5)))])⟩,
  ⟨(some 4), none, .call 12 [(.t 3)]⟩,
  ⟨(some 1), none, .op (.mv (.t 4))⟩] [])
  (.seq (.reg [⟨(some 5), none, .op (.mv (.t 1))⟩,
  ⟨(some 6), none, .call 13 [(.t 5)]⟩,
  ⟨(some 2), none, .op (.mv (.t 6))⟩] [])
  (.seq (.reg [⟨(some 7), none, .op (.mv (.t 1))⟩,
  ⟨(some 8), none, .call 14 [(.t 7), (.v (.int .u64 7))]⟩] [])
  (.seq (.reg [⟨(some 9), none, .op (.mv (.t 2))⟩,
  ⟨(some 10), none, .op (.bin .none .eql (.t 9) (.v (.int .u64 5)))⟩,
  ⟨(some 11), none, .op (.mv (.t 10))⟩,
  ⟨(some 12), some (11, true), .op (.mv (.t 1))⟩,
  ⟨(some 13), some (11, true), .call 15 [(.t 12)]⟩,
  ⟨(some 14), some (11, true), .op (.build [(.int .i64 0), (.int .u64 0)] [(0, 1, (.v (.int .i64 1))), (1, 1, (.v (.int .u64 3)))])⟩,
  ⟨(some 15), some (11, true), .call 17 [(.t 13), (.t 14)]⟩,
  ⟨(some 16), some (11, true), .op (.bin .none .eql (.t 15) (.v (.str (ByteArray.mk #[105, 110, 61, 53, 32, 111, 117, 116, 61, 55, 32, 101, 120, 105, 116, 61, 51]))))⟩,
  ⟨(some 17), none, .op (.pick (.t 11) (.t 16) (.v (.bool false)))⟩,
  ⟨(some 0), none, .op (.mv (.t 17))⟩] [])
  .ret)))))
theorem fn11 : Fn3 Tryd.prog 11 18 [(0, none)] fc11 := ⟨_, _, Tryd.func11, rfl, rfl, rfl, by kernel_rfl⟩
def windlasslaw02_first_s  : Option Bool :=
  ((trace_New_o_s ([5])).bind fun (new_1 : (List Int)) => ((trace_Trace_In_pNn_s new_1).bind fun (vin_2 : (Int × (List Int) × (List Event))) => ((trace_Trace_Out_pNR_s vin_2.2.1 vin_2.2.2 7).bind fun (out_3 : ((List Int) × (List Event))) => (jp (fun (s_5 : Bool) => (some s_5)) (fun k_4 => (if (vin_2.1 == 5) then ((trace_Trace_Events_pNR_s out_3.1 out_3.2).bind fun (eve_6 : ((List Event) × (List Int))) => ((trace_Print_s eve_6.1 (End.mk 1 3)).bind fun pri_7 => (k_4 (ByteArray.toList pri_7 == ByteArray.toList (ByteArray.mk #[105, 110, 61, 53, 32, 111, 117, 116, 61, 55, 32, 101, 120, 105, 116, 61, 51]))))) else (k_4 false)))))))
theorem windlasslaw02_first_ev  {r : Bool} (h : windlasslaw02_first_s  = some r) : PureEv Tryd.prog 11 [] (.bool r) := by
  unfold windlasslaw02_first_s at h
  refine PureEv_end mixed fn11 (by simp) [] 6 ?_
  unfold fc11
  refine E_sq ?_
  refine E_reg ?_
  refine E_mv (v' := (.bool false)) rfl ?_
  refine E_nil ?_
  refine E_nx ?_
  refine E_sq ?_
  refine E_reg ?_
  refine E_opw (v' := (.sl true 1 (List.map (avI .u64) [5]))) rfl (.refl _) rfl ?_
  obtain ⟨new_1, hnew_1, h⟩ := bd_some h
  refine E_callF (S' := [.arr 0 [(.sl false 1 (List.map (avI .u64) new_1)), .nils]]) (r' := (.ptr 0 0 0)) (trace_New_o_ev hnew_1) [] rfl rfl (by decide) rfl rfl trivial ⟨(fr_outN rfl rfl (.cons (rn_b ((encI .u64).blws 0)) (.cons (rn_b rfl) (.nil (Nat.zero_le _)))) rfl), trivial⟩ trivial rfl (.cons (.base ((encI .u64).blws 0) .ex) (.nil (Nat.zero_le _))) (fo_ptr rfl rfl rfl rfl) ?_
  refine E_mv (v' := (.ptr 0 0 0)) rfl ?_
  refine E_nil ?_
  refine E_nx ?_
  refine E_sq ?_
  refine E_reg ?_
  refine E_mv (v' := (.ptr 0 0 0)) rfl ?_
  obtain ⟨vin_2, hvin_2, h⟩ := bd_some h
  refine E_callF (S' := [.arr 0 [(.sl false 1 (List.map (avI .u64) vin_2.2.1)), (.ref 1 1 0 (List.length vin_2.2.2) (some 2))], .arr 1 (flat Event.av vin_2.2.2)]) (r' := (.int .u64 vin_2.1)) (trace_Trace_In_pNn_ev hvin_2) [0] rfl rfl (by decide) rfl rfl ⟨(fr_in rfl rfl (.cons (.base ((encI .u64).blws 0) (.refl _)) (.cons (rn_b rfl) (.nil (Nat.zero_le _))))), trivial⟩ ⟨(fr_outS rfl rfl (.cons (rn_b ((encI .u64).blws 0)) (.cons (fo_ref rfl rfl rfl rfl) (.nil (Nat.zero_le _)))) rfl rfl), (fr_outN rfl rfl (.refl (Event.enc.blwf 0 _)) rfl), trivial⟩ ⟨.inl rfl, trivial⟩ rfl (.cons (fi_ptr rfl rfl rfl rfl) (.nil (Nat.zero_le _))) (rn_b rfl) ?_
  refine E_mv (v' := (.int .u64 vin_2.1)) rfl ?_
  refine E_nil ?_
  refine E_nx ?_
  refine E_sq ?_
  refine E_reg ?_
  refine E_mv (v' := (.ptr 0 0 0)) rfl ?_
  obtain ⟨out_3, hout_3, h⟩ := bd_some h
  refine E_callF (S' := [.arr 0 [(.sl false 1 (List.map (avI .u64) out_3.1)), (.ref 1 2 0 (List.length out_3.2) (some 2))], .arr 2 (flat Event.av out_3.2)]) (r' := (.tup [])) (trace_Trace_Out_pNR_ev hout_3) [0, 1] rfl rfl (by decide) rfl rfl ⟨(fr_in rfl rfl (.cons (.base ((encI .u64).blws 0) (.refl _)) (.cons (fi_ref rfl rfl rfl rfl) (.nil (Nat.zero_le _))))), (fr_in rfl rfl (.refl (Event.enc.blwf 0 _))), trivial⟩ ⟨(fr_outS rfl rfl (.cons (rn_b ((encI .u64).blws 0)) (.cons (fo_ref rfl rfl rfl rfl) (.nil (Nat.zero_le _)))) rfl rfl), (fr_out rfl rfl (.refl (Event.enc.blwf 0 _)) rfl rfl), trivial⟩ ⟨.inl rfl, .inl rfl, trivial⟩ rfl (.cons (fi_ptr rfl rfl rfl rfl) (.cons (.base rfl (.refl _)) (.nil (Nat.zero_le _)))) (rn_tup trivial) ?_
  refine E_nil ?_
  refine E_nx ?_
  refine E_jp h (fun s_5 => [(0, (.bool s_5))]) (fun s_5 => []) (fun k_4 h => ?_) (fun s_5 h => ?_)
  · refine E_reg ?_
    refine E_mv (v' := (.int .u64 vin_2.1)) rfl ?_
    refine E_op0 (v' := (.bool (vin_2.1 == 5))) rfl rfl ?_
    refine E_mv (v' := (.bool (vin_2.1 == 5))) rfl ?_
    refine E_gsT (b := (vin_2.1 == 5)) rfl rfl rfl (fun hb => ?_) (fun hb => ?_)
    · rw [ite_t hb] at h
      refine E_mv (v' := (.ptr 0 0 0)) rfl ?_
      refine E_gh rfl ?_
      obtain ⟨eve_6, heve_6, h⟩ := bd_some h
      refine E_callF (S' := [.arr 0 [(.sl false 1 (List.map (avI .u64) eve_6.2)), (.ref 1 2 0 (List.length out_3.2) (some 2))], .arr 2 (flat Event.av out_3.2)]) (r' := (.sl false 2 (List.map Event.av eve_6.1))) (trace_Trace_Events_pNR_ev heve_6) [0, 1] rfl rfl (by decide) rfl rfl ⟨(fr_in rfl rfl (.cons (.base ((encI .u64).blws 0) (.refl _)) (.cons (fi_ref rfl rfl rfl rfl) (.nil (Nat.zero_le _))))), (fr_in rfl rfl (.refl (Event.enc.blwf 0 _))), trivial⟩ ⟨(fr_outS rfl rfl (.cons (rn_b ((encI .u64).blws 0)) (.cons (fo_ref rfl rfl rfl rfl) (.nil (Nat.zero_le _)))) rfl rfl), (fr_outS rfl rfl (.refl (Event.enc.blwf 0 _)) rfl rfl), trivial⟩ ⟨.inl rfl, .inl rfl, trivial⟩ rfl (.cons (fi_ptr rfl rfl rfl rfl) (.nil (Nat.zero_le _))) (rn_b (Event.enc.blws 0)) ?_
      refine E_gh rfl ?_
      refine E_opw (v' := (End.av (End.mk 1 3))) rfl (.aggL ⟨(.refl _), (.refl _), trivial⟩) rfl ?_
      refine E_gh rfl ?_
      obtain ⟨pri_7, hpri_7, h⟩ := bd_some h
      refine E_callW (trace_Print_ev  hpri_7) rfl ⟨(.refl _), (.refl _), trivial⟩ (blwL_of ⟨(Event.enc.blws 0), (End.enc.blw _ 0), trivial⟩) rfl ?_
      refine E_gh rfl ?_
      refine E_op0 (v' := (.bool (ByteArray.toList pri_7 == ByteArray.toList (ByteArray.mk #[105, 110, 61, 53, 32, 111, 117, 116, 61, 55, 32, 101, 120, 105, 116, 61, 51])))) rfl rfl ?_
      refine E_pt rfl rfl ?_
      refine E_mv (v' := (.bool (ByteArray.toList pri_7 == ByteArray.toList (ByteArray.mk #[105, 110, 61, 53, 32, 111, 117, 116, 61, 55, 32, 101, 120, 105, 116, 61, 51])))) rfl ?_
      refine E_nil ?_
      exact E_jx _ h (wk_rn [] rfl (Nat.le_of_ble_eq_true rfl) trivial ⟨(rn_b rfl), trivial⟩)
    · rw [ite_f hb] at h
      refine E_gm rfl ?_
      refine E_gm rfl ?_
      refine E_gm rfl ?_
      refine E_gm rfl ?_
      refine E_pf rfl rfl ?_
      refine E_mv (v' := (.bool false)) rfl ?_
      refine E_nil ?_
      exact E_jx _ h (wk_rn [] rfl (Nat.le_of_ble_eq_true rfl) trivial ⟨(rn_b rfl), trivial⟩)
  · refine E_ret ?_
    cases h
    exact ⟨trivial, _, rfl, (fz_b rfl (.refl _))⟩
def slices_Clone_0_r_z_s (s_00 : List Int) : Option (List Int) :=
  ((appL 8 [] s_00).bind fun l_1 => (some l_1))
theorem slices_Clone_0_r_z_ev {s_00 : List Int} {r : List Int} (h : slices_Clone_0_r_z_s s_00 = some r) : Ev Tryd.prog 33 [.ref 0 0 0 (List.length s_00) none] (hp [.arr 0 (flat (avI .u64) s_00)]) (.sl false 1 (List.map (avI .u64) r)) (hp [.arr 0 (flat (avI .u64) s_00)]) := by
  unfold slices_Clone_0_r_z_s at h
  obtain ⟨l_1, hl_1, h2⟩ := bd_some h
  clear h
  refine Ev_rf (sz := 1) rfl (fun hx => ?_) (fun hx => ?_) (fun hx => ?_)
  · obtain rfl : s_00 = [] := by simpa using hx
    have e : l_1 = [] := by unfold appL at hl_1; split at hl_1 <;> simp_all
    subst e
    refine Ev_end mixed fn33 (by simp) [5] ?_
    unfold fc33
    refine E_sq ?_
    refine E_reg ?_
    refine E_mv (v' := .nils) rfl ?_
    refine E_nil ?_
    refine E_nx ?_
    refine E_as ?_
    refine E_sq ?_
    refine E_reg ?_
    refine E_mv (v' := .nils) rfl ?_
    refine E_op0 (v' := (.bool true)) rfl rfl ?_
    refine E_nil ?_
    refine E_nx ?_
    refine E_sq ?_
    refine E_cs (t := true) rfl (fun hb => ?_) (fun hb => ?_)
    · refine E_sq ?_
      refine E_reg ?_
      refine E_mv (v' := .nils) rfl ?_
      refine E_nil ?_
      refine E_nx ?_
      refine E_ret ?_
      refine E_thr ?_
      cases h2
      exact ⟨trivial, _, _, rfl, gwk_rn [some (0, 0)] rfl (Nat.le_of_ble_eq_true rfl) ⟨(rn_obS rfl rfl (.refl ((encI .u64).blwf 0 _)) rfl), trivial⟩, (.base rfl .nil)⟩
    · cases hb
  · obtain rfl : s_00 = [] := by simpa using hx
    refine Ev_end mixed fn33 (by simp) [5] ?_
    unfold fc33
    refine E_sq ?_
    refine E_reg ?_
    refine E_mv (v' := .nils) rfl ?_
    refine E_nil ?_
    refine E_nx ?_
    refine E_as ?_
    refine E_sq ?_
    refine E_reg ?_
    refine E_mv (v' := (.snn 1)) rfl ?_
    refine E_op0 (v' := (.bool false)) rfl rfl ?_
    refine E_nil ?_
    refine E_nx ?_
    refine E_sq ?_
    refine E_cs (t := false) rfl (fun hb => ?_) (fun hb => ?_)
    · cases hb
    · refine E_skip ?_
      refine E_nx ?_
      refine E_sq ?_
      refine E_reg ?_
      refine E_op (v' := (.ref 1 0 0 0 none)) (S' := [.arr 0 (flat (avI .u64) []), .arr 0 []]) rfl rfl rfl ?_
      refine E_mv (v' := (.snn 1)) rfl ?_
      refine E_apL (S' := [.arr 0 (flat (avI .u64) []), .arr 1 (flat (avI .u64) l_1)]) (encI .u64) (l := []) rfl (rfl) rfl hl_1 rfl ?_
      refine E_mv (v' := (.ref 1 1 0 (List.length l_1) none)) rfl ?_
      refine E_nil ?_
      refine E_nx ?_
      refine E_ret ?_
      cases h2
      exact ⟨trivial, _, _, rfl, (gwk_rn (S' := [.arr 0 (flat (avI .u64) []), .arr 1 (flat (avI .u64) r)]) [some (0, 0), some (1, 0)] rfl (Nat.le_of_ble_eq_true rfl) ⟨(rn_obS rfl rfl (.refl ((encI .u64).blwf 0 _)) rfl), (rn_ob rfl rfl (.refl ((encI .u64).blwf 0 _)) rfl), trivial⟩).trans (gwk_fz 1 6 rfl ⟨⟨rfl, fzL_id ((encI .u64).blwf 1 _)⟩, trivial⟩), ⟨(.ref 1 1 0 (List.length r) none), (rn_refL (encI .u64) rfl rfl rfl), _, rfl, (fz_ref (encI .u64) (Nat.le_of_ble_eq_true rfl) rfl)⟩⟩
  · obtain ⟨x, xs, rfl⟩ : ∃ x xs, s_00 = x :: xs := by cases s_00 with | nil => exact (hx rfl).elim | cons x xs => exact ⟨x, xs, rfl⟩
    refine Ev_end mixed fn33 (by simp) [5] ?_
    unfold fc33
    refine E_sq ?_
    refine E_reg ?_
    refine E_mv (v' := .nils) rfl ?_
    refine E_nil ?_
    refine E_nx ?_
    refine E_as ?_
    refine E_sq ?_
    refine E_reg ?_
    refine E_mv (v' := (.ref 0 0 0 (List.length (x :: xs)) none)) rfl ?_
    refine E_op0 (v' := (.bool false)) rfl rfl ?_
    refine E_nil ?_
    refine E_nx ?_
    refine E_sq ?_
    refine E_cs (t := false) rfl (fun hb => ?_) (fun hb => ?_)
    · cases hb
    · refine E_skip ?_
      refine E_nx ?_
      refine E_sq ?_
      refine E_reg ?_
      refine E_op (v' := (.ref 1 0 0 0 none)) (S' := [.arr 0 (flat (avI .u64) (x :: xs)), .arr 0 []]) rfl rfl rfl ?_
      refine E_mv (v' := (.ref 0 0 0 (List.length (x :: xs)) none)) rfl ?_
      refine E_apL (S' := [.arr 0 (flat (avI .u64) (x :: xs)), .arr 1 (flat (avI .u64) l_1)]) (encI .u64) (l := []) rfl (src_ref (encI .u64) rfl) rfl hl_1 rfl ?_
      refine E_mv (v' := (.ref 1 1 0 (List.length l_1) none)) rfl ?_
      refine E_nil ?_
      refine E_nx ?_
      refine E_ret ?_
      cases h2
      exact ⟨trivial, _, _, rfl, (gwk_rn (S' := [.arr 0 (flat (avI .u64) (x :: xs)), .arr 1 (flat (avI .u64) r)]) [some (0, 0), some (1, 0)] rfl (Nat.le_of_ble_eq_true rfl) ⟨(rn_obS rfl rfl (.refl ((encI .u64).blwf 0 _)) rfl), (rn_ob rfl rfl (.refl ((encI .u64).blwf 0 _)) rfl), trivial⟩).trans (gwk_fz 1 6 rfl ⟨⟨rfl, fzL_id ((encI .u64).blwf 1 _)⟩, trivial⟩), ⟨(.ref 1 1 0 (List.length r) none), (rn_refL (encI .u64) rfl rfl rfl), _, rfl, (fz_ref (encI .u64) (Nat.le_of_ble_eq_true rfl) rfl)⟩⟩
def trace_New_r_o_s (tape_00 : (List Int)) : Option (List Int) :=
  ((slices_Clone_0_r_z_s tape_00).bind fun (v0_1 : (List Int)) => (some v0_1))
theorem trace_New_r_o_ev {tape_00 : (List Int)} {r : (List Int)} (h : trace_New_r_o_s tape_00 = some r) : Ev Tryd.prog 12 [(.ref 0 0 0 (List.length tape_00) none)] (hp [.arr 0 (flat (avI .u64) tape_00)]) (.ptr 1 0 0) (hp [.arr 0 (flat (avI .u64) tape_00), .arr 0 [(.sl false 1 (List.map (avI .u64) r)), .nils]]) := by
  unfold trace_New_r_o_s at h
  refine Ev_end mixed fn12 (by simp) [6] ?_
  unfold fc12
  refine E_sq ?_
  refine E_reg ?_
  refine E_mv (v' := .nilp) rfl ?_
  refine E_nil ?_
  refine E_nx ?_
  refine E_sq ?_
  refine E_reg ?_
  refine E_mv (v' := (.ref 0 0 0 (List.length tape_00) none)) rfl ?_
  obtain ⟨v0_1, hv0_1, h⟩ := bd_some h
  refine E_callF (S' := [.arr 0 (flat (avI .u64) tape_00)]) (r' := (.sl false 1 (List.map (avI .u64) v0_1))) (slices_Clone_0_r_z_ev hv0_1) [0] rfl rfl (by decide) rfl rfl ⟨(fr_in rfl rfl (.refl ((encI .u64).blwf 0 _))), trivial⟩ ⟨(fr_outS rfl rfl (.refl ((encI .u64).blwf 0 _)) rfl rfl), trivial⟩ ⟨.inl rfl, trivial⟩ rfl (.cons (fi_ref rfl rfl rfl rfl) (.nil (Nat.zero_le _))) (rn_b ((encI .u64).blws 0)) ?_
  refine E_op0 (v' := (.agg [(.sl false 1 (List.map (avI .u64) v0_1)), .nils])) rfl rfl ?_
  refine E_op (v' := .ptr 1 0 0) (S' := [.arr 0 (flat (avI .u64) tape_00), .arr 0 [(.sl false 1 (List.map (avI .u64) v0_1)), .nils]]) rfl rfl rfl ?_
  refine E_mv (v' := (.ptr 1 0 0)) rfl ?_
  refine E_nil ?_
  refine E_nx ?_
  refine E_ret ?_
  cases h
  exact ⟨trivial, _, _, rfl, gwk_rn [some (0, 0), some (1, 0)] rfl (Nat.le_of_ble_eq_true rfl) ⟨(rn_obS rfl rfl (.refl ((encI .u64).blwf 0 _)) rfl), (rn_ob rfl rfl (.cons (rn_b ((encI .u64).blws 0)) (.cons (rn_b rfl) (.nil (Nat.zero_le _)))) rfl), trivial⟩, (rn_ptr rfl rfl rfl rfl)⟩
def trace_Trace_Out_pNn_s (t_tape_00 : (List Int)) (v_01 : Int) : Option ((List Int) × (List Event)) :=
  ((appL 16 [] [(Event.mk 1 v_01)]).bind fun l_1 => (some (t_tape_00, l_1)))
theorem trace_Trace_Out_pNn_ev {t_tape_00 : (List Int)} {v_01 : Int} {r : ((List Int) × (List Event))} (h : trace_Trace_Out_pNn_s t_tape_00 v_01 = some r) : Ev Tryd.prog 14 [(.ptr 0 0 0), (.int .u64 v_01)] (hp [.arr 0 [(.sl false 1 (List.map (avI .u64) t_tape_00)), .nils]]) (.tup []) (hp [.arr 0 [(.sl false 1 (List.map (avI .u64) r.1)), (.ref 1 1 0 (List.length r.2) (some 2))], .arr 1 (flat Event.av r.2)]) := by
  unfold trace_Trace_Out_pNn_s at h
  refine Ev_end mixed fn14 (by simp) [14] ?_
  unfold fc14
  refine E_sq ?_
  refine E_reg ?_
  refine E_mv (v' := (.ptr 0 0 0)) rfl ?_
  refine E_op0 (v' := (.bool true)) rfl rfl ?_
  refine E_nil ?_
  refine E_nx ?_
  refine E_ct rfl ?_
  refine E_reg ?_
  refine E_mv (v' := (.ptr 0 0 0)) rfl ?_
  refine E_mv (v' := (.ptr 0 0 0)) rfl ?_
  refine E_op0 (v' := (.ptr 0 0 0)) rfl rfl ?_
  refine E_op0 (v' := (.ptr 0 0 1)) rfl rfl ?_
  refine E_op (v' := .nils) (S' := [.arr 0 [(.sl false 1 (List.map (avI .u64) t_tape_00)), .nils]]) rfl rfl rfl ?_
  refine E_mv (v' := (.int .u64 v_01)) rfl ?_
  refine E_opw (v' := (Event.av (Event.mk 1 v_01))) rfl (.aggL ⟨(.refl _), (.refl _), trivial⟩) rfl ?_
  refine E_opw (v' := (.sl true 2 (List.map Event.av [(Event.mk 1 v_01)]))) rfl (.refl _) rfl ?_
  obtain ⟨l_1, hl_1, h⟩ := bd_some h
  refine E_apN (S' := [.arr 0 [(.sl false 1 (List.map (avI .u64) t_tape_00)), .nils], .arr 0 (flat Event.av l_1)]) Event.enc rfl (.inl rfl) (src_sl [(Event.mk 1 v_01)]) hl_1 rfl ?_
  refine E_op0 (v' := (.ptr 0 0 0)) rfl rfl ?_
  refine E_op0 (v' := (.ptr 0 0 1)) rfl rfl ?_
  refine E_do (S' := [.arr 0 [(.sl false 1 (List.map (avI .u64) t_tape_00)), (.ref 1 0 0 (List.length l_1) (some 2))], .arr 0 (flat Event.av l_1)]) rfl rfl ?_
  refine E_nil ?_
  cases h
  exact ⟨trivial, _, _, rfl, gwk_rn [some (0, 0), some (1, 0)] rfl (Nat.le_of_ble_eq_true rfl) ⟨(rn_obS rfl rfl (.cons (rn_b ((encI .u64).blws 0)) (.cons (rn_refL Event.enc rfl rfl rfl) (.nil (Nat.zero_le _)))) rfl), (rn_ob rfl rfl (.refl (Event.enc.blwf 0 _)) rfl), trivial⟩, (rn_tup trivial)⟩
def slices_Clone_1_r_s (s_00 : List Event) : Option (List Event) :=
  ((appL 16 [] s_00).bind fun l_1 => (some l_1))
theorem slices_Clone_1_r_ev {s_00 : List Event} {r : List Event} (h : slices_Clone_1_r_s s_00 = some r) : Ev Tryd.prog 34 [.ref 0 0 0 (List.length s_00) (some 2)] (hp [.arr 0 (flat Event.av s_00)]) (.ref 1 1 0 (List.length r) (some 2)) (hp [.arr 0 (flat Event.av s_00), .arr 1 (flat Event.av r)]) := by
  unfold slices_Clone_1_r_s at h
  obtain ⟨l_1, hl_1, h2⟩ := bd_some h
  clear h
  refine Ev_rf (sz := 2) rfl (fun hx => ?_) (fun hx => ?_) (fun hx => ?_)
  · obtain rfl : s_00 = [] := by simpa using hx
    have e : l_1 = [] := by unfold appL at hl_1; split at hl_1 <;> simp_all
    subst e
    refine Ev_end mixed fn34 (by simp) [5] ?_
    unfold fc34
    refine E_sq ?_
    refine E_reg ?_
    refine E_mv (v' := .nils) rfl ?_
    refine E_nil ?_
    refine E_nx ?_
    refine E_as ?_
    refine E_sq ?_
    refine E_reg ?_
    refine E_mv (v' := .nils) rfl ?_
    refine E_op0 (v' := (.bool true)) rfl rfl ?_
    refine E_nil ?_
    refine E_nx ?_
    refine E_sq ?_
    refine E_cs (t := true) rfl (fun hb => ?_) (fun hb => ?_)
    · refine E_sq ?_
      refine E_reg ?_
      refine E_mv (v' := .nils) rfl ?_
      refine E_nil ?_
      refine E_nx ?_
      refine E_ret ?_
      refine E_thr ?_
      cases h2
      exact ⟨trivial, _, _, rfl, gwk_rn [some (0, 0), none] rfl (Nat.le_of_ble_eq_true rfl) ⟨(rn_obS rfl rfl (.refl (Event.enc.blwf 0 _)) rfl), (rn_obN rfl rfl rfl), trivial⟩, (rn_nil rfl)⟩
    · cases hb
  · obtain rfl : s_00 = [] := by simpa using hx
    refine Ev_end mixed fn34 (by simp) [5] ?_
    unfold fc34
    refine E_sq ?_
    refine E_reg ?_
    refine E_mv (v' := .nils) rfl ?_
    refine E_nil ?_
    refine E_nx ?_
    refine E_as ?_
    refine E_sq ?_
    refine E_reg ?_
    refine E_mv (v' := (.snn 2)) rfl ?_
    refine E_op0 (v' := (.bool false)) rfl rfl ?_
    refine E_nil ?_
    refine E_nx ?_
    refine E_sq ?_
    refine E_cs (t := false) rfl (fun hb => ?_) (fun hb => ?_)
    · cases hb
    · refine E_skip ?_
      refine E_nx ?_
      refine E_sq ?_
      refine E_reg ?_
      refine E_op (v' := (.ref 1 0 0 0 (some 2))) (S' := [.arr 0 (flat Event.av []), .arr 0 []]) rfl rfl rfl ?_
      refine E_mv (v' := (.snn 2)) rfl ?_
      refine E_apL (S' := [.arr 0 (flat Event.av []), .arr 1 (flat Event.av l_1)]) Event.enc (l := []) rfl (rfl) rfl hl_1 rfl ?_
      refine E_mv (v' := (.ref 1 1 0 (List.length l_1) (some 2))) rfl ?_
      refine E_nil ?_
      refine E_nx ?_
      refine E_ret ?_
      cases h2
      exact ⟨trivial, _, _, rfl, gwk_rn [some (0, 0), some (1, 0)] rfl (Nat.le_of_ble_eq_true rfl) ⟨(rn_obS rfl rfl (.refl (Event.enc.blwf 0 _)) rfl), (rn_ob rfl rfl (.refl (Event.enc.blwf 0 _)) rfl), trivial⟩, (rn_refL Event.enc rfl rfl rfl)⟩
  · obtain ⟨x, xs, rfl⟩ : ∃ x xs, s_00 = x :: xs := by cases s_00 with | nil => exact (hx rfl).elim | cons x xs => exact ⟨x, xs, rfl⟩
    refine Ev_end mixed fn34 (by simp) [5] ?_
    unfold fc34
    refine E_sq ?_
    refine E_reg ?_
    refine E_mv (v' := .nils) rfl ?_
    refine E_nil ?_
    refine E_nx ?_
    refine E_as ?_
    refine E_sq ?_
    refine E_reg ?_
    refine E_mv (v' := (.ref 0 0 0 (List.length (x :: xs)) (some 2))) rfl ?_
    refine E_op0 (v' := (.bool false)) rfl rfl ?_
    refine E_nil ?_
    refine E_nx ?_
    refine E_sq ?_
    refine E_cs (t := false) rfl (fun hb => ?_) (fun hb => ?_)
    · cases hb
    · refine E_skip ?_
      refine E_nx ?_
      refine E_sq ?_
      refine E_reg ?_
      refine E_op (v' := (.ref 1 0 0 0 (some 2))) (S' := [.arr 0 (flat Event.av (x :: xs)), .arr 0 []]) rfl rfl rfl ?_
      refine E_mv (v' := (.ref 0 0 0 (List.length (x :: xs)) (some 2))) rfl ?_
      refine E_apL (S' := [.arr 0 (flat Event.av (x :: xs)), .arr 1 (flat Event.av l_1)]) Event.enc (l := []) rfl (src_ref Event.enc rfl) rfl hl_1 rfl ?_
      refine E_mv (v' := (.ref 1 1 0 (List.length l_1) (some 2))) rfl ?_
      refine E_nil ?_
      refine E_nx ?_
      refine E_ret ?_
      cases h2
      exact ⟨trivial, _, _, rfl, gwk_rn [some (0, 0), some (1, 0)] rfl (Nat.le_of_ble_eq_true rfl) ⟨(rn_obS rfl rfl (.refl (Event.enc.blwf 0 _)) rfl), (rn_ob rfl rfl (.refl (Event.enc.blwf 0 _)) rfl), trivial⟩, (rn_refL Event.enc rfl rfl rfl)⟩
def trace_Trace_Events_pNR_o_s (t_tape_00 : (List Int)) (t_events_00 : (List Event)) : Option ((List Int) × (List Event)) :=
  ((slices_Clone_1_r_s t_events_00).bind fun (v1_1 : (List Event)) => (some (t_tape_00, v1_1)))
theorem trace_Trace_Events_pNR_o_ev {t_tape_00 : (List Int)} {t_events_00 : (List Event)} {r : ((List Int) × (List Event))} (h : trace_Trace_Events_pNR_o_s t_tape_00 t_events_00 = some r) : Ev Tryd.prog 15 [(.ptr 0 0 0)] (hp [.arr 0 [(.sl false 1 (List.map (avI .u64) t_tape_00)), (.ref 1 0 0 (List.length t_events_00) (some 2))], .arr 0 (flat Event.av t_events_00)]) (.ref 2 1 0 (List.length r.2) (some 2)) (hp [.arr 0 [(.sl false 1 (List.map (avI .u64) r.1)), (.ref 1 0 0 (List.length t_events_00) (some 2))], .arr 0 (flat Event.av t_events_00), .arr 1 (flat Event.av r.2)]) := by
  unfold trace_Trace_Events_pNR_o_s at h
  refine Ev_end mixed fn15 (by simp) [] ?_
  unfold fc15
  refine E_sq ?_
  refine E_reg ?_
  refine E_mv (v' := .nils) rfl ?_
  refine E_nil ?_
  refine E_nx ?_
  refine E_as ?_
  refine E_sq ?_
  refine E_reg ?_
  refine E_mv (v' := (.ptr 0 0 0)) rfl ?_
  refine E_op0 (v' := (.bool false)) rfl rfl ?_
  refine E_nil ?_
  refine E_nx ?_
  refine E_sq ?_
  refine E_cf rfl ?_
  refine E_skip ?_
  refine E_nx ?_
  refine E_sq ?_
  refine E_reg ?_
  refine E_mv (v' := (.ptr 0 0 0)) rfl ?_
  refine E_op0 (v' := (.ptr 0 0 0)) rfl rfl ?_
  refine E_op0 (v' := (.ptr 0 0 1)) rfl rfl ?_
  refine E_op (v' := (.ref 1 0 0 (List.length t_events_00) (some 2))) (S' := [.arr 0 [(.sl false 1 (List.map (avI .u64) t_tape_00)), (.ref 1 0 0 (List.length t_events_00) (some 2))], .arr 0 (flat Event.av t_events_00)]) rfl rfl rfl ?_
  obtain ⟨v1_1, hv1_1, h⟩ := bd_some h
  refine E_callF (S' := [.arr 0 [(.sl false 1 (List.map (avI .u64) t_tape_00)), (.ref 1 0 0 (List.length t_events_00) (some 2))], .arr 0 (flat Event.av t_events_00), .arr 1 (flat Event.av v1_1)]) (r' := (.ref 2 1 0 (List.length v1_1) (some 2))) (slices_Clone_1_r_ev hv1_1) [1] rfl rfl (by decide) rfl rfl ⟨(fr_in rfl rfl (.refl (Event.enc.blwf 0 _))), trivial⟩ ⟨(fr_outS rfl rfl (.refl (Event.enc.blwf 0 _)) rfl rfl), (fr_outN rfl rfl (.refl (Event.enc.blwf 0 _)) rfl), trivial⟩ ⟨.inr rfl, .inl rfl, trivial⟩ rfl (.cons (fi_ref rfl rfl rfl rfl) (.nil (Nat.zero_le _))) (fo_ref rfl rfl rfl rfl) ?_
  refine E_mv (v' := (.ref 2 1 0 (List.length v1_1) (some 2))) rfl ?_
  refine E_nil ?_
  refine E_nx ?_
  refine E_ret ?_
  cases h
  exact ⟨trivial, _, _, rfl, gwk_rn [some (0, 0), some (1, 0), some (2, 0)] rfl (Nat.le_of_ble_eq_true rfl) ⟨(rn_obS rfl rfl (.cons (rn_b ((encI .u64).blws 0)) (.cons (rn_refL Event.enc rfl rfl rfl) (.nil (Nat.zero_le _)))) rfl), (rn_obS rfl rfl (.refl (Event.enc.blwf 0 _)) rfl), (rn_ob rfl rfl (.refl (Event.enc.blwf 0 _)) rfl), trivial⟩, (rn_refL Event.enc rfl rfl rfl)⟩
/- windlass/windlassref02.Begins -/
def fc20 : FC := (.seq (.reg [⟨(some 4), none, .op (.mv (.v (.bool false)))⟩] [])
  (.seq (.seq (.reg [⟨(some 6), none, .op (.mv (.t 0))⟩,
  ⟨(some 7), none, .op (.len .sl (.t 6))⟩,
  ⟨(some 8), none, .op (.mv (.t 1))⟩,
  ⟨(some 9), none, .op (.len .sl (.t 8))⟩,
  ⟨(some 10), none, .op (.bin .none .gtr (.t 7) (.t 9))⟩] [])
  (.cond (.t 10)
  (.seq (.reg [⟨(some 4), none, .op (.mv (.v (.bool false)))⟩] [])
  .ret)
  .skip))
  (.seq (.seq (.reg [⟨(some 11), none, .op (.mv (.t 0))⟩,
  ⟨(some 12), none, .op (.len .sl (.t 11))⟩,
  ⟨(some 13), none, .op (.mv (.v (.int .i64 0)))⟩] [])
  (.block 0 (.loop (.seq (.reg [⟨(some 14), none, .op (.bin .none .lss (.t 13) (.t 12))⟩] [])
  (.seq (.cond (.t 14)
  .skip
  (.exit 0))
  (.seq (.block 1 (.seq (.reg [⟨(some 15), none, .op (.mv (.t 13))⟩,
  ⟨(some 5), none, .op (.mv (.t 15))⟩] [])
  (.seq (.reg [⟨(some 16), none, .op (.mv (.t 0))⟩,
  ⟨(some 17), none, .op (.mv (.t 5))⟩,
  ⟨(some 18), none, .op (.iad none (some 2) (.t 16) (.t 17))⟩,
  ⟨(some 19), none, .op (.load (some 2) (.t 18))⟩,
  ⟨(some 20), none, .op (.mv (.t 1))⟩,
  ⟨(some 21), none, .op (.mv (.t 5))⟩,
  ⟨(some 22), none, .op (.iad none (some 2) (.t 20) (.t 21))⟩,
  ⟨(some 23), none, .op (.load (some 2) (.t 22))⟩,
  ⟨(some 24), none, .op (.eqs [.int, .int] .neq (.t 19) (.t 23))⟩] [])
  (.cond (.t 24)
  (.seq (.reg [⟨(some 4), none, .op (.mv (.v (.bool false)))⟩] [])
  .ret)
  .skip))))
  (.reg [⟨(some 25), none, .op (.bin .none .add (.t 13) (.v (.int .i64 1)))⟩,
  ⟨(some 13), none, .op (.mv (.t 25))⟩] [])))))))
  (.seq (.reg [⟨(some 4), none, .op (.mv (.v (.bool true)))⟩] [])
  .ret))))
theorem fn20 : Fn3 Tryd.prog 20 26 [(4, none)] fc20 := ⟨_, _, Tryd.func20, rfl, rfl, rfl, by kernel_rfl⟩
def windlassref02_Begins_r_r_s (a_00 : (List Event)) (b_01 : (List Event)) : Option Bool :=
  (if (decide ((List.length a_00 : Int) > (List.length b_01 : Int))) then (some false) else ((rni (fun (i_2 : Nat) (s_1 : Unit) => (((getI a_00 (i_2 : Int)).bind fun y_3 => ((getI b_01 (i_2 : Int)).bind fun y_4 => (if (!((y_3.Kind == y_4.Kind) && ((y_3.Value == y_4.Value) && true))) then (some (.ret (some false))) else (some (.nxt ()))))) : Option (Stp Unit (Option Bool)))) (List.length a_00 : Int) ()).bind (oc (fun (s_1 : Unit) => (some true)))))
theorem windlassref02_Begins_r_r_ev {a_00 : (List Event)} {b_01 : (List Event)} {r : Bool} (h : windlassref02_Begins_r_r_s a_00 b_01 = some r) : Ev Tryd.prog 20 [(.ref 0 0 0 (List.length a_00) (some 2)), (.ref 1 0 0 (List.length b_01) (some 2))] (hp [.arr 0 (flat Event.av a_00), .arr 0 (flat Event.av b_01)]) (.bool r) (hp [.arr 0 (flat Event.av a_00), .arr 0 (flat Event.av b_01)]) := by
  unfold windlassref02_Begins_r_r_s at h
  refine Ev_end mixed fn20 (by simp) [] ?_
  unfold fc20
  refine E_sq ?_
  refine E_reg ?_
  refine E_mv (v' := (.bool false)) rfl ?_
  refine E_nil ?_
  refine E_nx ?_
  refine E_as ?_
  refine E_sq ?_
  refine E_reg ?_
  refine E_mv (v' := (.ref 0 0 0 (List.length a_00) (some 2))) rfl ?_
  refine E_lenR rfl ?_
  refine E_mv (v' := (.ref 1 0 0 (List.length b_01) (some 2))) rfl ?_
  refine E_lenR rfl ?_
  refine E_op0 (v' := (.bool (decide ((List.length a_00 : Int) > (List.length b_01 : Int))))) rfl rfl ?_
  refine E_nil ?_
  refine E_nx ?_
  refine E_sq ?_
  refine E_cs (t := (decide ((List.length a_00 : Int) > (List.length b_01 : Int)))) rfl (fun hb => ?_) (fun hb => ?_)
  · rw [ite_t hb] at h
    refine E_sq ?_
    refine E_reg ?_
    refine E_mv (v' := (.bool false)) rfl ?_
    refine E_nil ?_
    refine E_nx ?_
    refine E_ret ?_
    refine E_thr ?_
    cases h
    exact ⟨trivial, _, _, rfl, gwk_rn [some (0, 0), some (1, 0)] rfl (Nat.le_of_ble_eq_true rfl) ⟨(rn_obS rfl rfl (.refl (Event.enc.blwf 0 _)) rfl), (rn_obS rfl rfl (.refl (Event.enc.blwf 0 _)) rfl), trivial⟩, (rn_b rfl)⟩
  · rw [ite_f hb] at h
    refine E_skip ?_
    refine E_nx ?_
    refine E_as ?_
    refine E_sq ?_
    refine E_reg ?_
    refine E_mv (v' := (.ref 0 0 0 (List.length a_00) (some 2))) rfl ?_
    refine E_lenR rfl ?_
    refine E_mv (v' := (.int .i64 0)) rfl ?_
    refine E_nil ?_
    refine E_nx ?_
    refine E_sq ?_
    refine E_rniO (fun s_1 => [(0, (.ref 0 0 0 (List.length a_00) (some 2))), (1, (.ref 1 0 0 (List.length b_01) (some 2)))]) (fun s_1 => [.arr 0 (flat Event.av a_00), .arr 0 (flat Event.av b_01)]) h (by decide) (by decide) (fun _ => ⟨rfl, rfl, rfl, rfl⟩) (wk_rn [some (0, 0), some (1, 0)] rfl (Nat.le_of_ble_eq_true rfl) ⟨(rn_obS rfl rfl (.refl (Event.enc.blwf 0 _)) rfl), (rn_obS rfl rfl (.refl (Event.enc.blwf 0 _)) rfl), trivial⟩ ⟨(rn_b rfl), (rn_b rfl), (rn_refL Event.enc rfl rfl rfl), (rn_refL Event.enc rfl rfl rfl), trivial⟩) (fun i_2 s_1 c hlt h => ?_) (fun s_1 fr' S' h hw => ?_)
    · refine E_sq ?_
      refine E_reg ?_
      refine E_mv (v' := (.int .i64 (i_2 : Int))) rfl ?_
      refine E_mv (v' := (.int .i64 (i_2 : Int))) rfl ?_
      refine E_nil ?_
      refine E_nx ?_
      refine E_sq ?_
      refine E_reg ?_
      refine E_mv (v' := (.ref 0 0 0 (List.length a_00) (some 2))) rfl ?_
      refine E_mv (v' := (.int .i64 (i_2 : Int))) rfl ?_
      obtain ⟨y_3, hy_3, h⟩ := bd_some h
      refine E_iadR rfl rfl ⟨(getI_some hy_3).1, (getI_some hy_3).2.1⟩ ?_
      refine E_ldR Event.enc rfl rfl (by first | rfl | exact (Nat.add_zero _).symm | (simp only [Nat.zero_add]; exact (Nat.add_zero _).symm) | (simp only [Nat.zero_add, Nat.add_zero])) (getI_some hy_3).2.2 rfl (.refl _) ?_
      refine E_mv (v' := (.ref 1 0 0 (List.length b_01) (some 2))) rfl ?_
      refine E_mv (v' := (.int .i64 (i_2 : Int))) rfl ?_
      obtain ⟨y_4, hy_4, h⟩ := bd_some h
      refine E_iadR rfl rfl ⟨(getI_some hy_4).1, (getI_some hy_4).2.1⟩ ?_
      refine E_ldR Event.enc rfl rfl (by first | rfl | exact (Nat.add_zero _).symm | (simp only [Nat.zero_add]; exact (Nat.add_zero _).symm) | (simp only [Nat.zero_add, Nat.add_zero])) (getI_some hy_4).2.2 rfl (.refl _) ?_
      refine E_op0 (v' := (.bool (!((y_3.Kind == y_4.Kind) && ((y_3.Value == y_4.Value) && true))))) rfl rfl ?_
      refine E_nil ?_
      refine E_nx ?_
      refine E_cs (t := (!((y_3.Kind == y_4.Kind) && ((y_3.Value == y_4.Value) && true)))) rfl (fun hb => ?_) (fun hb => ?_)
      · rw [ite_t hb] at h
        refine E_sq ?_
        refine E_reg ?_
        refine E_mv (v' := (.bool false)) rfl ?_
        refine E_nil ?_
        refine E_nx ?_
        refine E_ret ?_
        cases h
        refine L_rrO rfl (fun h => ?_)
        refine E_thr ?_
        cases h
        exact ⟨trivial, _, _, rfl, gwk_rn [some (0, 0), some (1, 0)] rfl (Nat.le_of_ble_eq_true rfl) ⟨(rn_obS rfl rfl (.refl (Event.enc.blwf 0 _)) rfl), (rn_obS rfl rfl (.refl (Event.enc.blwf 0 _)) rfl), trivial⟩, (rn_b rfl)⟩
      · rw [ite_f hb] at h
        refine E_skip ?_
        cases h
        exact L_nn rfl (wk_rn [some (0, 0), some (1, 0)] rfl (Nat.le_of_ble_eq_true rfl) ⟨(rn_obS rfl rfl (.refl (Event.enc.blwf 0 _)) rfl), (rn_obS rfl rfl (.refl (Event.enc.blwf 0 _)) rfl), trivial⟩ ⟨(rn_b rfl), (rn_b rfl), (rn_refL Event.enc rfl rfl rfl), (rn_refL Event.enc rfl rfl rfl), trivial⟩)
    · refine X_nx hw ?_
      refine E_sq ?_
      refine E_reg ?_
      refine E_mv (v' := (.bool true)) rfl ?_
      refine E_nil ?_
      refine E_nx ?_
      refine E_ret ?_
      cases h
      exact ⟨trivial, _, _, rfl, gwk_rn [some (0, 0), some (1, 0)] rfl (Nat.le_of_ble_eq_true rfl) ⟨(rn_obS rfl rfl (.refl (Event.enc.blwf 0 _)) rfl), (rn_obS rfl rfl (.refl (Event.enc.blwf 0 _)) rfl), trivial⟩, (rn_b rfl)⟩
/- windlass/windlassref02.Same -/
def fc16 : FC := (.seq (.reg [⟨(some 4), none, .op (.mv (.v (.bool false)))⟩] [])
  (.seq (.reg [⟨(some 5), none, .op (.mv (.t 0))⟩,
  ⟨(some 6), none, .op (.len .sl (.t 5))⟩,
  ⟨(some 7), none, .op (.mv (.t 1))⟩,
  ⟨(some 8), none, .op (.len .sl (.t 7))⟩,
  ⟨(some 9), none, .op (.bin .none .eql (.t 6) (.t 8))⟩,
  ⟨(some 10), none, .op (.mv (.t 9))⟩,
  ⟨(some 11), some (10, true), .op (.mv (.t 0))⟩,
  ⟨(some 12), some (10, true), .op (.mv (.t 1))⟩,
  ⟨(some 13), some (10, true), .call 20 [(.t 11), (.t 12)]⟩,
  ⟨(some 14), none, .op (.pick (.t 10) (.t 13) (.v (.bool false)))⟩,
  ⟨(some 4), none, .op (.mv (.t 14))⟩] [])
  .ret))
theorem fn16 : Fn3 Tryd.prog 16 15 [(4, none)] fc16 := ⟨_, _, Tryd.func16, rfl, rfl, rfl, by kernel_rfl⟩
def windlassref02_Same_r_r_s (a_00 : (List Event)) (b_01 : (List Event)) : Option Bool :=
  (jp (fun (s_2 : Bool) => (some s_2)) (fun k_1 => (if ((List.length a_00 : Int) == (List.length b_01 : Int)) then ((windlassref02_Begins_r_r_s a_00 b_01).bind fun (beg_3 : Bool) => (k_1 beg_3)) else (k_1 false))))
theorem windlassref02_Same_r_r_ev {a_00 : (List Event)} {b_01 : (List Event)} {r : Bool} (h : windlassref02_Same_r_r_s a_00 b_01 = some r) : Ev Tryd.prog 16 [(.ref 0 0 0 (List.length a_00) (some 2)), (.ref 1 0 0 (List.length b_01) (some 2))] (hp [.arr 0 (flat Event.av a_00), .arr 0 (flat Event.av b_01)]) (.bool r) (hp [.arr 0 (flat Event.av a_00), .arr 0 (flat Event.av b_01)]) := by
  unfold windlassref02_Same_r_r_s at h
  refine Ev_end mixed fn16 (by simp) [] ?_
  unfold fc16
  refine E_sq ?_
  refine E_reg ?_
  refine E_mv (v' := (.bool false)) rfl ?_
  refine E_nil ?_
  refine E_nx ?_
  refine E_jp h (fun s_2 => [(4, (.bool s_2))]) (fun s_2 => [.arr 0 (flat Event.av a_00), .arr 0 (flat Event.av b_01)]) (fun k_1 h => ?_) (fun s_2 h => ?_)
  · refine E_reg ?_
    refine E_mv (v' := (.ref 0 0 0 (List.length a_00) (some 2))) rfl ?_
    refine E_lenR rfl ?_
    refine E_mv (v' := (.ref 1 0 0 (List.length b_01) (some 2))) rfl ?_
    refine E_lenR rfl ?_
    refine E_op0 (v' := (.bool ((List.length a_00 : Int) == (List.length b_01 : Int)))) rfl rfl ?_
    refine E_mv (v' := (.bool ((List.length a_00 : Int) == (List.length b_01 : Int)))) rfl ?_
    refine E_gsT (b := ((List.length a_00 : Int) == (List.length b_01 : Int))) rfl rfl rfl (fun hb => ?_) (fun hb => ?_)
    · rw [ite_t hb] at h
      refine E_mv (v' := (.ref 0 0 0 (List.length a_00) (some 2))) rfl ?_
      refine E_gh rfl ?_
      refine E_mv (v' := (.ref 1 0 0 (List.length b_01) (some 2))) rfl ?_
      refine E_gh rfl ?_
      obtain ⟨beg_3, hbeg_3, h⟩ := bd_some h
      refine E_callF (S' := [.arr 0 (flat Event.av a_00), .arr 0 (flat Event.av b_01)]) (r' := (.bool beg_3)) (windlassref02_Begins_r_r_ev hbeg_3) [0, 1] rfl rfl (by decide) rfl rfl ⟨(fr_in rfl rfl (.refl (Event.enc.blwf 0 _))), (fr_in rfl rfl (.refl (Event.enc.blwf 0 _))), trivial⟩ ⟨(fr_outS rfl rfl (.refl (Event.enc.blwf 0 _)) rfl rfl), (fr_outS rfl rfl (.refl (Event.enc.blwf 0 _)) rfl rfl), trivial⟩ ⟨.inl rfl, .inl rfl, trivial⟩ rfl (.cons (fi_ref rfl rfl rfl rfl) (.cons (fi_ref rfl rfl rfl rfl) (.nil (Nat.zero_le _)))) (rn_b rfl) ?_
      refine E_pt rfl rfl ?_
      refine E_mv (v' := (.bool beg_3)) rfl ?_
      refine E_nil ?_
      exact E_jx _ h (wk_rn [some (0, 0), some (1, 0)] rfl (Nat.le_of_ble_eq_true rfl) ⟨(rn_obS rfl rfl (.refl (Event.enc.blwf 0 _)) rfl), (rn_obS rfl rfl (.refl (Event.enc.blwf 0 _)) rfl), trivial⟩ ⟨(rn_b rfl), trivial⟩)
    · rw [ite_f hb] at h
      refine E_gm rfl ?_
      refine E_gm rfl ?_
      refine E_pf rfl rfl ?_
      refine E_mv (v' := (.bool false)) rfl ?_
      refine E_nil ?_
      exact E_jx _ h (wk_rn [some (0, 0), some (1, 0)] rfl (Nat.le_of_ble_eq_true rfl) ⟨(rn_obS rfl rfl (.refl (Event.enc.blwf 0 _)) rfl), (rn_obS rfl rfl (.refl (Event.enc.blwf 0 _)) rfl), trivial⟩ ⟨(rn_b rfl), trivial⟩)
  · refine E_ret ?_
    cases h
    exact ⟨trivial, _, _, rfl, gwk_rn [some (0, 0), some (1, 0)] rfl (Nat.le_of_ble_eq_true rfl) ⟨(rn_obS rfl rfl (.refl (Event.enc.blwf 0 _)) rfl), (rn_obS rfl rfl (.refl (Event.enc.blwf 0 _)) rfl), trivial⟩, (rn_b rfl)⟩
def trace_Trace_In_pNR_s (t_tape_00 : (List Int)) (t_events_00 : (List Event)) : Option (Int × (List Int) × (List Event)) :=
  (jp (fun (s_2 : (Int × (List Int))) => ((appL 16 t_events_00 [(Event.mk 2 s_2.1)]).bind fun l_5 => (some (s_2.1, s_2.2, l_5)))) (fun k_1 => (if (decide ((List.length t_tape_00 : Int) > 0)) then ((getI t_tape_00 0).bind fun y_3 => ((subL t_tape_00 1 (List.length t_tape_00 : Int)).bind fun l_4 => (k_1 (y_3, l_4)))) else (k_1 (0, t_tape_00)))))
theorem trace_Trace_In_pNR_ev {t_tape_00 : (List Int)} {t_events_00 : (List Event)} {r : (Int × (List Int) × (List Event))} (h : trace_Trace_In_pNR_s t_tape_00 t_events_00 = some r) : Ev Tryd.prog 13 [(.ptr 0 0 0)] (hp [.arr 0 [(.sl false 1 (List.map (avI .u64) t_tape_00)), (.ref 1 0 0 (List.length t_events_00) (some 2))], .arr 0 (flat Event.av t_events_00)]) (.int .u64 r.1) (hp [.arr 0 [(.sl false 1 (List.map (avI .u64) r.2.1)), (.ref 1 1 0 (List.length r.2.2) (some 2))], .arr 1 (flat Event.av r.2.2)]) := by
  unfold trace_Trace_In_pNR_s at h
  refine Ev_end mixed fn13 (by simp) [] ?_
  unfold fc13
  refine E_sq ?_
  refine E_reg ?_
  refine E_mv (v' := (.int .u64 0)) rfl ?_
  refine E_nil ?_
  refine E_nx ?_
  refine E_as ?_
  refine E_sq ?_
  refine E_reg ?_
  refine E_mv (v' := (.ptr 0 0 0)) rfl ?_
  refine E_op0 (v' := (.bool false)) rfl rfl ?_
  refine E_nil ?_
  refine E_nx ?_
  refine E_sq ?_
  refine E_cf rfl ?_
  refine E_skip ?_
  refine E_nx ?_
  refine E_sq ?_
  refine E_reg ?_
  refine E_mv (v' := (.int .u64 0)) rfl ?_
  refine E_nil ?_
  refine E_nx ?_
  refine E_as ?_
  refine E_sq ?_
  refine E_reg ?_
  refine E_mv (v' := (.ptr 0 0 0)) rfl ?_
  refine E_op0 (v' := (.ptr 0 0 0)) rfl rfl ?_
  refine E_op0 (v' := (.ptr 0 0 0)) rfl rfl ?_
  refine E_op (v' := (.sl false 1 (List.map (avI .u64) t_tape_00))) (S' := [.arr 0 [(.sl false 1 (List.map (avI .u64) t_tape_00)), (.ref 1 0 0 (List.length t_events_00) (some 2))], .arr 0 (flat Event.av t_events_00)]) rfl rfl rfl ?_
  refine E_len rfl ?_
  refine E_op0 (v' := (.bool (decide ((List.length t_tape_00 : Int) > 0)))) rfl rfl ?_
  refine E_nil ?_
  refine E_nx ?_
  refine E_jp h (fun s_2 => [(0, (.ptr 0 0 0)), (3, (.int .u64 s_2.1))]) (fun s_2 => [.arr 0 [(.sl false 1 (List.map (avI .u64) s_2.2)), (.ref 1 0 0 (List.length t_events_00) (some 2))], .arr 0 (flat Event.av t_events_00)]) (fun k_1 h => ?_) (fun s_2 h => ?_)
  · refine E_cs (t := (decide ((List.length t_tape_00 : Int) > 0))) rfl (fun hb => ?_) (fun hb => ?_)
    · rw [ite_t hb] at h
      refine E_reg ?_
      refine E_mv (v' := (.ptr 0 0 0)) rfl ?_
      refine E_mv (v' := (.ptr 0 0 0)) rfl ?_
      refine E_op0 (v' := (.ptr 0 0 0)) rfl rfl ?_
      refine E_op0 (v' := (.ptr 0 0 0)) rfl rfl ?_
      refine E_op (v' := (.sl false 1 (List.map (avI .u64) t_tape_00))) (S' := [.arr 0 [(.sl false 1 (List.map (avI .u64) t_tape_00)), (.ref 1 0 0 (List.length t_events_00) (some 2))], .arr 0 (flat Event.av t_events_00)]) rfl rfl rfl ?_
      obtain ⟨y_3, hy_3, h⟩ := bd_some h
      refine E_iadF rfl rfl hy_3 ?_
      refine E_op0 (v' := (.int .u64 y_3)) rfl rfl ?_
      refine E_mv (v' := (.ptr 0 0 0)) rfl ?_
      refine E_op0 (v' := (.ptr 0 0 0)) rfl rfl ?_
      refine E_op0 (v' := (.ptr 0 0 0)) rfl rfl ?_
      refine E_op (v' := (.sl false 1 (List.map (avI .u64) t_tape_00))) (S' := [.arr 0 [(.sl false 1 (List.map (avI .u64) t_tape_00)), (.ref 1 0 0 (List.length t_events_00) (some 2))], .arr 0 (flat Event.av t_events_00)]) rfl rfl rfl ?_
      obtain ⟨l_4, hl_4, h⟩ := bd_some h
      refine E_slcL rfl (fun h0 => loN_int h0) (fun _ => by simp [evO, hiN]) hl_4 ?_
      refine E_mv (v' := (.int .u64 y_3)) rfl ?_
      refine E_op0 (v' := (.ptr 0 0 0)) rfl rfl ?_
      refine E_op0 (v' := (.ptr 0 0 0)) rfl rfl ?_
      refine E_do (S' := [.arr 0 [(.sl false 1 (List.map (avI .u64) l_4)), (.ref 1 0 0 (List.length t_events_00) (some 2))], .arr 0 (flat Event.av t_events_00)]) rfl rfl ?_
      refine E_nil ?_
      exact E_jx _ h (wk_rn [some (0, 0), some (1, 0)] rfl (Nat.le_of_ble_eq_true rfl) ⟨(rn_obS rfl rfl (.cons (rn_b ((encI .u64).blws 0)) (.cons (rn_refL Event.enc rfl rfl rfl) (.nil (Nat.zero_le _)))) rfl), (rn_obS rfl rfl (.refl (Event.enc.blwf 0 _)) rfl), trivial⟩ ⟨(rn_ptr rfl rfl rfl rfl), (rn_b rfl), trivial⟩)
    · rw [ite_f hb] at h
      refine E_skip ?_
      exact E_jx _ h (wk_rn [some (0, 0), some (1, 0)] rfl (Nat.le_of_ble_eq_true rfl) ⟨(rn_obS rfl rfl (.cons (rn_b ((encI .u64).blws 0)) (.cons (rn_refL Event.enc rfl rfl rfl) (.nil (Nat.zero_le _)))) rfl), (rn_obS rfl rfl (.refl (Event.enc.blwf 0 _)) rfl), trivial⟩ ⟨(rn_ptr rfl rfl rfl rfl), (rn_b rfl), trivial⟩)
  · refine E_sq ?_
    refine E_reg ?_
    refine E_mv (v' := (.ptr 0 0 0)) rfl ?_
    refine E_mv (v' := (.ptr 0 0 0)) rfl ?_
    refine E_op0 (v' := (.ptr 0 0 0)) rfl rfl ?_
    refine E_op0 (v' := (.ptr 0 0 1)) rfl rfl ?_
    refine E_op (v' := (.ref 1 0 0 (List.length t_events_00) (some 2))) (S' := [.arr 0 [(.sl false 1 (List.map (avI .u64) s_2.2)), (.ref 1 0 0 (List.length t_events_00) (some 2))], .arr 0 (flat Event.av t_events_00)]) rfl rfl rfl ?_
    refine E_mv (v' := (.int .u64 s_2.1)) rfl ?_
    refine E_opw (v' := (Event.av (Event.mk 2 s_2.1))) rfl (.aggL ⟨(.refl _), (.refl _), trivial⟩) rfl ?_
    refine E_opw (v' := (.sl true 2 (List.map Event.av [(Event.mk 2 s_2.1)]))) rfl (.refl _) rfl ?_
    obtain ⟨l_5, hl_5, h⟩ := bd_some h
    refine E_apL (S' := [.arr 0 [(.sl false 1 (List.map (avI .u64) s_2.2)), (.ref 1 0 0 (List.length t_events_00) (some 2))], .arr 1 (flat Event.av l_5)]) Event.enc rfl (src_sl [(Event.mk 2 s_2.1)]) rfl hl_5 rfl ?_
    refine E_op0 (v' := (.ptr 0 0 0)) rfl rfl ?_
    refine E_op0 (v' := (.ptr 0 0 1)) rfl rfl ?_
    refine E_do (S' := [.arr 0 [(.sl false 1 (List.map (avI .u64) s_2.2)), (.ref 1 1 0 (List.length l_5) (some 2))], .arr 1 (flat Event.av l_5)]) rfl rfl ?_
    refine E_nil ?_
    refine E_nx ?_
    refine E_sq ?_
    refine E_reg ?_
    refine E_mv (v' := (.int .u64 s_2.1)) rfl ?_
    refine E_mv (v' := (.int .u64 s_2.1)) rfl ?_
    refine E_nil ?_
    refine E_nx ?_
    refine E_ret ?_
    cases h
    exact ⟨trivial, _, _, rfl, gwk_rn [some (0, 0), some (1, 0)] rfl (Nat.le_of_ble_eq_true rfl) ⟨(rn_obS rfl rfl (.cons (rn_b ((encI .u64).blws 0)) (.cons (rn_refL Event.enc rfl rfl rfl) (.nil (Nat.zero_le _)))) rfl), (rn_obV rfl rfl (.refl (Event.enc.blwf 0 _)) rfl rfl), trivial⟩, (rn_b rfl)⟩
def trace_Trace_Out_0_s (v_01 : Int) : Option Unit :=
  (some ())
theorem trace_Trace_Out_0_ev {v_01 : Int} {r : Unit} (h : trace_Trace_Out_0_s v_01 = some r) : PureEv Tryd.prog 14 [.nilp, (.int .u64 v_01)] (.tup []) := by
  unfold trace_Trace_Out_0_s at h
  refine PureEv_end mixed fn14 (by simp) [] 6 ?_
  unfold fc14
  refine E_sq ?_
  refine E_reg ?_
  refine E_mv (v' := .nilp) rfl ?_
  refine E_op0 (v' := (.bool false)) rfl rfl ?_
  refine E_nil ?_
  refine E_nx ?_
  refine E_cf rfl ?_
  refine E_skip ?_
  cases h
  exact ⟨trivial, _, rfl, (fz_tup trivial)⟩
def trace_Trace_In_0_s  : Option Int :=
  (some 0)
theorem trace_Trace_In_0_ev  {r : Int} (h : trace_Trace_In_0_s  = some r) : PureEv Tryd.prog 13 [.nilp] (.int .u64 r) := by
  unfold trace_Trace_In_0_s at h
  refine PureEv_end mixed fn13 (by simp) [] 6 ?_
  unfold fc13
  refine E_sq ?_
  refine E_reg ?_
  refine E_mv (v' := (.int .u64 0)) rfl ?_
  refine E_nil ?_
  refine E_nx ?_
  refine E_as ?_
  refine E_sq ?_
  refine E_reg ?_
  refine E_mv (v' := .nilp) rfl ?_
  refine E_op0 (v' := (.bool true)) rfl rfl ?_
  refine E_nil ?_
  refine E_nx ?_
  refine E_sq ?_
  refine E_ct rfl ?_
  refine E_sq ?_
  refine E_reg ?_
  refine E_mv (v' := (.int .u64 0)) rfl ?_
  refine E_nil ?_
  refine E_nx ?_
  refine E_ret ?_
  refine E_thr ?_
  cases h
  exact ⟨trivial, _, rfl, (fz_b rfl (.refl _))⟩
def trace_Trace_Events_0_s  : Option (List Event) :=
  (some [])
theorem trace_Trace_Events_0_ev  {r : (List Event)} (h : trace_Trace_Events_0_s  = some r) : PureEv Tryd.prog 15 [.nilp] (.sl false 2 (List.map Event.av r)) := by
  unfold trace_Trace_Events_0_s at h
  refine PureEv_end mixed fn15 (by simp) [] 6 ?_
  unfold fc15
  refine E_sq ?_
  refine E_reg ?_
  refine E_mv (v' := .nils) rfl ?_
  refine E_nil ?_
  refine E_nx ?_
  refine E_as ?_
  refine E_sq ?_
  refine E_reg ?_
  refine E_mv (v' := .nilp) rfl ?_
  refine E_op0 (v' := (.bool true)) rfl rfl ?_
  refine E_nil ?_
  refine E_nx ?_
  refine E_sq ?_
  refine E_ct rfl ?_
  refine E_sq ?_
  refine E_reg ?_
  refine E_mv (v' := .nils) rfl ?_
  refine E_nil ?_
  refine E_nx ?_
  refine E_ret ?_
  refine E_thr ?_
  cases h
  exact ⟨trivial, _, rfl, (fz_b rfl .nil)⟩
/- windlass/windlasslaw02.TraceKeeps -/
def fc3 : FC := (.seq (.reg [⟨(some 4), none, .op (.mv (.v (.bool false)))⟩] [])
  (.seq (.seq (.reg [⟨(some 16), none, .call 11 []⟩,
  ⟨(some 17), none, .op (.un .not (.t 16))⟩] [])
  (.cond (.t 17)
  (.seq (.reg [⟨(some 4), none, .op (.mv (.v (.bool false)))⟩] [])
  .ret)
  .skip))
  (.seq (.reg [⟨(some 18), none, .op (.bsl none [(.int .u64 0)] 0 [])⟩,
  ⟨(some 19), none, .op (.mv (.t 0))⟩,
  ⟨(some 20), none, .op (.app none 8 (.t 18) (.t 19))⟩,
  ⟨(some 5), none, .op (.mv (.t 20))⟩] [])
  (.seq (.reg [⟨(some 21), none, .op (.mv (.t 5))⟩,
  ⟨(some 22), none, .call 12 [(.t 21)]⟩,
  ⟨(some 6), none, .op (.mv (.t 22))⟩] [])
  (.seq (.seq (.reg [⟨(some 23), none, .op (.mv (.t 5))⟩,
  ⟨(some 24), none, .op (.len .sl (.t 23))⟩,
  ⟨(some 25), none, .op (.mv (.v (.int .i64 0)))⟩] [])
  (.block 0 (.loop (.seq (.reg [⟨(some 26), none, .op (.bin .none .lss (.t 25) (.t 24))⟩] [])
  (.seq (.cond (.t 26)
  .skip
  (.exit 0))
  (.seq (.block 1 (.seq (.reg [⟨(some 27), none, .op (.mv (.t 25))⟩,
  ⟨(some 7), none, .op (.mv (.t 27))⟩] [])
  (.reg [⟨(some 28), none, .op (.mv (.t 5))⟩,
  ⟨(some 29), none, .op (.mv (.t 7))⟩,
  ⟨(some 30), none, .op (.iad none none (.t 28) (.t 29))⟩,
  ⟨none, none, .op (.store 1 (.t 30) (.v (.int .u64 99)))⟩] [])))
  (.reg [⟨(some 31), none, .op (.bin .none .add (.t 25) (.v (.int .i64 1)))⟩,
  ⟨(some 25), none, .op (.mv (.t 31))⟩] [])))))))
  (.seq (.reg [⟨(some 8), none, .op (.mv (.v .nils))⟩] [])
  (.seq (.reg [⟨(some 9), none, .op (.mv (.v (.int .i64 0)))⟩] [])
  (.seq (.seq (.reg [⟨(some 32), none, .op (.mv (.t 1))⟩,
  ⟨(some 33), none, .op (.len .sl (.t 32))⟩,
  ⟨(some 34), none, .op (.mv (.v (.int .i64 0)))⟩] [])
  (.block 2 (.loop (.seq (.reg [⟨(some 35), none, .op (.bin .none .lss (.t 34) (.t 33))⟩] [])
  (.seq (.cond (.t 35)
  .skip
  (.exit 2))
  (.seq (.block 3 (.seq (.reg [⟨(some 36), none, .op (.mv (.t 34))⟩,
  ⟨(some 37), none, .op (.iad none none (.t 32) (.t 34))⟩,
  ⟨(some 38), none, .op (.load none (.t 37))⟩,
  ⟨(some 10), none, .op (.mv (.t 36))⟩,
  ⟨(some 11), none, .op (.mv (.t 38))⟩] [])
  (.seq (.seq (.reg [⟨(some 39), none, .op (.mv (.t 10))⟩,
  ⟨(some 40), none, .op (.bin .none .geq (.t 39) (.v (.int .i64 50)))⟩] [])
  (.cond (.t 40)
  (.exit 2)
  .skip))
  (.seq (.seq (.reg [⟨(some 41), none, .op (.mv (.t 11))⟩,
  ⟨(some 42), none, .op (.bin .none .rem (.t 41) (.v (.int .u64 2)))⟩,
  ⟨(some 43), none, .op (.bin .none .eql (.t 42) (.v (.int .u64 0)))⟩] [])
  (.cond (.t 43)
  (.seq (.reg [⟨(some 12), none, .op (.mv (.v (.int .u64 0)))⟩] [])
  (.seq (.seq (.reg [⟨(some 44), none, .op (.mv (.t 9))⟩,
  ⟨(some 45), none, .op (.mv (.t 0))⟩,
  ⟨(some 46), none, .op (.len .sl (.t 45))⟩,
  ⟨(some 47), none, .op (.bin .none .lss (.t 44) (.t 46))⟩] [])
  (.cond (.t 47)
  (.reg [⟨(some 48), none, .op (.mv (.t 0))⟩,
  ⟨(some 49), none, .op (.mv (.t 9))⟩,
  ⟨(some 50), none, .op (.iad none none (.t 48) (.t 49))⟩,
  ⟨(some 51), none, .op (.load none (.t 50))⟩,
  ⟨(some 12), none, .op (.mv (.t 51))⟩] [])
  .skip))
  (.seq (.reg [⟨(some 52), none, .op (.mv (.t 9))⟩,
  ⟨(some 53), none, .op (.bin .none .add (.t 52) (.v (.int .i64 1)))⟩,
  ⟨(some 9), none, .op (.mv (.t 53))⟩] [])
  (.seq (.seq (.reg [⟨(some 54), none, .op (.mv (.t 6))⟩,
  ⟨(some 55), none, .call 13 [(.t 54)]⟩,
  ⟨(some 56), none, .op (.mv (.t 12))⟩,
  ⟨(some 57), none, .op (.bin .none .neq (.t 55) (.t 56))⟩] [])
  (.cond (.t 57)
  (.seq (.reg [⟨(some 4), none, .op (.mv (.v (.bool false)))⟩] [])
  .ret)
  .skip))
  (.reg [⟨(some 58), none, .op (.mv (.t 8))⟩,
  ⟨(some 59), none, .op (.mv (.t 12))⟩,
  ⟨(some 60), none, .op (.build [(.int .i64 0), (.int .u64 0)] [(0, 1, (.v (.int .i64 2))), (1, 1, (.t 59))])⟩,
  ⟨(some 61), none, .op (.bsl (some 2) [(.int .i64 0), (.int .u64 0)] 1 [(0, 2, (.t 60))])⟩,
  ⟨(some 62), none, .op (.app (some 2) 16 (.t 58) (.t 61))⟩,
  ⟨(some 8), none, .op (.mv (.t 62))⟩] [])))))
  (.seq (.reg [⟨(some 63), none, .op (.mv (.t 6))⟩,
  ⟨(some 64), none, .op (.mv (.t 11))⟩,
  ⟨(some 65), none, .call 14 [(.t 63), (.t 64)]⟩] [])
  (.reg [⟨(some 66), none, .op (.mv (.t 8))⟩,
  ⟨(some 67), none, .op (.mv (.t 11))⟩,
  ⟨(some 68), none, .op (.build [(.int .i64 0), (.int .u64 0)] [(0, 1, (.v (.int .i64 1))), (1, 1, (.t 67))])⟩,
  ⟨(some 69), none, .op (.bsl (some 2) [(.int .i64 0), (.int .u64 0)] 1 [(0, 2, (.t 68))])⟩,
  ⟨(some 70), none, .op (.app (some 2) 16 (.t 66) (.t 69))⟩,
  ⟨(some 8), none, .op (.mv (.t 70))⟩] []))))
  (.seq (.reg [⟨(some 71), none, .op (.mv (.t 6))⟩,
  ⟨(some 72), none, .call 15 [(.t 71)]⟩,
  ⟨(some 13), none, .op (.mv (.t 72))⟩] [])
  (.seq (.seq (.reg [⟨(some 73), none, .op (.mv (.t 13))⟩,
  ⟨(some 74), none, .op (.mv (.t 8))⟩,
  ⟨(some 75), none, .call 16 [(.t 73), (.t 74)]⟩,
  ⟨(some 76), none, .op (.un .not (.t 75))⟩] [])
  (.cond (.t 76)
  (.seq (.reg [⟨(some 4), none, .op (.mv (.v (.bool false)))⟩] [])
  .ret)
  .skip))
  (.seq (.reg [⟨(some 77), none, .op (.mv (.t 13))⟩,
  ⟨(some 78), none, .op (.len .sl (.t 77))⟩,
  ⟨(some 79), none, .op (.mv (.v (.int .i64 0)))⟩] [])
  (.block 4 (.loop (.seq (.reg [⟨(some 80), none, .op (.bin .none .lss (.t 79) (.t 78))⟩] [])
  (.seq (.cond (.t 80)
  .skip
  (.exit 4))
  (.seq (.block 5 (.seq (.reg [⟨(some 81), none, .op (.mv (.t 79))⟩,
  ⟨(some 14), none, .op (.mv (.t 81))⟩] [])
  (.reg [⟨(some 82), none, .op (.mv (.t 13))⟩,
  ⟨(some 83), none, .op (.mv (.t 14))⟩,
  ⟨(some 84), none, .op (.iad none (some 2) (.t 82) (.t 83))⟩,
  ⟨(some 85), none, .op (.fad 1 (.t 84))⟩,
  ⟨none, none, .op (.store 1 (.t 85) (.v (.int .u64 1)))⟩] [])))
  (.reg [⟨(some 86), none, .op (.bin .none .add (.t 79) (.v (.int .i64 1)))⟩,
  ⟨(some 79), none, .op (.mv (.t 86))⟩] [])))))))))))))
  (.reg [⟨(some 87), none, .op (.bin .none .add (.t 34) (.v (.int .i64 1)))⟩,
  ⟨(some 34), none, .op (.mv (.t 87))⟩] [])))))))
  (.seq (.reg [⟨(some 15), none, .op (.mv (.v .nilp))⟩] [])
  (.seq (.reg [⟨(some 88), none, .op (.mv (.t 15))⟩,
  ⟨(some 89), none, .call 14 [(.t 88), (.v (.int .u64 1))]⟩] [])
  (.seq (.reg [⟨(some 90), none, .op (.mv (.t 15))⟩,
  ⟨(some 91), none, .call 13 [(.t 90)]⟩,
  ⟨(some 92), none, .op (.bin .none .eql (.t 91) (.v (.int .u64 0)))⟩,
  ⟨(some 93), none, .op (.mv (.t 92))⟩,
  ⟨(some 94), some (93, true), .op (.mv (.t 15))⟩,
  ⟨(some 95), some (93, true), .call 15 [(.t 94)]⟩,
  ⟨(some 96), some (93, true), .op (.len .sl (.t 95))⟩,
  ⟨(some 97), some (93, true), .op (.bin .none .eql (.t 96) (.v (.int .i64 0)))⟩,
  ⟨(some 98), none, .op (.pick (.t 93) (.t 97) (.v (.bool false)))⟩,
  ⟨(some 4), none, .op (.mv (.t 98))⟩] [])
  .ret)))))))))))
theorem fn3 : Fn3 Tryd.prog 3 99 [(4, none)] fc3 := ⟨_, _, Tryd.func3, rfl, rfl, rfl, by kernel_rfl⟩
def windlasslaw02_TraceKeeps_s (tape_00 : (List Int)) (ops_01 : (List Int)) : Option Bool :=
  (windlasslaw02_first_s.bind fun fir_1 => (if (!fir_1) then (some false) else ((appL 8 ([] : List Int) tape_00).bind fun l_2 => ((trace_New_r_o_s l_2).bind fun (new_3 : (List Int)) => ((rni (fun (i_5 : Nat) (s_4 : (List Int)) => (((getI s_4 (i_5 : Int)).bind fun y_6 => (some (.nxt (List.set s_4 (Int.toNat (i_5 : Int)) 99)))) : Option (Stp (List Int) (Option Bool)))) (List.length l_2 : Int) l_2).bind (oc (fun (s_4 : (List Int)) => ((rng (fun (i_9 : Nat) (o_10 : Int) (s_8 : (Int × (List Int) × (List Event) × (List Event))) => ((if (decide ((i_9 : Int) ≥ 50)) then (some (.brk (s_8.1, s_8.2.1, s_8.2.2.1, s_8.2.2.2))) else (jp (fun (s_13 : (Int × (List Int) × (List Event) × (List Event))) => ((trace_Trace_Events_pNR_o_s s_13.2.1 s_13.2.2.1).bind fun (eve_21 : ((List Int) × (List Event))) => ((windlassref02_Same_r_r_s eve_21.2 s_13.2.2.2).bind fun (sam_22 : Bool) => (if (!sam_22) then (some (.ret (some false))) else ((rni (fun (i_24 : Nat) (s_23 : (List Event)) => (((getI s_23 (i_24 : Int)).bind fun y_25 => (some (.nxt (List.set s_23 (Int.toNat (i_24 : Int)) (Event.mk y_25.Kind 1))))) : Option (Stp (List Event) (Option (Stp (Int × (List Int) × (List Event) × (List Event)) (Option Bool)))))) (List.length eve_21.2 : Int) eve_21.2).bind (oc (fun (s_23 : (List Event)) => (some (.nxt (s_13.1, eve_21.1, s_13.2.2.1, s_13.2.2.2)))))))))) (fun k_12 => (if ((Int.tmod o_10 2) == 0) then (jp (fun (s_15 : Int) => ((trace_Trace_In_pNR_s s_8.2.1 s_8.2.2.1).bind fun (vin_17 : (Int × (List Int) × (List Event))) => (if (vin_17.1 != s_15) then (some (.ret (some false))) else ((appL 16 s_8.2.2.2 [(Event.mk 2 s_15)]).bind fun l_18 => (k_12 ((I64 (s_8.1 + 1)), vin_17.2.1, vin_17.2.2, l_18)))))) (fun k_14 => (if (decide (s_8.1 < (List.length tape_00 : Int))) then ((getI tape_00 s_8.1).bind fun y_16 => (k_14 y_16)) else (k_14 0)))) else ((trace_Trace_Out_pNR_s s_8.2.1 s_8.2.2.1 o_10).bind fun (out_19 : ((List Int) × (List Event))) => ((appL 16 s_8.2.2.2 [(Event.mk 1 o_10)]).bind fun l_20 => (k_12 (s_8.1, out_19.1, out_19.2, l_20)))))))) : Option (Stp (Int × (List Int) × (List Event) × (List Event)) (Option Bool)))) ops_01 (0, new_3, [], [])).bind (oc (fun (s_8 : (Int × (List Int) × (List Event) × (List Event))) => ((trace_Trace_Out_0_s 1).bind fun out_27 => (jp (fun (s_29 : Bool) => (some s_29)) (fun k_28 => (trace_Trace_In_0_s.bind fun vin_30 => (if (vin_30 == 0) then (trace_Trace_Events_0_s.bind fun eve_31 => (k_28 ((List.length eve_31 : Int) == 0))) else (k_28 false))))))))))))))))
theorem windlasslaw02_TraceKeeps_ev {tape_00 : (List Int)} {ops_01 : (List Int)} {r : Bool} (h : windlasslaw02_TraceKeeps_s tape_00 ops_01 = some r) : PureEv Tryd.prog 3 [(.sl false 1 (List.map (avI .u64) tape_00)), (.sl false 1 (List.map (avI .u64) ops_01))] (.bool r) := by
  unfold windlasslaw02_TraceKeeps_s at h
  refine PureEv_end mixed fn3 (by simp) [18, 62, 70] 6 ?_
  unfold fc3
  refine E_sq ?_
  refine E_reg ?_
  refine E_mv (v' := (.bool false)) rfl ?_
  refine E_nil ?_
  refine E_nx ?_
  refine E_as ?_
  refine E_sq ?_
  refine E_reg ?_
  obtain ⟨fir_1, hfir_1, h⟩ := bd_some h
  refine E_callW (windlasslaw02_first_ev  hfir_1) rfl trivial (blwL_of trivial) rfl ?_
  refine E_op0 (v' := (.bool (!fir_1))) rfl rfl ?_
  refine E_nil ?_
  refine E_nx ?_
  refine E_sq ?_
  refine E_cs (t := (!fir_1)) rfl (fun hb => ?_) (fun hb => ?_)
  · rw [ite_t hb] at h
    refine E_sq ?_
    refine E_reg ?_
    refine E_mv (v' := (.bool false)) rfl ?_
    refine E_nil ?_
    refine E_nx ?_
    refine E_ret ?_
    refine E_thr ?_
    cases h
    exact ⟨trivial, _, rfl, (fz_b rfl (.refl _))⟩
  · rw [ite_f hb] at h
    refine E_skip ?_
    refine E_nx ?_
    refine E_sq ?_
    refine E_reg ?_
    refine E_op (v' := (.ref 0 0 0 (List.length ([] : List Int)) none)) (S' := [.arr 0 (flat (avI .u64) ([] : List Int))]) rfl rfl rfl ?_
    refine E_mv (v' := (.sl false 1 (List.map (avI .u64) tape_00))) rfl ?_
    obtain ⟨l_2, hl_2, h⟩ := bd_some h
    refine E_apL (S' := [.arr 1 (flat (avI .u64) l_2)]) (encI .u64) rfl (src_sl tape_00) rfl hl_2 rfl ?_
    refine E_mv (v' := (.ref 0 1 0 (List.length l_2) none)) rfl ?_
    refine E_nil ?_
    refine E_nx ?_
    refine E_sq ?_
    refine E_reg ?_
    refine E_mv (v' := (.ref 0 1 0 (List.length l_2) none)) rfl ?_
    obtain ⟨new_3, hnew_3, h⟩ := bd_some h
    refine E_callF (S' := [.arr 1 (flat (avI .u64) l_2), .arr 0 [(.sl false 1 (List.map (avI .u64) new_3)), .nils]]) (r' := (.ptr 1 0 0)) (trace_New_r_o_ev hnew_3) [0] rfl rfl (by decide) rfl rfl ⟨(fr_in rfl rfl (.refl ((encI .u64).blwf 0 _))), trivial⟩ ⟨(fr_outS rfl rfl (.refl ((encI .u64).blwf 0 _)) rfl rfl), (fr_outN rfl rfl (.cons (rn_b ((encI .u64).blws 0)) (.cons (rn_b rfl) (.nil (Nat.zero_le _)))) rfl), trivial⟩ ⟨.inl rfl, trivial⟩ rfl (.cons (fi_ref rfl rfl rfl rfl) (.nil (Nat.zero_le _))) (fo_ptr rfl rfl rfl rfl) ?_
    refine E_mv (v' := (.ptr 1 0 0)) rfl ?_
    refine E_nil ?_
    refine E_nx ?_
    refine E_as ?_
    refine E_sq ?_
    refine E_reg ?_
    refine E_mv (v' := (.ref 0 1 0 (List.length l_2) none)) rfl ?_
    refine E_lenR rfl ?_
    refine E_mv (v' := (.int .i64 0)) rfl ?_
    refine E_nil ?_
    refine E_nx ?_
    refine E_sq ?_
    refine E_rniO (fun s_4 => [(0, (.sl false 1 (List.map (avI .u64) tape_00))), (1, (.sl false 1 (List.map (avI .u64) ops_01))), (5, (.ref 0 1 0 (List.length s_4) none)), (6, (.ptr 1 0 0))]) (fun s_4 => [.arr 1 (flat (avI .u64) s_4), .arr 0 [(.sl false 1 (List.map (avI .u64) new_3)), .nils]]) h (by decide) (by decide) (fun _ => ⟨rfl, rfl, rfl, rfl⟩) (wk_rn [some (0, 0), some (1, 0)] rfl (Nat.le_of_ble_eq_true rfl) ⟨(rn_ob rfl rfl (.refl ((encI .u64).blwf 0 _)) rfl), (rn_ob rfl rfl (.cons (rn_b ((encI .u64).blws 0)) (.cons (rn_b rfl) (.nil (Nat.zero_le _)))) rfl), trivial⟩ ⟨(rn_b rfl), (rn_b rfl), (rn_b ((encI .u64).blws 0)), (rn_b ((encI .u64).blws 0)), (rn_refL (encI .u64) rfl rfl rfl), (rn_ptr rfl rfl rfl rfl), trivial⟩) (fun i_5 s_4 c hlt h => ?_) (fun s_4 fr' S' h hw => ?_)
    · refine E_sq ?_
      refine E_reg ?_
      refine E_mv (v' := (.int .i64 (i_5 : Int))) rfl ?_
      refine E_mv (v' := (.int .i64 (i_5 : Int))) rfl ?_
      refine E_nil ?_
      refine E_nx ?_
      refine E_reg ?_
      refine E_mv (v' := (.ref 0 1 0 (List.length s_4) none)) rfl ?_
      refine E_mv (v' := (.int .i64 (i_5 : Int))) rfl ?_
      obtain ⟨y_6, hy_6, h⟩ := bd_some h
      refine E_iadR rfl rfl ⟨(getI_some hy_6).1, (getI_some hy_6).2.1⟩ ?_
      refine E_stR (y := y_6) (y' := 99) (S' := [.arr 1 (flat (avI .u64) (List.set s_4 (Int.toNat (i_5 : Int)) 99)), .arr 0 [(.sl false 1 (List.map (avI .u64) new_3)), .nils]]) (encI .u64) rfl rfl rfl (by first | rfl | exact (Nat.add_zero _).symm | (simp only [Nat.zero_add]; exact (Nat.add_zero _).symm) | (simp only [Nat.zero_add, Nat.add_zero])) (getI_some hy_6).2.2 rfl rfl (Nat.le_of_ble_eq_true rfl) rfl rfl ?_
      try rw [show List.length s_4 = List.length (List.set s_4 (Int.toNat (i_5 : Int)) 99) by simp only [List.length_set]]
      refine E_nil ?_
      cases h
      exact L_nn rfl (wk_rn [some (0, 0), some (1, 0)] rfl (Nat.le_of_ble_eq_true rfl) ⟨(rn_ob rfl rfl (.refl ((encI .u64).blwf 0 _)) rfl), (rn_ob rfl rfl (.cons (rn_b ((encI .u64).blws 0)) (.cons (rn_b rfl) (.nil (Nat.zero_le _)))) rfl), trivial⟩ ⟨(rn_b rfl), (rn_b rfl), (rn_b ((encI .u64).blws 0)), (rn_b ((encI .u64).blws 0)), (rn_refL (encI .u64) rfl rfl rfl), (rn_ptr rfl rfl rfl rfl), trivial⟩)
    · refine X_nx hw ?_
      refine E_sq ?_
      refine E_reg ?_
      refine E_mv (v' := .nils) rfl ?_
      refine E_nil ?_
      refine E_nx ?_
      refine E_sq ?_
      refine E_reg ?_
      refine E_mv (v' := (.int .i64 0)) rfl ?_
      refine E_nil ?_
      refine E_nx ?_
      refine E_as ?_
      refine E_sq ?_
      refine E_reg ?_
      refine E_mv (v' := (.sl false 1 (List.map (avI .u64) ops_01))) rfl ?_
      refine E_len rfl ?_
      refine E_mv (v' := (.int .i64 0)) rfl ?_
      refine E_nil ?_
      refine E_nx ?_
      refine E_sq ?_
      refine E_rngO (fun s_8 => [(0, (.sl false 1 (List.map (avI .u64) tape_00))), (6, (.ptr 0 0 0)), (8, (.ref 2 1 0 (List.length s_8.2.2.2) (some 2))), (9, (.int .i64 s_8.1)), (32, (.sl false 1 (List.map (avI .u64) ops_01)))]) (fun s_8 => [.arr 0 [(.sl false 1 (List.map (avI .u64) s_8.2.1)), (.ref 1 1 0 (List.length s_8.2.2.1) (some 2))], .arr 1 (flat Event.av s_8.2.2.1), .arr 1 (flat Event.av s_8.2.2.2)]) h (by decide) (by decide) (fun _ => ⟨rfl, rfl, rfl, rfl⟩) (wk_rn [some (1, 0), none, none] rfl (Nat.le_of_ble_eq_true rfl) ⟨(rn_ob rfl rfl (.cons (rn_b ((encI .u64).blws 0)) (.cons (rn_nil rfl) (.nil (Nat.zero_le _)))) rfl), (rn_obN rfl rfl rfl), (rn_obN rfl rfl rfl), trivial⟩ ⟨(rn_b rfl), (rn_b rfl), (rn_b ((encI .u64).blws 0)), (rn_ptr rfl rfl rfl rfl), (rn_nil rfl), (rn_b rfl), (rn_b ((encI .u64).blws 0)), trivial⟩) (fun i_9 o_10 s_8 c hx_11 hlt h => ?_) (fun s_8 fr' S' h hw => ?_)
      · refine E_sq ?_
        refine E_reg ?_
        refine E_mv (v' := (.int .i64 (i_9 : Int))) rfl ?_
        refine E_iadF rfl rfl (getI_of hx_11) ?_
        refine E_op0 (v' := (.int .u64 o_10)) rfl rfl ?_
        refine E_mv (v' := (.int .i64 (i_9 : Int))) rfl ?_
        refine E_mv (v' := (.int .u64 o_10)) rfl ?_
        refine E_nil ?_
        refine E_nx ?_
        refine E_as ?_
        refine E_sq ?_
        refine E_reg ?_
        refine E_mv (v' := (.int .i64 (i_9 : Int))) rfl ?_
        refine E_op0 (v' := (.bool (decide ((i_9 : Int) ≥ 50)))) rfl rfl ?_
        refine E_nil ?_
        refine E_nx ?_
        refine E_sq ?_
        refine E_cs (t := (decide ((i_9 : Int) ≥ 50))) rfl (fun hb => ?_) (fun hb => ?_)
        · rw [ite_t hb] at h
          refine E_exit ?_
          refine E_the ?_
          cases h
          exact L_bk rfl rfl rfl (wk_rn [some (0, 0), some (1, 0), some (2, 0)] rfl (Nat.le_of_ble_eq_true rfl) ⟨(rn_ob rfl rfl (.cons (rn_b ((encI .u64).blws 0)) (.cons (rn_refL Event.enc rfl rfl rfl) (.nil (Nat.zero_le _)))) rfl), (rn_ob rfl rfl (.refl (Event.enc.blwf 0 _)) rfl), (rn_ob rfl rfl (.refl (Event.enc.blwf 0 _)) rfl), trivial⟩ ⟨(rn_b ((encI .u64).blws 0)), (rn_ptr rfl rfl rfl rfl), (rn_refL Event.enc rfl rfl rfl), (rn_b rfl), (rn_b ((encI .u64).blws 0)), trivial⟩)
        · rw [ite_f hb] at h
          refine E_skip ?_
          refine E_nx ?_
          refine E_as ?_
          refine E_sq ?_
          refine E_reg ?_
          refine E_mv (v' := (.int .u64 o_10)) rfl ?_
          refine E_op0 (v' := (.int .u64 (Int.tmod o_10 2))) rfl rfl ?_
          refine E_op0 (v' := (.bool ((Int.tmod o_10 2) == 0))) rfl rfl ?_
          refine E_nil ?_
          refine E_nx ?_
          refine E_jp h (fun s_13 => [(0, (.sl false 1 (List.map (avI .u64) tape_00))), (6, (.ptr 0 0 0)), (8, (.ref 2 1 0 (List.length s_13.2.2.2) (some 2))), (9, (.int .i64 s_13.1)), (32, (.sl false 1 (List.map (avI .u64) ops_01))), (33, (.int .i64 (List.length ops_01 : Int))), (34, (.int .i64 (i_9 : Int)))]) (fun s_13 => [.arr 0 [(.sl false 1 (List.map (avI .u64) s_13.2.1)), (.ref 1 1 0 (List.length s_13.2.2.1) (some 2))], .arr 1 (flat Event.av s_13.2.2.1), .arr 1 (flat Event.av s_13.2.2.2)]) (fun k_12 h => ?_) (fun s_13 h => ?_)
          · refine E_cs (t := ((Int.tmod o_10 2) == 0)) rfl (fun hb => ?_) (fun hb => ?_)
            · rw [ite_t hb] at h
              refine E_sq ?_
              refine E_reg ?_
              refine E_mv (v' := (.int .u64 0)) rfl ?_
              refine E_nil ?_
              refine E_nx ?_
              refine E_as ?_
              refine E_sq ?_
              refine E_reg ?_
              refine E_mv (v' := (.int .i64 s_8.1)) rfl ?_
              refine E_mv (v' := (.sl false 1 (List.map (avI .u64) tape_00))) rfl ?_
              refine E_len rfl ?_
              refine E_op0 (v' := (.bool (decide (s_8.1 < (List.length tape_00 : Int))))) rfl rfl ?_
              refine E_nil ?_
              refine E_nx ?_
              refine E_jp h (fun s_15 => [(0, (.sl false 1 (List.map (avI .u64) tape_00))), (6, (.ptr 0 0 0)), (8, (.ref 2 1 0 (List.length s_8.2.2.2) (some 2))), (9, (.int .i64 s_8.1)), (12, (.int .u64 s_15)), (32, (.sl false 1 (List.map (avI .u64) ops_01))), (33, (.int .i64 (List.length ops_01 : Int))), (34, (.int .i64 (i_9 : Int)))]) (fun s_15 => [.arr 0 [(.sl false 1 (List.map (avI .u64) s_8.2.1)), (.ref 1 1 0 (List.length s_8.2.2.1) (some 2))], .arr 1 (flat Event.av s_8.2.2.1), .arr 1 (flat Event.av s_8.2.2.2)]) (fun k_14 h => ?_) (fun s_15 h => ?_)
              · refine E_cs (t := (decide (s_8.1 < (List.length tape_00 : Int)))) rfl (fun hb => ?_) (fun hb => ?_)
                · rw [ite_t hb] at h
                  refine E_reg ?_
                  refine E_mv (v' := (.sl false 1 (List.map (avI .u64) tape_00))) rfl ?_
                  refine E_mv (v' := (.int .i64 s_8.1)) rfl ?_
                  obtain ⟨y_16, hy_16, h⟩ := bd_some h
                  refine E_iadF rfl rfl hy_16 ?_
                  refine E_op0 (v' := (.int .u64 y_16)) rfl rfl ?_
                  refine E_mv (v' := (.int .u64 y_16)) rfl ?_
                  refine E_nil ?_
                  exact E_jx _ h (wk_rn [some (0, 0), some (1, 0), some (2, 0)] rfl (Nat.le_of_ble_eq_true rfl) ⟨(rn_ob rfl rfl (.cons (rn_b ((encI .u64).blws 0)) (.cons (rn_refL Event.enc rfl rfl rfl) (.nil (Nat.zero_le _)))) rfl), (rn_ob rfl rfl (.refl (Event.enc.blwf 0 _)) rfl), (rn_ob rfl rfl (.refl (Event.enc.blwf 0 _)) rfl), trivial⟩ ⟨(rn_b ((encI .u64).blws 0)), (rn_ptr rfl rfl rfl rfl), (rn_refL Event.enc rfl rfl rfl), (rn_b rfl), (rn_b rfl), (rn_b ((encI .u64).blws 0)), (rn_b rfl), (rn_b rfl), trivial⟩)
                · rw [ite_f hb] at h
                  refine E_skip ?_
                  exact E_jx _ h (wk_rn [some (0, 0), some (1, 0), some (2, 0)] rfl (Nat.le_of_ble_eq_true rfl) ⟨(rn_ob rfl rfl (.cons (rn_b ((encI .u64).blws 0)) (.cons (rn_refL Event.enc rfl rfl rfl) (.nil (Nat.zero_le _)))) rfl), (rn_ob rfl rfl (.refl (Event.enc.blwf 0 _)) rfl), (rn_ob rfl rfl (.refl (Event.enc.blwf 0 _)) rfl), trivial⟩ ⟨(rn_b ((encI .u64).blws 0)), (rn_ptr rfl rfl rfl rfl), (rn_refL Event.enc rfl rfl rfl), (rn_b rfl), (rn_b rfl), (rn_b ((encI .u64).blws 0)), (rn_b rfl), (rn_b rfl), trivial⟩)
              · refine E_sq ?_
                refine E_reg ?_
                refine E_mv (v' := (.int .i64 s_8.1)) rfl ?_
                refine E_op0 (v' := (.int .i64 (I64 (s_8.1 + 1)))) rfl rfl ?_
                refine E_mv (v' := (.int .i64 (I64 (s_8.1 + 1)))) rfl ?_
                refine E_nil ?_
                refine E_nx ?_
                refine E_as ?_
                refine E_sq ?_
                refine E_reg ?_
                refine E_mv (v' := (.ptr 0 0 0)) rfl ?_
                obtain ⟨vin_17, hvin_17, h⟩ := bd_some h
                refine E_callF (S' := [.arr 0 [(.sl false 1 (List.map (avI .u64) vin_17.2.1)), (.ref 1 2 0 (List.length vin_17.2.2) (some 2))], .arr 2 (flat Event.av vin_17.2.2), .arr 1 (flat Event.av s_8.2.2.2)]) (r' := (.int .u64 vin_17.1)) (trace_Trace_In_pNR_ev hvin_17) [0, 1] rfl rfl (by decide) rfl rfl ⟨(fr_in rfl rfl (.cons (.base ((encI .u64).blws 0) (.refl _)) (.cons (fi_ref rfl rfl rfl rfl) (.nil (Nat.zero_le _))))), (fr_in rfl rfl (.refl (Event.enc.blwf 0 _))), trivial⟩ ⟨(fr_outS rfl rfl (.cons (rn_b ((encI .u64).blws 0)) (.cons (fo_ref rfl rfl rfl rfl) (.nil (Nat.zero_le _)))) rfl rfl), (fr_out rfl rfl (.refl (Event.enc.blwf 0 _)) rfl rfl), trivial⟩ ⟨.inl rfl, .inl rfl, .inr rfl, trivial⟩ rfl (.cons (fi_ptr rfl rfl rfl rfl) (.nil (Nat.zero_le _))) (rn_b rfl) ?_
                refine E_mv (v' := (.int .u64 s_15)) rfl ?_
                refine E_op0 (v' := (.bool (vin_17.1 != s_15))) rfl rfl ?_
                refine E_nil ?_
                refine E_nx ?_
                refine E_sq ?_
                refine E_cs (t := (vin_17.1 != s_15)) rfl (fun hb => ?_) (fun hb => ?_)
                · rw [ite_t hb] at h
                  refine E_sq ?_
                  refine E_reg ?_
                  refine E_mv (v' := (.bool false)) rfl ?_
                  refine E_nil ?_
                  refine E_nx ?_
                  refine E_ret ?_
                  refine E_thr ?_
                  refine E_thr ?_
                  cases h
                  refine L_rrO rfl (fun h => ?_)
                  refine E_thr ?_
                  cases h
                  exact ⟨trivial, _, rfl, (fz_b rfl (.refl _))⟩
                · rw [ite_f hb] at h
                  refine E_skip ?_
                  refine E_nx ?_
                  refine E_reg ?_
                  refine E_mv (v' := (.ref 2 1 0 (List.length s_8.2.2.2) (some 2))) rfl ?_
                  refine E_mv (v' := (.int .u64 s_15)) rfl ?_
                  refine E_opw (v' := (Event.av (Event.mk 2 s_15))) rfl (.aggL ⟨(.refl _), (.refl _), trivial⟩) rfl ?_
                  refine E_opw (v' := (.sl true 2 (List.map Event.av [(Event.mk 2 s_15)]))) rfl (.refl _) rfl ?_
                  obtain ⟨l_18, hl_18, h⟩ := bd_some h
                  refine E_apL (S' := [.arr 0 [(.sl false 1 (List.map (avI .u64) vin_17.2.1)), (.ref 1 2 0 (List.length vin_17.2.2) (some 2))], .arr 2 (flat Event.av vin_17.2.2), .arr 2 (flat Event.av l_18)]) Event.enc rfl (src_sl [(Event.mk 2 s_15)]) rfl hl_18 rfl ?_
                  refine E_mv (v' := (.ref 2 2 0 (List.length l_18) (some 2))) rfl ?_
                  refine E_nil ?_
                  exact E_jx _ h (wk_rn [some (0, 0), some (1, 0), some (2, 0)] rfl (Nat.le_of_ble_eq_true rfl) ⟨(rn_ob rfl rfl (.cons (rn_b ((encI .u64).blws 0)) (.cons (rn_refL Event.enc rfl rfl rfl) (.nil (Nat.zero_le _)))) rfl), (rn_ob rfl rfl (.refl (Event.enc.blwf 0 _)) rfl), (rn_ob rfl rfl (.refl (Event.enc.blwf 0 _)) rfl), trivial⟩ ⟨(rn_b ((encI .u64).blws 0)), (rn_ptr rfl rfl rfl rfl), (rn_refL Event.enc rfl rfl rfl), (rn_b rfl), (rn_b ((encI .u64).blws 0)), (rn_b rfl), (rn_b rfl), trivial⟩)
            · rw [ite_f hb] at h
              refine E_sq ?_
              refine E_reg ?_
              refine E_mv (v' := (.ptr 0 0 0)) rfl ?_
              refine E_mv (v' := (.int .u64 o_10)) rfl ?_
              obtain ⟨out_19, hout_19, h⟩ := bd_some h
              refine E_callF (S' := [.arr 0 [(.sl false 1 (List.map (avI .u64) out_19.1)), (.ref 1 2 0 (List.length out_19.2) (some 2))], .arr 2 (flat Event.av out_19.2), .arr 1 (flat Event.av s_8.2.2.2)]) (r' := (.tup [])) (trace_Trace_Out_pNR_ev hout_19) [0, 1] rfl rfl (by decide) rfl rfl ⟨(fr_in rfl rfl (.cons (.base ((encI .u64).blws 0) (.refl _)) (.cons (fi_ref rfl rfl rfl rfl) (.nil (Nat.zero_le _))))), (fr_in rfl rfl (.refl (Event.enc.blwf 0 _))), trivial⟩ ⟨(fr_outS rfl rfl (.cons (rn_b ((encI .u64).blws 0)) (.cons (fo_ref rfl rfl rfl rfl) (.nil (Nat.zero_le _)))) rfl rfl), (fr_out rfl rfl (.refl (Event.enc.blwf 0 _)) rfl rfl), trivial⟩ ⟨.inl rfl, .inl rfl, .inr rfl, trivial⟩ rfl (.cons (fi_ptr rfl rfl rfl rfl) (.cons (.base rfl (.refl _)) (.nil (Nat.zero_le _)))) (rn_tup trivial) ?_
              refine E_nil ?_
              refine E_nx ?_
              refine E_reg ?_
              refine E_mv (v' := (.ref 2 1 0 (List.length s_8.2.2.2) (some 2))) rfl ?_
              refine E_mv (v' := (.int .u64 o_10)) rfl ?_
              refine E_opw (v' := (Event.av (Event.mk 1 o_10))) rfl (.aggL ⟨(.refl _), (.refl _), trivial⟩) rfl ?_
              refine E_opw (v' := (.sl true 2 (List.map Event.av [(Event.mk 1 o_10)]))) rfl (.refl _) rfl ?_
              obtain ⟨l_20, hl_20, h⟩ := bd_some h
              refine E_apL (S' := [.arr 0 [(.sl false 1 (List.map (avI .u64) out_19.1)), (.ref 1 2 0 (List.length out_19.2) (some 2))], .arr 2 (flat Event.av out_19.2), .arr 2 (flat Event.av l_20)]) Event.enc rfl (src_sl [(Event.mk 1 o_10)]) rfl hl_20 rfl ?_
              refine E_mv (v' := (.ref 2 2 0 (List.length l_20) (some 2))) rfl ?_
              refine E_nil ?_
              exact E_jx _ h (wk_rn [some (0, 0), some (1, 0), some (2, 0)] rfl (Nat.le_of_ble_eq_true rfl) ⟨(rn_ob rfl rfl (.cons (rn_b ((encI .u64).blws 0)) (.cons (rn_refL Event.enc rfl rfl rfl) (.nil (Nat.zero_le _)))) rfl), (rn_ob rfl rfl (.refl (Event.enc.blwf 0 _)) rfl), (rn_ob rfl rfl (.refl (Event.enc.blwf 0 _)) rfl), trivial⟩ ⟨(rn_b ((encI .u64).blws 0)), (rn_ptr rfl rfl rfl rfl), (rn_refL Event.enc rfl rfl rfl), (rn_b rfl), (rn_b ((encI .u64).blws 0)), (rn_b rfl), (rn_b rfl), trivial⟩)
          · refine E_sq ?_
            refine E_reg ?_
            refine E_mv (v' := (.ptr 0 0 0)) rfl ?_
            obtain ⟨eve_21, heve_21, h⟩ := bd_some h
            refine E_callF (S' := [.arr 0 [(.sl false 1 (List.map (avI .u64) eve_21.1)), (.ref 1 1 0 (List.length s_13.2.2.1) (some 2))], .arr 1 (flat Event.av s_13.2.2.1), .arr 1 (flat Event.av s_13.2.2.2), .arr 1 (flat Event.av eve_21.2)]) (r' := (.ref 3 1 0 (List.length eve_21.2) (some 2))) (trace_Trace_Events_pNR_o_ev heve_21) [0, 1] rfl rfl (by decide) rfl rfl ⟨(fr_in rfl rfl (.cons (.base ((encI .u64).blws 0) (.refl _)) (.cons (fi_ref rfl rfl rfl rfl) (.nil (Nat.zero_le _))))), (fr_in rfl rfl (.refl (Event.enc.blwf 0 _))), trivial⟩ ⟨(fr_outS rfl rfl (.cons (rn_b ((encI .u64).blws 0)) (.cons (fo_ref rfl rfl rfl rfl) (.nil (Nat.zero_le _)))) rfl rfl), (fr_outS rfl rfl (.refl (Event.enc.blwf 0 _)) rfl rfl), (fr_outN rfl rfl (.refl (Event.enc.blwf 0 _)) rfl), trivial⟩ ⟨.inl rfl, .inl rfl, .inr rfl, trivial⟩ rfl (.cons (fi_ptr rfl rfl rfl rfl) (.nil (Nat.zero_le _))) (fo_ref rfl rfl rfl rfl) ?_
            refine E_mv (v' := (.ref 3 1 0 (List.length eve_21.2) (some 2))) rfl ?_
            refine E_nil ?_
            refine E_nx ?_
            refine E_as ?_
            refine E_sq ?_
            refine E_reg ?_
            refine E_mv (v' := (.ref 3 1 0 (List.length eve_21.2) (some 2))) rfl ?_
            refine E_mv (v' := (.ref 2 1 0 (List.length s_13.2.2.2) (some 2))) rfl ?_
            obtain ⟨sam_22, hsam_22, h⟩ := bd_some h
            refine E_callF (S' := [.arr 0 [(.sl false 1 (List.map (avI .u64) eve_21.1)), (.ref 1 1 0 (List.length s_13.2.2.1) (some 2))], .arr 1 (flat Event.av s_13.2.2.1), .arr 1 (flat Event.av s_13.2.2.2), .arr 1 (flat Event.av eve_21.2)]) (r' := (.bool sam_22)) (windlassref02_Same_r_r_ev hsam_22) [3, 2] rfl rfl (by decide) rfl rfl ⟨(fr_in rfl rfl (.refl (Event.enc.blwf 0 _))), (fr_in rfl rfl (.refl (Event.enc.blwf 0 _))), trivial⟩ ⟨(fr_outS rfl rfl (.refl (Event.enc.blwf 0 _)) rfl rfl), (fr_outS rfl rfl (.refl (Event.enc.blwf 0 _)) rfl rfl), trivial⟩ ⟨.inr rfl, .inr rfl, .inl rfl, .inl rfl, trivial⟩ rfl (.cons (fi_ref rfl rfl rfl rfl) (.cons (fi_ref rfl rfl rfl rfl) (.nil (Nat.zero_le _)))) (rn_b rfl) ?_
            refine E_op0 (v' := (.bool (!sam_22))) rfl rfl ?_
            refine E_nil ?_
            refine E_nx ?_
            refine E_sq ?_
            refine E_cs (t := (!sam_22)) rfl (fun hb => ?_) (fun hb => ?_)
            · rw [ite_t hb] at h
              refine E_sq ?_
              refine E_reg ?_
              refine E_mv (v' := (.bool false)) rfl ?_
              refine E_nil ?_
              refine E_nx ?_
              refine E_ret ?_
              refine E_thr ?_
              cases h
              refine L_rrO rfl (fun h => ?_)
              refine E_thr ?_
              cases h
              exact ⟨trivial, _, rfl, (fz_b rfl (.refl _))⟩
            · rw [ite_f hb] at h
              refine E_skip ?_
              refine E_nx ?_
              refine E_sq ?_
              refine E_reg ?_
              refine E_mv (v' := (.ref 3 1 0 (List.length eve_21.2) (some 2))) rfl ?_
              refine E_lenR rfl ?_
              refine E_mv (v' := (.int .i64 0)) rfl ?_
              refine E_nil ?_
              refine E_nx ?_
              refine E_rniO (fun s_23 => [(0, (.sl false 1 (List.map (avI .u64) tape_00))), (6, (.ptr 0 0 0)), (8, (.ref 2 1 0 (List.length s_13.2.2.2) (some 2))), (9, (.int .i64 s_13.1)), (13, (.ref 3 1 0 (List.length s_23) (some 2))), (32, (.sl false 1 (List.map (avI .u64) ops_01))), (33, (.int .i64 (List.length ops_01 : Int))), (34, (.int .i64 (i_9 : Int)))]) (fun s_23 => [.arr 0 [(.sl false 1 (List.map (avI .u64) eve_21.1)), (.ref 1 1 0 (List.length s_13.2.2.1) (some 2))], .arr 1 (flat Event.av s_13.2.2.1), .arr 1 (flat Event.av s_13.2.2.2), .arr 1 (flat Event.av s_23)]) h (by decide) (by decide) (fun _ => ⟨rfl, rfl, rfl, rfl⟩) (wk_rn [some (0, 0), some (1, 0), some (2, 0), some (3, 0)] rfl (Nat.le_of_ble_eq_true rfl) ⟨(rn_ob rfl rfl (.cons (rn_b ((encI .u64).blws 0)) (.cons (rn_refL Event.enc rfl rfl rfl) (.nil (Nat.zero_le _)))) rfl), (rn_ob rfl rfl (.refl (Event.enc.blwf 0 _)) rfl), (rn_ob rfl rfl (.refl (Event.enc.blwf 0 _)) rfl), (rn_ob rfl rfl (.refl (Event.enc.blwf 0 _)) rfl), trivial⟩ ⟨(rn_b rfl), (rn_b rfl), (rn_b ((encI .u64).blws 0)), (rn_ptr rfl rfl rfl rfl), (rn_refL Event.enc rfl rfl rfl), (rn_b rfl), (rn_refL Event.enc rfl rfl rfl), (rn_b ((encI .u64).blws 0)), (rn_b rfl), (rn_b rfl), trivial⟩) (fun i_24 s_23 c hlt h => ?_) (fun s_23 fr' S' h hw => ?_)
              · refine E_sq ?_
                refine E_reg ?_
                refine E_mv (v' := (.int .i64 (i_24 : Int))) rfl ?_
                refine E_mv (v' := (.int .i64 (i_24 : Int))) rfl ?_
                refine E_nil ?_
                refine E_nx ?_
                refine E_reg ?_
                refine E_mv (v' := (.ref 3 1 0 (List.length s_23) (some 2))) rfl ?_
                refine E_mv (v' := (.int .i64 (i_24 : Int))) rfl ?_
                obtain ⟨y_25, hy_25, h⟩ := bd_some h
                refine E_iadR rfl rfl ⟨(getI_some hy_25).1, (getI_some hy_25).2.1⟩ ?_
                refine E_op0 rfl rfl ?_
                refine E_stR (y := y_25) (y' := (Event.mk y_25.Kind 1)) (S' := [.arr 0 [(.sl false 1 (List.map (avI .u64) eve_21.1)), (.ref 1 1 0 (List.length s_13.2.2.1) (some 2))], .arr 1 (flat Event.av s_13.2.2.1), .arr 1 (flat Event.av s_13.2.2.2), .arr 1 (flat Event.av (List.set s_23 (Int.toNat (i_24 : Int)) (Event.mk y_25.Kind 1)))]) Event.enc rfl rfl rfl (by first | rfl | exact (Nat.add_zero _).symm | (simp only [Nat.zero_add]; exact (Nat.add_zero _).symm) | (simp only [Nat.zero_add, Nat.add_zero])) (getI_some hy_25).2.2 rfl rfl (Nat.le_of_ble_eq_true rfl) rfl rfl ?_
                try rw [show List.length s_23 = List.length (List.set s_23 (Int.toNat (i_24 : Int)) (Event.mk y_25.Kind 1)) by simp only [List.length_set]]
                refine E_nil ?_
                cases h
                exact L_nn rfl (wk_rn [some (0, 0), some (1, 0), some (2, 0), some (3, 0)] rfl (Nat.le_of_ble_eq_true rfl) ⟨(rn_ob rfl rfl (.cons (rn_b ((encI .u64).blws 0)) (.cons (rn_refL Event.enc rfl rfl rfl) (.nil (Nat.zero_le _)))) rfl), (rn_ob rfl rfl (.refl (Event.enc.blwf 0 _)) rfl), (rn_ob rfl rfl (.refl (Event.enc.blwf 0 _)) rfl), (rn_ob rfl rfl (.refl (Event.enc.blwf 0 _)) rfl), trivial⟩ ⟨(rn_b rfl), (rn_b rfl), (rn_b ((encI .u64).blws 0)), (rn_ptr rfl rfl rfl rfl), (rn_refL Event.enc rfl rfl rfl), (rn_b rfl), (rn_refL Event.enc rfl rfl rfl), (rn_b ((encI .u64).blws 0)), (rn_b rfl), (rn_b rfl), trivial⟩)
              · cases h
                exact X_nn rfl hw (wk_rn [some (0, 0), some (1, 0), some (2, 0)] rfl (Nat.le_of_ble_eq_true rfl) ⟨(rn_ob rfl rfl (.cons (rn_b ((encI .u64).blws 0)) (.cons (rn_refL Event.enc rfl rfl rfl) (.nil (Nat.zero_le _)))) rfl), (rn_ob rfl rfl (.refl (Event.enc.blwf 0 _)) rfl), (rn_ob rfl rfl (.refl (Event.enc.blwf 0 _)) rfl), trivial⟩ ⟨(rn_b rfl), (rn_b rfl), (rn_b ((encI .u64).blws 0)), (rn_ptr rfl rfl rfl rfl), (rn_refL Event.enc rfl rfl rfl), (rn_b rfl), (rn_b ((encI .u64).blws 0)), trivial⟩)
      · refine X_nx hw ?_
        refine E_sq ?_
        refine E_reg ?_
        refine E_mv (v' := .nilp) rfl ?_
        refine E_nil ?_
        refine E_nx ?_
        refine E_sq ?_
        refine E_reg ?_
        refine E_mv (v' := .nilp) rfl ?_
        obtain ⟨out_27, hout_27, h⟩ := bd_some h
        refine E_callW (trace_Trace_Out_0_ev  hout_27) rfl ⟨(.refl _), (.refl _), trivial⟩ (blwL_of ⟨rfl, rfl, trivial⟩) (tup_blw trivial) ?_
        refine E_nil ?_
        refine E_nx ?_
        refine E_jp h (fun s_29 => [(4, (.bool s_29))]) (fun s_29 => []) (fun k_28 h => ?_) (fun s_29 h => ?_)
        · refine E_reg ?_
          refine E_mv (v' := .nilp) rfl ?_
          obtain ⟨vin_30, hvin_30, h⟩ := bd_some h
          refine E_callW (trace_Trace_In_0_ev  hvin_30) rfl ⟨(.refl _), trivial⟩ (blwL_of ⟨rfl, trivial⟩) rfl ?_
          refine E_op0 (v' := (.bool (vin_30 == 0))) rfl rfl ?_
          refine E_mv (v' := (.bool (vin_30 == 0))) rfl ?_
          refine E_gsT (b := (vin_30 == 0)) rfl rfl rfl (fun hb => ?_) (fun hb => ?_)
          · rw [ite_t hb] at h
            refine E_mv (v' := .nilp) rfl ?_
            refine E_gh rfl ?_
            obtain ⟨eve_31, heve_31, h⟩ := bd_some h
            refine E_callW (trace_Trace_Events_0_ev  heve_31) rfl ⟨(.refl _), trivial⟩ (blwL_of ⟨rfl, trivial⟩) (Event.enc.blws 0) ?_
            refine E_gh rfl ?_
            refine E_len rfl ?_
            refine E_gh rfl ?_
            refine E_op0 (v' := (.bool ((List.length eve_31 : Int) == 0))) rfl rfl ?_
            refine E_pt rfl rfl ?_
            refine E_mv (v' := (.bool ((List.length eve_31 : Int) == 0))) rfl ?_
            refine E_nil ?_
            exact E_jx _ h (wk_rn [] rfl (Nat.le_of_ble_eq_true rfl) trivial ⟨(rn_b rfl), trivial⟩)
          · rw [ite_f hb] at h
            refine E_gm rfl ?_
            refine E_gm rfl ?_
            refine E_gm rfl ?_
            refine E_pf rfl rfl ?_
            refine E_mv (v' := (.bool false)) rfl ?_
            refine E_nil ?_
            exact E_jx _ h (wk_rn [] rfl (Nat.le_of_ble_eq_true rfl) trivial ⟨(rn_b rfl), trivial⟩)
        · refine E_ret ?_
          cases h
          exact ⟨trivial, _, rfl, (fz_b rfl (.refl _))⟩
/- windlass/windlasslaw02.TraceWords -/
def fc4 : FC := (.seq (.reg [⟨(some 4), none, .op (.box (.t 1))⟩,
  ⟨(some 6), none, .op (.mv (.v (.bool false)))⟩] [])
  (.seq (.seq (.reg [⟨(some 14), none, .call 11 []⟩,
  ⟨(some 15), none, .op (.un .not (.t 14))⟩] [])
  (.cond (.t 15)
  (.seq (.reg [⟨(some 6), none, .op (.mv (.v (.bool false)))⟩] [])
  .ret)
  .skip))
  (.seq (.reg [⟨(some 16), none, .op (.mv (.t 2))⟩,
  ⟨(some 17), none, .op (.cint .u64 (.t 16))⟩,
  ⟨(some 18), none, .op (.mv (.t 0))⟩,
  ⟨(some 19), none, .op (.len .sl (.t 18))⟩,
  ⟨(some 20), none, .op (.bin .none .add (.t 19) (.v (.int .i64 1)))⟩,
  ⟨(some 21), none, .op (.cint .u64 (.t 20))⟩,
  ⟨(some 22), none, .op (.bin .none .rem (.t 17) (.t 21))⟩,
  ⟨(some 23), none, .op (.cint .i64 (.t 22))⟩,
  ⟨(some 7), none, .op (.mv (.t 23))⟩] [])
  (.seq (.reg [⟨(some 24), none, .op (.mv (.t 0))⟩,
  ⟨(some 25), none, .op (.load (some 2) (.t 4))⟩,
  ⟨(some 26), none, .call 17 [(.t 24), (.t 25)]⟩,
  ⟨(some 27), none, .op (.mv (.t 0))⟩,
  ⟨(some 28), none, .op (.mv (.t 7))⟩,
  ⟨(some 29), none, .op (.slc (some 2) (.t 27) none (some (.t 28)) none)⟩,
  ⟨(some 30), none, .op (.load (some 2) (.t 4))⟩,
  ⟨(some 31), none, .call 17 [(.t 29), (.t 30)]⟩,
  ⟨(some 8), none, .op (.mv (.t 26))⟩,
  ⟨(some 9), none, .op (.mv (.t 31))⟩] [(2, 6)])
  (.seq (.reg [⟨(some 10), none, .op (.mv (.v (.int .i64 0)))⟩] [])
  (.seq (.seq (.reg [⟨(some 11), none, .op (.mv (.v (.int .i64 0)))⟩] [])
  (.block 0 (.loop (.seq (.seq (.reg [⟨(some 32), none, .op (.mv (.t 11))⟩,
  ⟨(some 33), none, .op (.mv (.t 8))⟩,
  ⟨(some 34), none, .op (.len .str (.t 33))⟩,
  ⟨(some 35), none, .op (.bin .none .lss (.t 32) (.t 34))⟩] [])
  (.cond (.t 35)
  .skip
  (.exit 0)))
  (.seq (.block 1 (.seq (.reg [⟨(some 38), none, .op (.mv (.t 8))⟩,
  ⟨(some 39), none, .op (.mv (.t 11))⟩,
  ⟨(some 40), none, .op (.idxs (.t 38) (.t 39))⟩,
  ⟨(some 41), none, .op (.bin .none .eql (.t 40) (.v (.int .u8 32)))⟩] [])
  (.cond (.t 41)
  (.reg [⟨(some 42), none, .op (.mv (.t 10))⟩,
  ⟨(some 43), none, .op (.bin .none .add (.t 42) (.v (.int .i64 1)))⟩,
  ⟨(some 10), none, .op (.mv (.t 43))⟩] [])
  .skip)))
  (.reg [⟨(some 36), none, .op (.mv (.t 11))⟩,
  ⟨(some 37), none, .op (.bin .none .add (.t 36) (.v (.int .i64 1)))⟩,
  ⟨(some 11), none, .op (.mv (.t 37))⟩] []))))))
  (.seq (.reg [⟨(some 44), none, .op (.load (some 2) (.t 4))⟩,
  ⟨(some 45), none, .call 17 [(.v .nils), (.t 44)]⟩,
  ⟨(some 12), none, .op (.mv (.t 45))⟩] [])
  (.seq (.reg [⟨(some 46), none, .op (.mv (.t 9))⟩,
  ⟨(some 47), none, .op (.len .str (.t 46))⟩,
  ⟨(some 48), none, .op (.mv (.t 12))⟩,
  ⟨(some 49), none, .op (.len .str (.t 48))⟩,
  ⟨(some 50), none, .op (.bin .none .sub (.t 47) (.t 49))⟩,
  ⟨(some 13), none, .op (.mv (.t 50))⟩] [])
  (.seq (.reg [⟨(some 51), none, .op (.mv (.t 10))⟩,
  ⟨(some 52), none, .op (.mv (.t 0))⟩,
  ⟨(some 53), none, .op (.len .sl (.t 52))⟩,
  ⟨(some 54), none, .op (.bin .none .eql (.t 51) (.t 53))⟩,
  ⟨(some 55), none, .op (.mv (.t 54))⟩,
  ⟨(some 56), some (55, true), .op (.mv (.t 13))⟩,
  ⟨(some 57), some (55, true), .op (.bin .none .geq (.t 56) (.v (.int .i64 0)))⟩,
  ⟨(some 58), none, .op (.pick (.t 55) (.t 57) (.v (.bool false)))⟩,
  ⟨(some 59), none, .op (.mv (.t 58))⟩,
  ⟨(some 60), some (59, true), .op (.mv (.t 9))⟩,
  ⟨(some 61), some (59, true), .op (.mv (.t 13))⟩,
  ⟨(some 62), some (59, true), .op (.sls (.t 60) (some (.t 61)) none)⟩,
  ⟨(some 63), some (59, true), .op (.mv (.t 12))⟩,
  ⟨(some 64), some (59, true), .op (.bin .none .eql (.t 62) (.t 63))⟩,
  ⟨(some 65), none, .op (.pick (.t 59) (.t 64) (.v (.bool false)))⟩,
  ⟨(some 66), none, .op (.mv (.t 65))⟩,
  ⟨(some 67), some (66, true), .op (.mv (.t 8))⟩,
  ⟨(some 68), some (66, true), .op (.mv (.t 13))⟩,
  ⟨(some 69), some (66, true), .op (.sls (.t 67) none (some (.t 68)))⟩,
  ⟨(some 70), some (66, true), .op (.mv (.t 9))⟩,
  ⟨(some 71), some (66, true), .op (.mv (.t 13))⟩,
  ⟨(some 72), some (66, true), .op (.sls (.t 70) none (some (.t 71)))⟩,
  ⟨(some 73), some (66, true), .op (.bin .none .eql (.t 69) (.t 72))⟩,
  ⟨(some 74), none, .op (.pick (.t 66) (.t 73) (.v (.bool false)))⟩,
  ⟨(some 75), none, .op (.mv (.t 74))⟩,
  ⟨(some 76), some (75, true), .op (.mv (.t 12))⟩,
  ⟨(some 77), some (75, true), .op (.len .str (.t 76))⟩,
  ⟨(some 78), some (75, true), .op (.bin .none .gtr (.t 77) (.v (.int .i64 0)))⟩,
  ⟨(some 79), none, .op (.pick (.t 75) (.t 78) (.v (.bool false)))⟩,
  ⟨(some 6), none, .op (.mv (.t 79))⟩] [])
  .ret)))))))))
theorem fn4 : Fn3 Tryd.prog 4 80 [(6, none)] fc4 := ⟨_, _, Tryd.func4, rfl, rfl, rfl, by kernel_rfl⟩
def windlasslaw02_TraceWords_s (fuel : Nat) (a_00 : (List Event)) (e_01 : End) (n_02 : Int) : Option Bool :=
  (windlasslaw02_first_s.bind fun fir_1 => (if (!fir_1) then (some false) else (gd ((U64 (I64 ((List.length a_00 : Int) + 1))) ≠ 0) ((trace_Print_s a_00 e_01).bind fun pri_3 => ((subL a_00 0 (I64 (Int.tmod (U64 n_02) (U64 (I64 ((List.length a_00 : Int) + 1)))))).bind fun l_4 => ((trace_Print_s l_4 e_01).bind fun pri_5 => ((whileN (fun (s_6 : (Int × Int)) => ((if (decide (s_6.2 < (ByteArray.size pri_3 : Int))) then (jp (fun (s_8 : Int) => (some (.nxt (s_8, (I64 (s_6.2 + 1)))))) (fun k_7 => ((strI pri_3 s_6.2).bind fun b_9 => (if (b_9 == 32) then (k_7 (I64 (s_6.1 + 1))) else (k_7 s_6.1))))) else (some (.brk (s_6.1, s_6.2)))) : Option (Stp (Int × Int) (Option Bool)))) fuel (0, 0)).bind (oc (fun (s_6 : (Int × Int)) => ((trace_Print_s [] e_01).bind fun pri_10 => (jp (fun (s_12 : Bool) => (some s_12)) (fun k_11 => (if (s_6.1 == (List.length a_00 : Int)) then (if (decide ((I64 ((ByteArray.size pri_5 : Int) - (ByteArray.size pri_10 : Int))) ≥ 0)) then ((subS pri_5 (I64 ((ByteArray.size pri_5 : Int) - (ByteArray.size pri_10 : Int))) (ByteArray.size pri_5 : Int)).bind fun s_13 => (if (ByteArray.toList s_13 == ByteArray.toList pri_10) then ((subS pri_3 0 (I64 ((ByteArray.size pri_5 : Int) - (ByteArray.size pri_10 : Int)))).bind fun s_14 => ((subS pri_5 0 (I64 ((ByteArray.size pri_5 : Int) - (ByteArray.size pri_10 : Int)))).bind fun s_15 => (if (ByteArray.toList s_14 == ByteArray.toList s_15) then (k_11 (decide ((ByteArray.size pri_10 : Int) > 0))) else (k_11 false)))) else (k_11 false))) else (k_11 false)) else (k_11 false))))))))))))))
theorem windlasslaw02_TraceWords_ev {fuel : Nat} {a_00 : (List Event)} {e_01 : End} {n_02 : Int} {r : Bool} (h : windlasslaw02_TraceWords_s fuel a_00 e_01 n_02 = some r) : PureEv Tryd.prog 4 [(.sl false 2 (List.map Event.av a_00)), (End.av e_01), (.int .i64 n_02)] (.bool r) := by
  unfold windlasslaw02_TraceWords_s at h
  refine PureEv_end mixed fn4 (by simp) [] 6 ?_
  unfold fc4
  refine E_sq ?_
  refine E_reg ?_
  refine E_op0 (v' := (.cptr (End.av e_01).cells 0)) rfl rfl ?_
  refine E_mv (v' := (.bool false)) rfl ?_
  refine E_nil ?_
  refine E_nx ?_
  refine E_as ?_
  refine E_sq ?_
  refine E_reg ?_
  obtain ⟨fir_1, hfir_1, h⟩ := bd_some h
  refine E_callW (windlasslaw02_first_ev  hfir_1) rfl trivial (blwL_of trivial) rfl ?_
  refine E_op0 (v' := (.bool (!fir_1))) rfl rfl ?_
  refine E_nil ?_
  refine E_nx ?_
  refine E_sq ?_
  refine E_cs (t := (!fir_1)) rfl (fun hb => ?_) (fun hb => ?_)
  · rw [ite_t hb] at h
    refine E_sq ?_
    refine E_reg ?_
    refine E_mv (v' := (.bool false)) rfl ?_
    refine E_nil ?_
    refine E_nx ?_
    refine E_ret ?_
    refine E_thr ?_
    cases h
    exact ⟨trivial, _, rfl, (fz_b rfl (.refl _))⟩
  · rw [ite_f hb] at h
    refine E_skip ?_
    refine E_nx ?_
    refine E_sq ?_
    refine E_reg ?_
    refine E_mv (v' := (.int .i64 n_02)) rfl ?_
    refine E_op0 (v' := (.int .u64 (U64 n_02))) rfl rfl ?_
    refine E_mv (v' := (.sl false 2 (List.map Event.av a_00))) rfl ?_
    refine E_len rfl ?_
    refine E_op0 (v' := (.int .i64 (I64 ((List.length a_00 : Int) + 1)))) rfl rfl ?_
    refine E_op0 (v' := (.int .u64 (U64 (I64 ((List.length a_00 : Int) + 1))))) rfl rfl ?_
    obtain ⟨hg_2, h⟩ := gd_some h
    refine E_rem rfl rfl hg_2 ?_
    refine E_op0 (v' := (.int .i64 (I64 (Int.tmod (U64 n_02) (U64 (I64 ((List.length a_00 : Int) + 1))))))) rfl rfl ?_
    refine E_mv (v' := (.int .i64 (I64 (Int.tmod (U64 n_02) (U64 (I64 ((List.length a_00 : Int) + 1))))))) rfl ?_
    refine E_nil ?_
    refine E_nx ?_
    refine E_sq ?_
    refine E_regp ?_
    refine E_mv (v' := (.sl false 2 (List.map Event.av a_00))) rfl ?_
    refine E_op0 (v' := (End.av e_01)) rfl rfl ?_
    obtain ⟨pri_3, hpri_3, h⟩ := bd_some h
    refine E_callW (trace_Print_ev  hpri_3) rfl ⟨(.refl _), (.refl _), trivial⟩ (blwL_of ⟨(Event.enc.blws 0), (End.enc.blw _ 0), trivial⟩) rfl ?_
    refine E_mv (v' := (.sl false 2 (List.map Event.av a_00))) rfl ?_
    refine E_mv (v' := (.int .i64 (I64 (Int.tmod (U64 n_02) (U64 (I64 ((List.length a_00 : Int) + 1))))))) rfl ?_
    obtain ⟨l_4, hl_4, h⟩ := bd_some h
    refine E_slcL rfl (fun _ => rfl) (fun h0 => hiN_int h0) hl_4 ?_
    refine E_op0 (v' := (End.av e_01)) rfl rfl ?_
    obtain ⟨pri_5, hpri_5, h⟩ := bd_some h
    refine E_callW (trace_Print_ev  hpri_5) rfl ⟨(.refl _), (.refl _), trivial⟩ (blwL_of ⟨(Event.enc.blws 0), (End.enc.blw _ 0), trivial⟩) rfl ?_
    refine E_mv (v' := (.str pri_3)) rfl ?_
    refine E_mv (v' := (.str pri_5)) rfl ?_
    refine E_nil ?_
    refine And.intro (by simp [okLog, nthL, okPair, hp, fpOf]) ?_
    refine E_nx ?_
    refine E_sq ?_
    refine E_reg ?_
    refine E_mv (v' := (.int .i64 0)) rfl ?_
    refine E_nil ?_
    refine E_nx ?_
    refine E_as ?_
    refine E_sq ?_
    refine E_reg ?_
    refine E_mv (v' := (.int .i64 0)) rfl ?_
    refine E_nil ?_
    refine E_nx ?_
    refine E_sq ?_
    refine E_whileO (fun s_6 => [(0, (.sl false 2 (List.map Event.av a_00))), (4, (.cptr (End.av e_01).cells 0)), (8, (.str pri_3)), (9, (.str pri_5)), (10, (.int .i64 s_6.1)), (11, (.int .i64 s_6.2))]) (fun s_6 => []) h (wk_aw ⟨(.refl _), (.refl _), (.refl _), (.refl _), (.refl _), (.refl _), trivial⟩) (fun s_6 c h => ?_) (fun s_6 fr' S' h hw => ?_)
    · refine E_as ?_
      refine E_sq ?_
      refine E_reg ?_
      refine E_mv (v' := (.int .i64 s_6.2)) rfl ?_
      refine E_mv (v' := (.str pri_3)) rfl ?_
      refine E_op0 (v' := (.int .i64 (ByteArray.size pri_3 : Int))) rfl rfl ?_
      refine E_op0 (v' := (.bool (decide (s_6.2 < (ByteArray.size pri_3 : Int))))) rfl rfl ?_
      refine E_nil ?_
      refine E_nx ?_
      refine E_sq ?_
      refine E_cs (t := (decide (s_6.2 < (ByteArray.size pri_3 : Int)))) rfl (fun hb => ?_) (fun hb => ?_)
      · rw [ite_t hb] at h
        refine E_skip ?_
        refine E_nx ?_
        refine E_jp h (fun s_8 => [(0, (.sl false 2 (List.map Event.av a_00))), (4, (.cptr (End.av e_01).cells 0)), (8, (.str pri_3)), (9, (.str pri_5)), (10, (.int .i64 s_8)), (11, (.int .i64 s_6.2))]) (fun s_8 => []) (fun k_7 h => ?_) (fun s_8 h => ?_)
        · refine E_block ?_
          refine E_sq ?_
          refine E_reg ?_
          refine E_mv (v' := (.str pri_3)) rfl ?_
          refine E_mv (v' := (.int .i64 s_6.2)) rfl ?_
          obtain ⟨b_9, hb_9, h⟩ := bd_some h
          refine E_idxS rfl rfl hb_9 ?_
          refine E_op0 (v' := (.bool (b_9 == 32))) rfl rfl ?_
          refine E_nil ?_
          refine E_nx ?_
          refine E_cs (t := (b_9 == 32)) rfl (fun hb => ?_) (fun hb => ?_)
          · rw [ite_t hb] at h
            refine E_reg ?_
            refine E_mv (v' := (.int .i64 s_6.1)) rfl ?_
            refine E_op0 (v' := (.int .i64 (I64 (s_6.1 + 1)))) rfl rfl ?_
            refine E_mv (v' := (.int .i64 (I64 (s_6.1 + 1)))) rfl ?_
            refine E_nil ?_
            refine E_bln ?_
            exact E_jx _ h (wk_aw ⟨(.refl _), (.refl _), (.refl _), (.refl _), (.refl _), (.refl _), trivial⟩)
          · rw [ite_f hb] at h
            refine E_skip ?_
            refine E_bln ?_
            exact E_jx _ h (wk_aw ⟨(.refl _), (.refl _), (.refl _), (.refl _), (.refl _), (.refl _), trivial⟩)
        · refine E_reg ?_
          refine E_mv (v' := (.int .i64 s_6.2)) rfl ?_
          refine E_op0 (v' := (.int .i64 (I64 (s_6.2 + 1)))) rfl rfl ?_
          refine E_mv (v' := (.int .i64 (I64 (s_6.2 + 1)))) rfl ?_
          refine E_nil ?_
          cases h
          exact L_nn rfl (wk_aw ⟨(.refl _), (.refl _), (.refl _), (.refl _), (.refl _), (.refl _), trivial⟩)
      · rw [ite_f hb] at h
        refine E_exit ?_
        refine E_the ?_
        cases h
        exact L_bk rfl rfl rfl (wk_aw ⟨(.refl _), (.refl _), (.refl _), (.refl _), (.refl _), (.refl _), trivial⟩)
    · refine X_nx hw ?_
      refine E_sq ?_
      refine E_reg ?_
      refine E_op0 (v' := (End.av e_01)) rfl rfl ?_
      obtain ⟨pri_10, hpri_10, h⟩ := bd_some h
      refine E_callW (trace_Print_ev  hpri_10) rfl ⟨.nil, (.refl _), trivial⟩ (blwL_of ⟨rfl, (End.enc.blw _ 0), trivial⟩) rfl ?_
      refine E_mv (v' := (.str pri_10)) rfl ?_
      refine E_nil ?_
      refine E_nx ?_
      refine E_sq ?_
      refine E_reg ?_
      refine E_mv (v' := (.str pri_5)) rfl ?_
      refine E_op0 (v' := (.int .i64 (ByteArray.size pri_5 : Int))) rfl rfl ?_
      refine E_mv (v' := (.str pri_10)) rfl ?_
      refine E_op0 (v' := (.int .i64 (ByteArray.size pri_10 : Int))) rfl rfl ?_
      refine E_op0 (v' := (.int .i64 (I64 ((ByteArray.size pri_5 : Int) - (ByteArray.size pri_10 : Int))))) rfl rfl ?_
      refine E_mv (v' := (.int .i64 (I64 ((ByteArray.size pri_5 : Int) - (ByteArray.size pri_10 : Int))))) rfl ?_
      refine E_nil ?_
      refine E_nx ?_
      refine E_jp h (fun s_12 => [(6, (.bool s_12))]) (fun s_12 => []) (fun k_11 h => ?_) (fun s_12 h => ?_)
      · refine E_reg ?_
        refine E_mv (v' := (.int .i64 s_6.1)) rfl ?_
        refine E_mv (v' := (.sl false 2 (List.map Event.av a_00))) rfl ?_
        refine E_len rfl ?_
        refine E_op0 (v' := (.bool (s_6.1 == (List.length a_00 : Int)))) rfl rfl ?_
        refine E_mv (v' := (.bool (s_6.1 == (List.length a_00 : Int)))) rfl ?_
        refine E_gsT (b := (s_6.1 == (List.length a_00 : Int))) rfl rfl rfl (fun hb => ?_) (fun hb => ?_)
        · rw [ite_t hb] at h
          refine E_mv (v' := (.int .i64 (I64 ((ByteArray.size pri_5 : Int) - (ByteArray.size pri_10 : Int))))) rfl ?_
          refine E_gh rfl ?_
          refine E_op0 (v' := (.bool (decide ((I64 ((ByteArray.size pri_5 : Int) - (ByteArray.size pri_10 : Int))) ≥ 0)))) rfl rfl ?_
          refine E_pt rfl rfl ?_
          refine E_mv (v' := (.bool (decide ((I64 ((ByteArray.size pri_5 : Int) - (ByteArray.size pri_10 : Int))) ≥ 0)))) rfl ?_
          refine E_gsT (b := (decide ((I64 ((ByteArray.size pri_5 : Int) - (ByteArray.size pri_10 : Int))) ≥ 0))) rfl rfl rfl (fun hb => ?_) (fun hb => ?_)
          · rw [ite_t hb] at h
            refine E_mv (v' := (.str pri_5)) rfl ?_
            refine E_gh rfl ?_
            refine E_mv (v' := (.int .i64 (I64 ((ByteArray.size pri_5 : Int) - (ByteArray.size pri_10 : Int))))) rfl ?_
            refine E_gh rfl ?_
            obtain ⟨s_13, hs_13, h⟩ := bd_some h
            refine E_sls rfl (fun h0 => loN_int h0) (fun _ => by simp [evO, hiN]) hs_13 ?_
            refine E_gh rfl ?_
            refine E_mv (v' := (.str pri_10)) rfl ?_
            refine E_gh rfl ?_
            refine E_op0 (v' := (.bool (ByteArray.toList s_13 == ByteArray.toList pri_10))) rfl rfl ?_
            refine E_pt rfl rfl ?_
            refine E_mv (v' := (.bool (ByteArray.toList s_13 == ByteArray.toList pri_10))) rfl ?_
            refine E_gsT (b := (ByteArray.toList s_13 == ByteArray.toList pri_10)) rfl rfl rfl (fun hb => ?_) (fun hb => ?_)
            · rw [ite_t hb] at h
              refine E_mv (v' := (.str pri_3)) rfl ?_
              refine E_gh rfl ?_
              refine E_mv (v' := (.int .i64 (I64 ((ByteArray.size pri_5 : Int) - (ByteArray.size pri_10 : Int))))) rfl ?_
              refine E_gh rfl ?_
              obtain ⟨s_14, hs_14, h⟩ := bd_some h
              refine E_sls rfl (fun _ => rfl) (fun h0 => hiN_int h0) hs_14 ?_
              refine E_gh rfl ?_
              refine E_mv (v' := (.str pri_5)) rfl ?_
              refine E_gh rfl ?_
              refine E_mv (v' := (.int .i64 (I64 ((ByteArray.size pri_5 : Int) - (ByteArray.size pri_10 : Int))))) rfl ?_
              refine E_gh rfl ?_
              obtain ⟨s_15, hs_15, h⟩ := bd_some h
              refine E_sls rfl (fun _ => rfl) (fun h0 => hiN_int h0) hs_15 ?_
              refine E_gh rfl ?_
              refine E_op0 (v' := (.bool (ByteArray.toList s_14 == ByteArray.toList s_15))) rfl rfl ?_
              refine E_pt rfl rfl ?_
              refine E_mv (v' := (.bool (ByteArray.toList s_14 == ByteArray.toList s_15))) rfl ?_
              refine E_gsT (b := (ByteArray.toList s_14 == ByteArray.toList s_15)) rfl rfl rfl (fun hb => ?_) (fun hb => ?_)
              · rw [ite_t hb] at h
                refine E_mv (v' := (.str pri_10)) rfl ?_
                refine E_gh rfl ?_
                refine E_op0 (v' := (.int .i64 (ByteArray.size pri_10 : Int))) rfl rfl ?_
                refine E_gh rfl ?_
                refine E_op0 (v' := (.bool (decide ((ByteArray.size pri_10 : Int) > 0)))) rfl rfl ?_
                refine E_pt rfl rfl ?_
                refine E_mv (v' := (.bool (decide ((ByteArray.size pri_10 : Int) > 0)))) rfl ?_
                refine E_nil ?_
                exact E_jx _ h (wk_aw ⟨(.refl _), trivial⟩)
              · rw [ite_f hb] at h
                refine E_gm rfl ?_
                refine E_gm rfl ?_
                refine E_pf rfl rfl ?_
                refine E_mv (v' := (.bool false)) rfl ?_
                refine E_nil ?_
                exact E_jx _ h (wk_aw ⟨(.refl _), trivial⟩)
            · rw [ite_f hb] at h
              refine E_gm rfl ?_
              refine E_gm rfl ?_
              refine E_gm rfl ?_
              refine E_gm rfl ?_
              refine E_gm rfl ?_
              refine E_gm rfl ?_
              refine E_pf rfl rfl ?_
              refine E_mv (v' := (.bool false)) rfl ?_
              refine E_gm rfl ?_
              refine E_gm rfl ?_
              refine E_gm rfl ?_
              refine E_pf rfl rfl ?_
              refine E_mv (v' := (.bool false)) rfl ?_
              refine E_nil ?_
              exact E_jx _ h (wk_aw ⟨(.refl _), trivial⟩)
          · rw [ite_f hb] at h
            refine E_gm rfl ?_
            refine E_gm rfl ?_
            refine E_gm rfl ?_
            refine E_gm rfl ?_
            refine E_pf rfl rfl ?_
            refine E_mv (v' := (.bool false)) rfl ?_
            refine E_gm rfl ?_
            refine E_gm rfl ?_
            refine E_gm rfl ?_
            refine E_gm rfl ?_
            refine E_gm rfl ?_
            refine E_gm rfl ?_
            refine E_gm rfl ?_
            refine E_pf rfl rfl ?_
            refine E_mv (v' := (.bool false)) rfl ?_
            refine E_gm rfl ?_
            refine E_gm rfl ?_
            refine E_gm rfl ?_
            refine E_pf rfl rfl ?_
            refine E_mv (v' := (.bool false)) rfl ?_
            refine E_nil ?_
            exact E_jx _ h (wk_aw ⟨(.refl _), trivial⟩)
        · rw [ite_f hb] at h
          refine E_gm rfl ?_
          refine E_pf rfl rfl ?_
          refine E_mv (v' := (.bool false)) rfl ?_
          refine E_gm rfl ?_
          refine E_gm rfl ?_
          refine E_gm rfl ?_
          refine E_gm rfl ?_
          refine E_gm rfl ?_
          refine E_pf rfl rfl ?_
          refine E_mv (v' := (.bool false)) rfl ?_
          refine E_gm rfl ?_
          refine E_gm rfl ?_
          refine E_gm rfl ?_
          refine E_gm rfl ?_
          refine E_gm rfl ?_
          refine E_gm rfl ?_
          refine E_gm rfl ?_
          refine E_pf rfl rfl ?_
          refine E_mv (v' := (.bool false)) rfl ?_
          refine E_gm rfl ?_
          refine E_gm rfl ?_
          refine E_gm rfl ?_
          refine E_pf rfl rfl ?_
          refine E_mv (v' := (.bool false)) rfl ?_
          refine E_nil ?_
          exact E_jx _ h (wk_aw ⟨(.refl _), trivial⟩)
      · refine E_ret ?_
        cases h
        exact ⟨trivial, _, rfl, (fz_b rfl (.refl _))⟩
def slices_Clone_1_z_s (s_00 : List Event) : Option (List Event) :=
  ((appL 16 [] s_00).bind fun l_1 => (some l_1))
theorem slices_Clone_1_z_ev {s_00 : List Event} {r : List Event} (h : slices_Clone_1_z_s s_00 = some r) : PureEv Tryd.prog 34 [.sl false 2 (List.map Event.av s_00)] (.sl false 2 (List.map Event.av r)) := by
  unfold slices_Clone_1_z_s at h
  obtain ⟨l_1, hl_1, h2⟩ := bd_some h
  clear h
  refine PureEv_sl (fun hx => ?_) (fun hx => ?_) (fun hx => ?_)
  · obtain rfl : s_00 = [] := by simpa using hx
    have e : l_1 = [] := by unfold appL at hl_1; split at hl_1 <;> simp_all
    subst e
    refine PureEv_end mixed fn34 (by simp) [5] 6 ?_
    unfold fc34
    refine E_sq ?_
    refine E_reg ?_
    refine E_mv (v' := .nils) rfl ?_
    refine E_nil ?_
    refine E_nx ?_
    refine E_as ?_
    refine E_sq ?_
    refine E_reg ?_
    refine E_mv (v' := .nils) rfl ?_
    refine E_op0 (v' := (.bool true)) rfl rfl ?_
    refine E_nil ?_
    refine E_nx ?_
    refine E_sq ?_
    refine E_cs (t := true) rfl (fun hb => ?_) (fun hb => ?_)
    · refine E_sq ?_
      refine E_reg ?_
      refine E_mv (v' := .nils) rfl ?_
      refine E_nil ?_
      refine E_nx ?_
      refine E_ret ?_
      refine E_thr ?_
      cases h2
      exact ⟨trivial, _, rfl, (fz_b rfl .nil)⟩
    · cases hb
  · obtain rfl : s_00 = [] := by simpa using hx
    refine PureEv_end mixed fn34 (by simp) [5] 6 ?_
    unfold fc34
    refine E_sq ?_
    refine E_reg ?_
    refine E_mv (v' := .nils) rfl ?_
    refine E_nil ?_
    refine E_nx ?_
    refine E_as ?_
    refine E_sq ?_
    refine E_reg ?_
    refine E_mv (v' := (.snn 2)) rfl ?_
    refine E_op0 (v' := (.bool false)) rfl rfl ?_
    refine E_nil ?_
    refine E_nx ?_
    refine E_sq ?_
    refine E_cs (t := false) rfl (fun hb => ?_) (fun hb => ?_)
    · cases hb
    · refine E_skip ?_
      refine E_nx ?_
      refine E_sq ?_
      refine E_reg ?_
      refine E_op (v' := (.ref 0 0 0 0 (some 2))) (S' := [.arr 0 []]) rfl rfl rfl ?_
      refine E_mv (v' := (.snn 2)) rfl ?_
      refine E_apL (S' := [.arr 1 (flat Event.av l_1)]) Event.enc (l := []) rfl (rfl) rfl hl_1 rfl ?_
      refine E_mv (v' := (.ref 0 1 0 (List.length l_1) (some 2))) rfl ?_
      refine E_nil ?_
      refine E_nx ?_
      refine E_ret ?_
      cases h2
      exact ⟨trivial, _, rfl, (fz_ref Event.enc (Nat.zero_le _) rfl)⟩
  · obtain ⟨x, xs, rfl⟩ : ∃ x xs, s_00 = x :: xs := by cases s_00 with | nil => exact (hx rfl).elim | cons x xs => exact ⟨x, xs, rfl⟩
    refine PureEv_end mixed fn34 (by simp) [5] 6 ?_
    unfold fc34
    refine E_sq ?_
    refine E_reg ?_
    refine E_mv (v' := .nils) rfl ?_
    refine E_nil ?_
    refine E_nx ?_
    refine E_as ?_
    refine E_sq ?_
    refine E_reg ?_
    refine E_mv (v' := (.sl false 2 (List.map Event.av (x :: xs)))) rfl ?_
    refine E_op0 (v' := (.bool false)) rfl rfl ?_
    refine E_nil ?_
    refine E_nx ?_
    refine E_sq ?_
    refine E_cs (t := false) rfl (fun hb => ?_) (fun hb => ?_)
    · cases hb
    · refine E_skip ?_
      refine E_nx ?_
      refine E_sq ?_
      refine E_reg ?_
      refine E_op (v' := (.ref 0 0 0 0 (some 2))) (S' := [.arr 0 []]) rfl rfl rfl ?_
      refine E_mv (v' := (.sl false 2 (List.map Event.av (x :: xs)))) rfl ?_
      refine E_apL (S' := [.arr 1 (flat Event.av l_1)]) Event.enc (l := []) rfl (src_sl (x :: xs)) rfl hl_1 rfl ?_
      refine E_mv (v' := (.ref 0 1 0 (List.length l_1) (some 2))) rfl ?_
      refine E_nil ?_
      refine E_nx ?_
      refine E_ret ?_
      cases h2
      exact ⟨trivial, _, rfl, (fz_ref Event.enc (Nat.zero_le _) rfl)⟩
def trace_Trace_Events_pNn_s (t_tape_00 : (List Int)) : Option ((List Event) × (List Int)) :=
  ((slices_Clone_1_z_s []).bind fun v1_1 => (some (v1_1, t_tape_00)))
theorem trace_Trace_Events_pNn_ev {t_tape_00 : (List Int)} {r : ((List Event) × (List Int))} (h : trace_Trace_Events_pNn_s t_tape_00 = some r) : Ev Tryd.prog 15 [(.ptr 0 0 0)] (hp [.arr 0 [(.sl false 1 (List.map (avI .u64) t_tape_00)), .nils]]) (.sl false 2 (List.map Event.av r.1)) (hp [.arr 0 [(.sl false 1 (List.map (avI .u64) r.2)), .nils]]) := by
  unfold trace_Trace_Events_pNn_s at h
  refine Ev_end mixed fn15 (by simp) [] ?_
  unfold fc15
  refine E_sq ?_
  refine E_reg ?_
  refine E_mv (v' := .nils) rfl ?_
  refine E_nil ?_
  refine E_nx ?_
  refine E_as ?_
  refine E_sq ?_
  refine E_reg ?_
  refine E_mv (v' := (.ptr 0 0 0)) rfl ?_
  refine E_op0 (v' := (.bool false)) rfl rfl ?_
  refine E_nil ?_
  refine E_nx ?_
  refine E_sq ?_
  refine E_cf rfl ?_
  refine E_skip ?_
  refine E_nx ?_
  refine E_sq ?_
  refine E_reg ?_
  refine E_mv (v' := (.ptr 0 0 0)) rfl ?_
  refine E_op0 (v' := (.ptr 0 0 0)) rfl rfl ?_
  refine E_op0 (v' := (.ptr 0 0 1)) rfl rfl ?_
  refine E_op (v' := .nils) (S' := [.arr 0 [(.sl false 1 (List.map (avI .u64) t_tape_00)), .nils]]) rfl rfl rfl ?_
  obtain ⟨v1_1, hv1_1, h⟩ := bd_some h
  refine E_callW (slices_Clone_1_z_ev  hv1_1) rfl ⟨.nil, trivial⟩ (blwL_of ⟨rfl, trivial⟩) (Event.enc.blws 0) ?_
  refine E_mv (v' := (.sl false 2 (List.map Event.av v1_1))) rfl ?_
  refine E_nil ?_
  refine E_nx ?_
  refine E_ret ?_
  cases h
  exact ⟨trivial, _, _, rfl, gwk_rn [some (0, 0)] rfl (Nat.le_of_ble_eq_true rfl) ⟨(rn_obS rfl rfl (.cons (rn_b ((encI .u64).blws 0)) (.cons (rn_b rfl) (.nil (Nat.zero_le _)))) rfl), trivial⟩, (rn_b (Event.enc.blws 0))⟩
/- windlass/windlasslaw02.TraceTapes -/
def fc5 : FC := (.seq (.reg [⟨(some 4), none, .op (.mv (.v (.bool false)))⟩] [])
  (.seq (.seq (.reg [⟨(some 12), none, .call 11 []⟩,
  ⟨(some 13), none, .op (.un .not (.t 12))⟩] [])
  (.cond (.t 13)
  (.seq (.reg [⟨(some 4), none, .op (.mv (.v (.bool false)))⟩] [])
  .ret)
  .skip))
  (.seq (.reg [⟨(some 14), none, .op (.mv (.t 1))⟩,
  ⟨(some 15), none, .op (.cint .u64 (.t 14))⟩,
  ⟨(some 16), none, .op (.bin .none .rem (.t 15) (.v (.int .u64 20)))⟩,
  ⟨(some 17), none, .op (.cint .i64 (.t 16))⟩,
  ⟨(some 5), none, .op (.mv (.t 17))⟩] [])
  (.seq (.reg [⟨(some 18), none, .op (.mv (.t 0))⟩,
  ⟨(some 19), none, .call 12 [(.t 18)]⟩,
  ⟨(some 20), none, .op (.mv (.t 0))⟩,
  ⟨(some 21), none, .call 12 [(.t 20)]⟩,
  ⟨(some 6), none, .op (.mv (.t 19))⟩,
  ⟨(some 7), none, .op (.mv (.t 21))⟩] [])
  (.seq (.seq (.reg [⟨(some 8), none, .op (.mv (.v (.int .i64 0)))⟩] [])
  (.block 0 (.loop (.seq (.seq (.reg [⟨(some 22), none, .op (.mv (.t 8))⟩,
  ⟨(some 23), none, .op (.mv (.t 0))⟩,
  ⟨(some 24), none, .op (.len .sl (.t 23))⟩,
  ⟨(some 25), none, .op (.mv (.t 5))⟩,
  ⟨(some 26), none, .op (.bin .none .add (.t 24) (.t 25))⟩,
  ⟨(some 27), none, .op (.bin .none .lss (.t 22) (.t 26))⟩,
  ⟨(some 28), none, .op (.mv (.t 27))⟩,
  ⟨(some 29), some (28, true), .op (.mv (.t 8))⟩,
  ⟨(some 30), some (28, true), .op (.bin .none .lss (.t 29) (.v (.int .i64 100)))⟩,
  ⟨(some 31), none, .op (.pick (.t 28) (.t 30) (.v (.bool false)))⟩] [])
  (.cond (.t 31)
  .skip
  (.exit 0)))
  (.seq (.block 1 (.seq (.reg [⟨(some 34), none, .op (.mv (.t 6))⟩,
  ⟨(some 35), none, .call 13 [(.t 34)]⟩,
  ⟨(some 9), none, .op (.mv (.t 35))⟩] [])
  (.seq (.seq (.reg [⟨(some 36), none, .op (.mv (.t 8))⟩,
  ⟨(some 37), none, .op (.mv (.t 0))⟩,
  ⟨(some 38), none, .op (.len .sl (.t 37))⟩,
  ⟨(some 39), none, .op (.bin .none .lss (.t 36) (.t 38))⟩,
  ⟨(some 40), none, .op (.mv (.t 39))⟩,
  ⟨(some 41), some (40, true), .op (.mv (.t 9))⟩,
  ⟨(some 42), some (40, true), .op (.mv (.t 0))⟩,
  ⟨(some 43), some (40, true), .op (.mv (.t 8))⟩,
  ⟨(some 44), some (40, true), .op (.iad none none (.t 42) (.t 43))⟩,
  ⟨(some 45), some (40, true), .op (.load none (.t 44))⟩,
  ⟨(some 46), some (40, true), .op (.bin .none .neq (.t 41) (.t 45))⟩,
  ⟨(some 47), none, .op (.pick (.t 40) (.t 46) (.v (.bool false)))⟩,
  ⟨(some 48), none, .op (.mv (.t 47))⟩,
  ⟨(some 49), some (48, false), .op (.mv (.t 8))⟩,
  ⟨(some 50), some (48, false), .op (.mv (.t 0))⟩,
  ⟨(some 51), some (48, false), .op (.len .sl (.t 50))⟩,
  ⟨(some 52), some (48, false), .op (.bin .none .geq (.t 49) (.t 51))⟩,
  ⟨(some 53), some (48, false), .op (.mv (.t 52))⟩,
  ⟨(some 54), some (53, true), .op (.mv (.t 9))⟩,
  ⟨(some 55), some (53, true), .op (.bin .none .neq (.t 54) (.v (.int .u64 0)))⟩,
  ⟨(some 56), some (48, false), .op (.pick (.t 53) (.t 55) (.v (.bool false)))⟩,
  ⟨(some 57), none, .op (.pick (.t 48) (.v (.bool true)) (.t 56))⟩] [])
  (.cond (.t 57)
  (.seq (.reg [⟨(some 4), none, .op (.mv (.v (.bool false)))⟩] [])
  .ret)
  .skip))
  (.reg [⟨(some 58), none, .op (.mv (.t 6))⟩,
  ⟨(some 59), none, .op (.mv (.t 9))⟩,
  ⟨(some 60), none, .call 14 [(.t 58), (.t 59)]⟩] []))))
  (.reg [⟨(some 32), none, .op (.mv (.t 8))⟩,
  ⟨(some 33), none, .op (.bin .none .add (.t 32) (.v (.int .i64 1)))⟩,
  ⟨(some 8), none, .op (.mv (.t 33))⟩] []))))))
  (.seq (.seq (.reg [⟨(some 61), none, .op (.mv (.t 7))⟩,
  ⟨(some 62), none, .call 15 [(.t 61)]⟩,
  ⟨(some 63), none, .op (.len .sl (.t 62))⟩,
  ⟨(some 64), none, .op (.bin .none .neq (.t 63) (.v (.int .i64 0)))⟩] [])
  (.cond (.t 64)
  (.seq (.reg [⟨(some 4), none, .op (.mv (.v (.bool false)))⟩] [])
  .ret)
  .skip))
  (.seq (.reg [⟨(some 65), none, .op (.mv (.t 6))⟩,
  ⟨(some 66), none, .call 15 [(.t 65)]⟩,
  ⟨(some 10), none, .op (.mv (.t 66))⟩] [])
  (.seq (.seq (.reg [⟨(some 11), none, .op (.mv (.v (.int .i64 0)))⟩] [])
  (.block 2 (.loop (.seq (.seq (.reg [⟨(some 67), none, .op (.mv (.t 11))⟩,
  ⟨(some 68), none, .op (.bin .none .add (.t 67) (.v (.int .i64 1)))⟩,
  ⟨(some 69), none, .op (.mv (.t 10))⟩,
  ⟨(some 70), none, .op (.len .sl (.t 69))⟩,
  ⟨(some 71), none, .op (.bin .none .lss (.t 68) (.t 70))⟩] [])
  (.cond (.t 71)
  .skip
  (.exit 2)))
  (.seq (.block 3 (.seq (.reg [⟨(some 74), none, .op (.mv (.t 10))⟩,
  ⟨(some 75), none, .op (.mv (.t 11))⟩,
  ⟨(some 76), none, .op (.iad none (some 2) (.t 74) (.t 75))⟩,
  ⟨(some 77), none, .op (.fad 0 (.t 76))⟩,
  ⟨(some 78), none, .op (.load none (.t 77))⟩,
  ⟨(some 79), none, .op (.bin .none .neq (.t 78) (.v (.int .i64 2)))⟩,
  ⟨(some 80), none, .op (.mv (.t 79))⟩,
  ⟨(some 81), some (80, false), .op (.mv (.t 10))⟩,
  ⟨(some 82), some (80, false), .op (.mv (.t 11))⟩,
  ⟨(some 83), some (80, false), .op (.bin .none .add (.t 82) (.v (.int .i64 1)))⟩,
  ⟨(some 84), some (80, false), .op (.iad none (some 2) (.t 81) (.t 83))⟩,
  ⟨(some 85), some (80, false), .op (.fad 0 (.t 84))⟩,
  ⟨(some 86), some (80, false), .op (.load none (.t 85))⟩,
  ⟨(some 87), some (80, false), .op (.bin .none .neq (.t 86) (.v (.int .i64 1)))⟩,
  ⟨(some 88), none, .op (.pick (.t 80) (.v (.bool true)) (.t 87))⟩,
  ⟨(some 89), none, .op (.mv (.t 88))⟩,
  ⟨(some 90), some (89, false), .op (.mv (.t 10))⟩,
  ⟨(some 91), some (89, false), .op (.mv (.t 11))⟩,
  ⟨(some 92), some (89, false), .op (.iad none (some 2) (.t 90) (.t 91))⟩,
  ⟨(some 93), some (89, false), .op (.fad 1 (.t 92))⟩,
  ⟨(some 94), some (89, false), .op (.load none (.t 93))⟩,
  ⟨(some 95), some (89, false), .op (.mv (.t 10))⟩,
  ⟨(some 96), some (89, false), .op (.mv (.t 11))⟩,
  ⟨(some 97), some (89, false), .op (.bin .none .add (.t 96) (.v (.int .i64 1)))⟩,
  ⟨(some 98), some (89, false), .op (.iad none (some 2) (.t 95) (.t 97))⟩,
  ⟨(some 99), some (89, false), .op (.fad 1 (.t 98))⟩,
  ⟨(some 100), some (89, false), .op (.load none (.t 99))⟩,
  ⟨(some 101), some (89, false), .op (.bin .none .neq (.t 94) (.t 100))⟩,
  ⟨(some 102), none, .op (.pick (.t 89) (.v (.bool true)) (.t 101))⟩] [])
  (.cond (.t 102)
  (.seq (.reg [⟨(some 4), none, .op (.mv (.v (.bool false)))⟩] [])
  .ret)
  .skip)))
  (.reg [⟨(some 72), none, .op (.mv (.t 11))⟩,
  ⟨(some 73), none, .op (.bin .none .add (.t 72) (.v (.int .i64 2)))⟩,
  ⟨(some 11), none, .op (.mv (.t 73))⟩] []))))))
  (.seq (.reg [⟨(some 103), none, .op (.mv (.t 10))⟩,
  ⟨(some 104), none, .op (.len .sl (.t 103))⟩,
  ⟨(some 105), none, .op (.mv (.t 0))⟩,
  ⟨(some 106), none, .op (.len .sl (.t 105))⟩,
  ⟨(some 107), none, .op (.mv (.t 5))⟩,
  ⟨(some 108), none, .op (.bin .none .add (.t 106) (.t 107))⟩,
  ⟨(some 109), none, .op (.mn false (.t 108) (.v (.int .i64 100)))⟩,
  ⟨(some 110), none, .op (.bin .none .mul (.v (.int .i64 2)) (.t 109))⟩,
  ⟨(some 111), none, .op (.bin .none .eql (.t 104) (.t 110))⟩,
  ⟨(some 4), none, .op (.mv (.t 111))⟩] [])
  .ret)))))))))
theorem fn5 : Fn3 Tryd.prog 5 112 [(4, none)] fc5 := ⟨_, _, Tryd.func5, rfl, rfl, rfl, by kernel_rfl⟩
def windlasslaw02_TraceTapes_s (fuel : Nat) (tape_00 : (List Int)) (more_01 : Int) : Option Bool :=
  (windlasslaw02_first_s.bind fun fir_1 => (if (!fir_1) then (some false) else ((trace_New_o_s tape_00).bind fun (new_2 : (List Int)) => ((trace_New_o_s tape_00).bind fun (new_3 : (List Int)) => ((whileN (fun (s_4 : (Int × (List Int) × (List Event))) => ((jp (fun (s_6 : Bool) => (if s_6 then ((trace_Trace_In_pNR_s s_4.2.1 s_4.2.2).bind fun (vin_7 : (Int × (List Int) × (List Event))) => (jp (fun (s_9 : Bool) => (if s_9 then (some (.ret (some false))) else ((trace_Trace_Out_pNR_s vin_7.2.1 vin_7.2.2 vin_7.1).bind fun (out_11 : ((List Int) × (List Event))) => (some (.nxt ((I64 (s_4.1 + 1)), out_11.1, out_11.2)))))) (fun k_8 => (if (decide (s_4.1 < (List.length tape_00 : Int))) then ((getI tape_00 s_4.1).bind fun y_10 => (if (vin_7.1 != y_10) then (k_8 true) else (if (decide (s_4.1 ≥ (List.length tape_00 : Int))) then (k_8 (vin_7.1 != 0)) else (k_8 false)))) else (if (decide (s_4.1 ≥ (List.length tape_00 : Int))) then (k_8 (vin_7.1 != 0)) else (k_8 false)))))) else (some (.brk (s_4.1, s_4.2.1, s_4.2.2))))) (fun k_5 => (if (decide (s_4.1 < (I64 ((List.length tape_00 : Int) + (I64 (Int.tmod (U64 more_01) 20)))))) then (k_5 (decide (s_4.1 < 100))) else (k_5 false)))) : Option (Stp (Int × (List Int) × (List Event)) (Option Bool)))) fuel (0, new_2, [])).bind (oc (fun (s_4 : (Int × (List Int) × (List Event))) => ((trace_Trace_Events_pNn_s new_3).bind fun (eve_12 : ((List Event) × (List Int))) => (if ((List.length eve_12.1 : Int) != 0) then (some false) else ((trace_Trace_Events_pNR_s s_4.2.1 s_4.2.2).bind fun (eve_13 : ((List Event) × (List Int))) => ((whileN (fun (s_14 : Int) => ((if (decide ((I64 (s_14 + 1)) < (List.length eve_13.1 : Int))) then (jp (fun (s_16 : Bool) => (if s_16 then (some (.ret (some false))) else (some (.nxt (I64 (s_14 + 2)))))) (fun k_15 => ((getI eve_13.1 s_14).bind fun y_17 => (if (y_17.Kind != 2) then (k_15 true) else ((getI eve_13.1 (I64 (s_14 + 1))).bind fun y_18 => (if (y_18.Kind != 1) then (k_15 true) else (k_15 (y_17.Value != y_18.Value)))))))) else (some (.brk s_14))) : Option (Stp Int (Option Bool)))) fuel 0).bind (oc (fun (s_14 : Int) => (some ((List.length eve_13.1 : Int) == (I64 (2 * (if 100 < (I64 ((List.length tape_00 : Int) + (I64 (Int.tmod (U64 more_01) 20)))) then 100 else (I64 ((List.length tape_00 : Int) + (I64 (Int.tmod (U64 more_01) 20))))))))))))))))))))))
theorem windlasslaw02_TraceTapes_ev {fuel : Nat} {tape_00 : (List Int)} {more_01 : Int} {r : Bool} (h : windlasslaw02_TraceTapes_s fuel tape_00 more_01 = some r) : PureEv Tryd.prog 5 [(.sl false 1 (List.map (avI .u64) tape_00)), (.int .i64 more_01)] (.bool r) := by
  unfold windlasslaw02_TraceTapes_s at h
  refine PureEv_end mixed fn5 (by simp) [] 6 ?_
  unfold fc5
  refine E_sq ?_
  refine E_reg ?_
  refine E_mv (v' := (.bool false)) rfl ?_
  refine E_nil ?_
  refine E_nx ?_
  refine E_as ?_
  refine E_sq ?_
  refine E_reg ?_
  obtain ⟨fir_1, hfir_1, h⟩ := bd_some h
  refine E_callW (windlasslaw02_first_ev  hfir_1) rfl trivial (blwL_of trivial) rfl ?_
  refine E_op0 (v' := (.bool (!fir_1))) rfl rfl ?_
  refine E_nil ?_
  refine E_nx ?_
  refine E_sq ?_
  refine E_cs (t := (!fir_1)) rfl (fun hb => ?_) (fun hb => ?_)
  · rw [ite_t hb] at h
    refine E_sq ?_
    refine E_reg ?_
    refine E_mv (v' := (.bool false)) rfl ?_
    refine E_nil ?_
    refine E_nx ?_
    refine E_ret ?_
    refine E_thr ?_
    cases h
    exact ⟨trivial, _, rfl, (fz_b rfl (.refl _))⟩
  · rw [ite_f hb] at h
    refine E_skip ?_
    refine E_nx ?_
    refine E_sq ?_
    refine E_reg ?_
    refine E_mv (v' := (.int .i64 more_01)) rfl ?_
    refine E_op0 (v' := (.int .u64 (U64 more_01))) rfl rfl ?_
    refine E_op0 (v' := (.int .u64 (Int.tmod (U64 more_01) 20))) rfl rfl ?_
    refine E_op0 (v' := (.int .i64 (I64 (Int.tmod (U64 more_01) 20)))) rfl rfl ?_
    refine E_mv (v' := (.int .i64 (I64 (Int.tmod (U64 more_01) 20)))) rfl ?_
    refine E_nil ?_
    refine E_nx ?_
    refine E_sq ?_
    refine E_reg ?_
    refine E_mv (v' := (.sl false 1 (List.map (avI .u64) tape_00))) rfl ?_
    obtain ⟨new_2, hnew_2, h⟩ := bd_some h
    refine E_callF (S' := [.arr 0 [(.sl false 1 (List.map (avI .u64) new_2)), .nils]]) (r' := (.ptr 0 0 0)) (trace_New_o_ev hnew_2) [] rfl rfl (by decide) rfl rfl trivial ⟨(fr_outN rfl rfl (.cons (rn_b ((encI .u64).blws 0)) (.cons (rn_b rfl) (.nil (Nat.zero_le _)))) rfl), trivial⟩ trivial rfl (.cons (.base ((encI .u64).blws 0) (.refl _)) (.nil (Nat.zero_le _))) (fo_ptr rfl rfl rfl rfl) ?_
    refine E_mv (v' := (.sl false 1 (List.map (avI .u64) tape_00))) rfl ?_
    obtain ⟨new_3, hnew_3, h⟩ := bd_some h
    refine E_callF (S' := [.arr 0 [(.sl false 1 (List.map (avI .u64) new_2)), .nils], .arr 0 [(.sl false 1 (List.map (avI .u64) new_3)), .nils]]) (r' := (.ptr 1 0 0)) (trace_New_o_ev hnew_3) [] rfl rfl (by decide) rfl rfl trivial ⟨(fr_outN rfl rfl (.cons (rn_b ((encI .u64).blws 0)) (.cons (rn_b rfl) (.nil (Nat.zero_le _)))) rfl), trivial⟩ ⟨.inr rfl, trivial⟩ rfl (.cons (.base ((encI .u64).blws 0) (.refl _)) (.nil (Nat.zero_le _))) (fo_ptr rfl rfl rfl rfl) ?_
    refine E_mv (v' := (.ptr 0 0 0)) rfl ?_
    refine E_mv (v' := (.ptr 1 0 0)) rfl ?_
    refine E_nil ?_
    refine E_nx ?_
    refine E_as ?_
    refine E_sq ?_
    refine E_reg ?_
    refine E_mv (v' := (.int .i64 0)) rfl ?_
    refine E_nil ?_
    refine E_nx ?_
    refine E_sq ?_
    refine E_whileO (fun s_4 => [(0, (.sl false 1 (List.map (avI .u64) tape_00))), (5, (.int .i64 (I64 (Int.tmod (U64 more_01) 20)))), (6, (.ptr 0 0 0)), (7, (.ptr 2 0 0)), (8, (.int .i64 s_4.1))]) (fun s_4 => [.arr 0 [(.sl false 1 (List.map (avI .u64) s_4.2.1)), (.ref 1 1 0 (List.length s_4.2.2) (some 2))], .arr 1 (flat Event.av s_4.2.2), .arr 0 [(.sl false 1 (List.map (avI .u64) new_3)), .nils]]) h (wk_rn [some (0, 0), none, some (1, 0)] rfl (Nat.le_of_ble_eq_true rfl) ⟨(rn_ob rfl rfl (.cons (rn_b ((encI .u64).blws 0)) (.cons (rn_nil rfl) (.nil (Nat.zero_le _)))) rfl), (rn_obN rfl rfl rfl), (rn_ob rfl rfl (.cons (rn_b ((encI .u64).blws 0)) (.cons (rn_b rfl) (.nil (Nat.zero_le _)))) rfl), trivial⟩ ⟨(rn_b ((encI .u64).blws 0)), (rn_b rfl), (rn_ptr rfl rfl rfl rfl), (rn_ptr rfl rfl rfl rfl), (rn_b rfl), trivial⟩) (fun s_4 c h => ?_) (fun s_4 fr' S' h hw => ?_)
    · refine E_as ?_
      refine E_jp h (fun s_6 => [(0, (.sl false 1 (List.map (avI .u64) tape_00))), (5, (.int .i64 (I64 (Int.tmod (U64 more_01) 20)))), (6, (.ptr 0 0 0)), (7, (.ptr 2 0 0)), (8, (.int .i64 s_4.1)), (31, (.bool s_6))]) (fun s_6 => [.arr 0 [(.sl false 1 (List.map (avI .u64) s_4.2.1)), (.ref 1 1 0 (List.length s_4.2.2) (some 2))], .arr 1 (flat Event.av s_4.2.2), .arr 0 [(.sl false 1 (List.map (avI .u64) new_3)), .nils]]) (fun k_5 h => ?_) (fun s_6 h => ?_)
      · refine E_reg ?_
        refine E_mv (v' := (.int .i64 s_4.1)) rfl ?_
        refine E_mv (v' := (.sl false 1 (List.map (avI .u64) tape_00))) rfl ?_
        refine E_len rfl ?_
        refine E_mv (v' := (.int .i64 (I64 (Int.tmod (U64 more_01) 20)))) rfl ?_
        refine E_op0 (v' := (.int .i64 (I64 ((List.length tape_00 : Int) + (I64 (Int.tmod (U64 more_01) 20)))))) rfl rfl ?_
        refine E_op0 (v' := (.bool (decide (s_4.1 < (I64 ((List.length tape_00 : Int) + (I64 (Int.tmod (U64 more_01) 20)))))))) rfl rfl ?_
        refine E_mv (v' := (.bool (decide (s_4.1 < (I64 ((List.length tape_00 : Int) + (I64 (Int.tmod (U64 more_01) 20)))))))) rfl ?_
        refine E_gsT (b := (decide (s_4.1 < (I64 ((List.length tape_00 : Int) + (I64 (Int.tmod (U64 more_01) 20))))))) rfl rfl rfl (fun hb => ?_) (fun hb => ?_)
        · rw [ite_t hb] at h
          refine E_mv (v' := (.int .i64 s_4.1)) rfl ?_
          refine E_gh rfl ?_
          refine E_op0 (v' := (.bool (decide (s_4.1 < 100)))) rfl rfl ?_
          refine E_pt rfl rfl ?_
          refine E_nil ?_
          exact E_jx _ h (wk_rn [some (0, 0), some (1, 0), some (2, 0)] rfl (Nat.le_of_ble_eq_true rfl) ⟨(rn_ob rfl rfl (.cons (rn_b ((encI .u64).blws 0)) (.cons (rn_refL Event.enc rfl rfl rfl) (.nil (Nat.zero_le _)))) rfl), (rn_ob rfl rfl (.refl (Event.enc.blwf 0 _)) rfl), (rn_ob rfl rfl (.cons (rn_b ((encI .u64).blws 0)) (.cons (rn_b rfl) (.nil (Nat.zero_le _)))) rfl), trivial⟩ ⟨(rn_b ((encI .u64).blws 0)), (rn_b rfl), (rn_ptr rfl rfl rfl rfl), (rn_ptr rfl rfl rfl rfl), (rn_b rfl), (rn_b rfl), trivial⟩)
        · rw [ite_f hb] at h
          refine E_gm rfl ?_
          refine E_pf rfl rfl ?_
          refine E_nil ?_
          exact E_jx _ h (wk_rn [some (0, 0), some (1, 0), some (2, 0)] rfl (Nat.le_of_ble_eq_true rfl) ⟨(rn_ob rfl rfl (.cons (rn_b ((encI .u64).blws 0)) (.cons (rn_refL Event.enc rfl rfl rfl) (.nil (Nat.zero_le _)))) rfl), (rn_ob rfl rfl (.refl (Event.enc.blwf 0 _)) rfl), (rn_ob rfl rfl (.cons (rn_b ((encI .u64).blws 0)) (.cons (rn_b rfl) (.nil (Nat.zero_le _)))) rfl), trivial⟩ ⟨(rn_b ((encI .u64).blws 0)), (rn_b rfl), (rn_ptr rfl rfl rfl rfl), (rn_ptr rfl rfl rfl rfl), (rn_b rfl), (rn_b rfl), trivial⟩)
      · refine E_sq ?_
        refine E_cs (t := s_6) rfl (fun hb => ?_) (fun hb => ?_)
        · rw [ite_t hb] at h
          refine E_skip ?_
          refine E_nx ?_
          refine E_sq ?_
          refine E_block ?_
          refine E_sq ?_
          refine E_reg ?_
          refine E_mv (v' := (.ptr 0 0 0)) rfl ?_
          obtain ⟨vin_7, hvin_7, h⟩ := bd_some h
          refine E_callF (S' := [.arr 0 [(.sl false 1 (List.map (avI .u64) vin_7.2.1)), (.ref 1 2 0 (List.length vin_7.2.2) (some 2))], .arr 2 (flat Event.av vin_7.2.2), .arr 0 [(.sl false 1 (List.map (avI .u64) new_3)), .nils]]) (r' := (.int .u64 vin_7.1)) (trace_Trace_In_pNR_ev hvin_7) [0, 1] rfl rfl (by decide) rfl rfl ⟨(fr_in rfl rfl (.cons (.base ((encI .u64).blws 0) (.refl _)) (.cons (fi_ref rfl rfl rfl rfl) (.nil (Nat.zero_le _))))), (fr_in rfl rfl (.refl (Event.enc.blwf 0 _))), trivial⟩ ⟨(fr_outS rfl rfl (.cons (rn_b ((encI .u64).blws 0)) (.cons (fo_ref rfl rfl rfl rfl) (.nil (Nat.zero_le _)))) rfl rfl), (fr_out rfl rfl (.refl (Event.enc.blwf 0 _)) rfl rfl), trivial⟩ ⟨.inl rfl, .inl rfl, .inr rfl, trivial⟩ rfl (.cons (fi_ptr rfl rfl rfl rfl) (.nil (Nat.zero_le _))) (rn_b rfl) ?_
          refine E_mv (v' := (.int .u64 vin_7.1)) rfl ?_
          refine E_nil ?_
          refine E_nx ?_
          refine E_as ?_
          refine E_jp h (fun s_9 => [(0, (.sl false 1 (List.map (avI .u64) tape_00))), (5, (.int .i64 (I64 (Int.tmod (U64 more_01) 20)))), (6, (.ptr 0 0 0)), (7, (.ptr 2 0 0)), (8, (.int .i64 s_4.1)), (9, (.int .u64 vin_7.1)), (57, (.bool s_9))]) (fun s_9 => [.arr 0 [(.sl false 1 (List.map (avI .u64) vin_7.2.1)), (.ref 1 1 0 (List.length vin_7.2.2) (some 2))], .arr 1 (flat Event.av vin_7.2.2), .arr 0 [(.sl false 1 (List.map (avI .u64) new_3)), .nils]]) (fun k_8 h => ?_) (fun s_9 h => ?_)
          · refine E_reg ?_
            refine E_mv (v' := (.int .i64 s_4.1)) rfl ?_
            refine E_mv (v' := (.sl false 1 (List.map (avI .u64) tape_00))) rfl ?_
            refine E_len rfl ?_
            refine E_op0 (v' := (.bool (decide (s_4.1 < (List.length tape_00 : Int))))) rfl rfl ?_
            refine E_mv (v' := (.bool (decide (s_4.1 < (List.length tape_00 : Int))))) rfl ?_
            refine E_gsT (b := (decide (s_4.1 < (List.length tape_00 : Int)))) rfl rfl rfl (fun hb => ?_) (fun hb => ?_)
            · rw [ite_t hb] at h
              refine E_mv (v' := (.int .u64 vin_7.1)) rfl ?_
              refine E_gh rfl ?_
              refine E_mv (v' := (.sl false 1 (List.map (avI .u64) tape_00))) rfl ?_
              refine E_gh rfl ?_
              refine E_mv (v' := (.int .i64 s_4.1)) rfl ?_
              refine E_gh rfl ?_
              obtain ⟨y_10, hy_10, h⟩ := bd_some h
              refine E_iadF rfl rfl hy_10 ?_
              refine E_gh rfl ?_
              refine E_op0 (v' := (.int .u64 y_10)) rfl rfl ?_
              refine E_gh rfl ?_
              refine E_op0 (v' := (.bool (vin_7.1 != y_10))) rfl rfl ?_
              refine E_pt rfl rfl ?_
              refine E_mv (v' := (.bool (vin_7.1 != y_10))) rfl ?_
              refine E_gsT (b := (vin_7.1 != y_10)) rfl rfl rfl (fun hb => ?_) (fun hb => ?_)
              · rw [ite_f hb] at h
                refine E_mv (v' := (.int .i64 s_4.1)) rfl ?_
                refine E_gh rfl ?_
                refine E_mv (v' := (.sl false 1 (List.map (avI .u64) tape_00))) rfl ?_
                refine E_gh rfl ?_
                refine E_len rfl ?_
                refine E_gh rfl ?_
                refine E_op0 (v' := (.bool (decide (s_4.1 ≥ (List.length tape_00 : Int))))) rfl rfl ?_
                refine E_gh rfl ?_
                refine E_mv (v' := (.bool (decide (s_4.1 ≥ (List.length tape_00 : Int))))) rfl ?_
                refine E_gsT (b := (decide (s_4.1 ≥ (List.length tape_00 : Int)))) rfl rfl rfl (fun hb => ?_) (fun hb => ?_)
                · rw [ite_t hb] at h
                  refine E_mv (v' := (.int .u64 vin_7.1)) rfl ?_
                  refine E_gh rfl ?_
                  refine E_op0 (v' := (.bool (vin_7.1 != 0))) rfl rfl ?_
                  refine E_gh rfl ?_
                  refine E_pt rfl rfl ?_
                  refine E_pf rfl rfl ?_
                  refine E_nil ?_
                  exact E_jx _ h (wk_rn [some (0, 0), some (1, 0), some (2, 0)] rfl (Nat.le_of_ble_eq_true rfl) ⟨(rn_ob rfl rfl (.cons (rn_b ((encI .u64).blws 0)) (.cons (rn_refL Event.enc rfl rfl rfl) (.nil (Nat.zero_le _)))) rfl), (rn_ob rfl rfl (.refl (Event.enc.blwf 0 _)) rfl), (rn_ob rfl rfl (.cons (rn_b ((encI .u64).blws 0)) (.cons (rn_b rfl) (.nil (Nat.zero_le _)))) rfl), trivial⟩ ⟨(rn_b ((encI .u64).blws 0)), (rn_b rfl), (rn_ptr rfl rfl rfl rfl), (rn_ptr rfl rfl rfl rfl), (rn_b rfl), (rn_b rfl), (rn_b rfl), trivial⟩)
                · rw [ite_f hb] at h
                  refine E_gm rfl ?_
                  refine E_gh rfl ?_
                  refine E_pf rfl rfl ?_
                  refine E_pf rfl rfl ?_
                  refine E_nil ?_
                  exact E_jx _ h (wk_rn [some (0, 0), some (1, 0), some (2, 0)] rfl (Nat.le_of_ble_eq_true rfl) ⟨(rn_ob rfl rfl (.cons (rn_b ((encI .u64).blws 0)) (.cons (rn_refL Event.enc rfl rfl rfl) (.nil (Nat.zero_le _)))) rfl), (rn_ob rfl rfl (.refl (Event.enc.blwf 0 _)) rfl), (rn_ob rfl rfl (.cons (rn_b ((encI .u64).blws 0)) (.cons (rn_b rfl) (.nil (Nat.zero_le _)))) rfl), trivial⟩ ⟨(rn_b ((encI .u64).blws 0)), (rn_b rfl), (rn_ptr rfl rfl rfl rfl), (rn_ptr rfl rfl rfl rfl), (rn_b rfl), (rn_b rfl), (rn_b rfl), trivial⟩)
              · rw [ite_t hb] at h
                refine E_gm rfl ?_
                refine E_gm rfl ?_
                refine E_gm rfl ?_
                refine E_gm rfl ?_
                refine E_gz rfl ?_
                refine E_gz rfl ?_
                refine E_gm rfl ?_
                refine E_pt rfl rfl ?_
                refine E_nil ?_
                exact E_jx _ h (wk_rn [some (0, 0), some (1, 0), some (2, 0)] rfl (Nat.le_of_ble_eq_true rfl) ⟨(rn_ob rfl rfl (.cons (rn_b ((encI .u64).blws 0)) (.cons (rn_refL Event.enc rfl rfl rfl) (.nil (Nat.zero_le _)))) rfl), (rn_ob rfl rfl (.refl (Event.enc.blwf 0 _)) rfl), (rn_ob rfl rfl (.cons (rn_b ((encI .u64).blws 0)) (.cons (rn_b rfl) (.nil (Nat.zero_le _)))) rfl), trivial⟩ ⟨(rn_b ((encI .u64).blws 0)), (rn_b rfl), (rn_ptr rfl rfl rfl rfl), (rn_ptr rfl rfl rfl rfl), (rn_b rfl), (rn_b rfl), (rn_b rfl), trivial⟩)
            · rw [ite_f hb] at h
              refine E_gm rfl ?_
              refine E_gm rfl ?_
              refine E_gm rfl ?_
              refine E_gm rfl ?_
              refine E_gm rfl ?_
              refine E_pf rfl rfl ?_
              refine E_mv (v' := (.bool false)) rfl ?_
              refine E_gh rfl ?_
              refine E_mv (v' := (.int .i64 s_4.1)) rfl ?_
              refine E_gh rfl ?_
              refine E_mv (v' := (.sl false 1 (List.map (avI .u64) tape_00))) rfl ?_
              refine E_gh rfl ?_
              refine E_len rfl ?_
              refine E_gh rfl ?_
              refine E_op0 (v' := (.bool (decide (s_4.1 ≥ (List.length tape_00 : Int))))) rfl rfl ?_
              refine E_gh rfl ?_
              refine E_mv (v' := (.bool (decide (s_4.1 ≥ (List.length tape_00 : Int))))) rfl ?_
              refine E_gsT (b := (decide (s_4.1 ≥ (List.length tape_00 : Int)))) rfl rfl rfl (fun hb => ?_) (fun hb => ?_)
              · rw [ite_t hb] at h
                refine E_mv (v' := (.int .u64 vin_7.1)) rfl ?_
                refine E_gh rfl ?_
                refine E_op0 (v' := (.bool (vin_7.1 != 0))) rfl rfl ?_
                refine E_gh rfl ?_
                refine E_pt rfl rfl ?_
                refine E_pf rfl rfl ?_
                refine E_nil ?_
                exact E_jx _ h (wk_rn [some (0, 0), some (1, 0), some (2, 0)] rfl (Nat.le_of_ble_eq_true rfl) ⟨(rn_ob rfl rfl (.cons (rn_b ((encI .u64).blws 0)) (.cons (rn_refL Event.enc rfl rfl rfl) (.nil (Nat.zero_le _)))) rfl), (rn_ob rfl rfl (.refl (Event.enc.blwf 0 _)) rfl), (rn_ob rfl rfl (.cons (rn_b ((encI .u64).blws 0)) (.cons (rn_b rfl) (.nil (Nat.zero_le _)))) rfl), trivial⟩ ⟨(rn_b ((encI .u64).blws 0)), (rn_b rfl), (rn_ptr rfl rfl rfl rfl), (rn_ptr rfl rfl rfl rfl), (rn_b rfl), (rn_b rfl), (rn_b rfl), trivial⟩)
              · rw [ite_f hb] at h
                refine E_gm rfl ?_
                refine E_gh rfl ?_
                refine E_pf rfl rfl ?_
                refine E_pf rfl rfl ?_
                refine E_nil ?_
                exact E_jx _ h (wk_rn [some (0, 0), some (1, 0), some (2, 0)] rfl (Nat.le_of_ble_eq_true rfl) ⟨(rn_ob rfl rfl (.cons (rn_b ((encI .u64).blws 0)) (.cons (rn_refL Event.enc rfl rfl rfl) (.nil (Nat.zero_le _)))) rfl), (rn_ob rfl rfl (.refl (Event.enc.blwf 0 _)) rfl), (rn_ob rfl rfl (.cons (rn_b ((encI .u64).blws 0)) (.cons (rn_b rfl) (.nil (Nat.zero_le _)))) rfl), trivial⟩ ⟨(rn_b ((encI .u64).blws 0)), (rn_b rfl), (rn_ptr rfl rfl rfl rfl), (rn_ptr rfl rfl rfl rfl), (rn_b rfl), (rn_b rfl), (rn_b rfl), trivial⟩)
          · refine E_sq ?_
            refine E_cs (t := s_9) rfl (fun hb => ?_) (fun hb => ?_)
            · rw [ite_t hb] at h
              refine E_sq ?_
              refine E_reg ?_
              refine E_mv (v' := (.bool false)) rfl ?_
              refine E_nil ?_
              refine E_nx ?_
              refine E_ret ?_
              refine E_thr ?_
              refine E_blr ?_
              refine E_thr ?_
              cases h
              refine L_rrO rfl (fun h => ?_)
              refine E_thr ?_
              cases h
              exact ⟨trivial, _, rfl, (fz_b rfl (.refl _))⟩
            · rw [ite_f hb] at h
              refine E_skip ?_
              refine E_nx ?_
              refine E_reg ?_
              refine E_mv (v' := (.ptr 0 0 0)) rfl ?_
              refine E_mv (v' := (.int .u64 vin_7.1)) rfl ?_
              obtain ⟨out_11, hout_11, h⟩ := bd_some h
              refine E_callF (S' := [.arr 0 [(.sl false 1 (List.map (avI .u64) out_11.1)), (.ref 1 2 0 (List.length out_11.2) (some 2))], .arr 2 (flat Event.av out_11.2), .arr 0 [(.sl false 1 (List.map (avI .u64) new_3)), .nils]]) (r' := (.tup [])) (trace_Trace_Out_pNR_ev hout_11) [0, 1] rfl rfl (by decide) rfl rfl ⟨(fr_in rfl rfl (.cons (.base ((encI .u64).blws 0) (.refl _)) (.cons (fi_ref rfl rfl rfl rfl) (.nil (Nat.zero_le _))))), (fr_in rfl rfl (.refl (Event.enc.blwf 0 _))), trivial⟩ ⟨(fr_outS rfl rfl (.cons (rn_b ((encI .u64).blws 0)) (.cons (fo_ref rfl rfl rfl rfl) (.nil (Nat.zero_le _)))) rfl rfl), (fr_out rfl rfl (.refl (Event.enc.blwf 0 _)) rfl rfl), trivial⟩ ⟨.inl rfl, .inl rfl, .inr rfl, trivial⟩ rfl (.cons (fi_ptr rfl rfl rfl rfl) (.cons (.base rfl (.refl _)) (.nil (Nat.zero_le _)))) (rn_tup trivial) ?_
              refine E_nil ?_
              refine E_bln ?_
              refine E_nx ?_
              refine E_reg ?_
              refine E_mv (v' := (.int .i64 s_4.1)) rfl ?_
              refine E_op0 (v' := (.int .i64 (I64 (s_4.1 + 1)))) rfl rfl ?_
              refine E_mv (v' := (.int .i64 (I64 (s_4.1 + 1)))) rfl ?_
              refine E_nil ?_
              cases h
              exact L_nn rfl (wk_rn [some (0, 0), some (1, 0), some (2, 0)] rfl (Nat.le_of_ble_eq_true rfl) ⟨(rn_ob rfl rfl (.cons (rn_b ((encI .u64).blws 0)) (.cons (rn_refL Event.enc rfl rfl rfl) (.nil (Nat.zero_le _)))) rfl), (rn_ob rfl rfl (.refl (Event.enc.blwf 0 _)) rfl), (rn_ob rfl rfl (.cons (rn_b ((encI .u64).blws 0)) (.cons (rn_b rfl) (.nil (Nat.zero_le _)))) rfl), trivial⟩ ⟨(rn_b ((encI .u64).blws 0)), (rn_b rfl), (rn_ptr rfl rfl rfl rfl), (rn_ptr rfl rfl rfl rfl), (rn_b rfl), trivial⟩)
        · rw [ite_f hb] at h
          refine E_exit ?_
          refine E_the ?_
          cases h
          exact L_bk rfl rfl rfl (wk_rn [some (0, 0), some (1, 0), some (2, 0)] rfl (Nat.le_of_ble_eq_true rfl) ⟨(rn_ob rfl rfl (.cons (rn_b ((encI .u64).blws 0)) (.cons (rn_refL Event.enc rfl rfl rfl) (.nil (Nat.zero_le _)))) rfl), (rn_ob rfl rfl (.refl (Event.enc.blwf 0 _)) rfl), (rn_ob rfl rfl (.cons (rn_b ((encI .u64).blws 0)) (.cons (rn_b rfl) (.nil (Nat.zero_le _)))) rfl), trivial⟩ ⟨(rn_b ((encI .u64).blws 0)), (rn_b rfl), (rn_ptr rfl rfl rfl rfl), (rn_ptr rfl rfl rfl rfl), (rn_b rfl), trivial⟩)
    · refine X_nx hw ?_
      refine E_as ?_
      refine E_sq ?_
      refine E_reg ?_
      refine E_mv (v' := (.ptr 2 0 0)) rfl ?_
      obtain ⟨eve_12, heve_12, h⟩ := bd_some h
      refine E_callF (S' := [.arr 0 [(.sl false 1 (List.map (avI .u64) s_4.2.1)), (.ref 1 1 0 (List.length s_4.2.2) (some 2))], .arr 1 (flat Event.av s_4.2.2), .arr 0 [(.sl false 1 (List.map (avI .u64) eve_12.2)), .nils]]) (r' := (.sl false 2 (List.map Event.av eve_12.1))) (trace_Trace_Events_pNn_ev heve_12) [2] rfl rfl (by decide) rfl rfl ⟨(fr_in rfl rfl (.cons (.base ((encI .u64).blws 0) (.refl _)) (.cons (rn_b rfl) (.nil (Nat.zero_le _))))), trivial⟩ ⟨(fr_outS rfl rfl (.cons (rn_b ((encI .u64).blws 0)) (.cons (rn_b rfl) (.nil (Nat.zero_le _)))) rfl rfl), trivial⟩ ⟨.inr rfl, .inr rfl, .inl rfl, trivial⟩ rfl (.cons (fi_ptr rfl rfl rfl rfl) (.nil (Nat.zero_le _))) (rn_b (Event.enc.blws 0)) ?_
      refine E_len rfl ?_
      refine E_op0 (v' := (.bool ((List.length eve_12.1 : Int) != 0))) rfl rfl ?_
      refine E_nil ?_
      refine E_nx ?_
      refine E_sq ?_
      refine E_cs (t := ((List.length eve_12.1 : Int) != 0)) rfl (fun hb => ?_) (fun hb => ?_)
      · rw [ite_t hb] at h
        refine E_sq ?_
        refine E_reg ?_
        refine E_mv (v' := (.bool false)) rfl ?_
        refine E_nil ?_
        refine E_nx ?_
        refine E_ret ?_
        refine E_thr ?_
        cases h
        exact ⟨trivial, _, rfl, (fz_b rfl (.refl _))⟩
      · rw [ite_f hb] at h
        refine E_skip ?_
        refine E_nx ?_
        refine E_sq ?_
        refine E_reg ?_
        refine E_mv (v' := (.ptr 0 0 0)) rfl ?_
        obtain ⟨eve_13, heve_13, h⟩ := bd_some h
        refine E_callF (S' := [.arr 0 [(.sl false 1 (List.map (avI .u64) eve_13.2)), (.ref 1 1 0 (List.length s_4.2.2) (some 2))], .arr 1 (flat Event.av s_4.2.2), .arr 0 [(.sl false 1 (List.map (avI .u64) eve_12.2)), .nils]]) (r' := (.sl false 2 (List.map Event.av eve_13.1))) (trace_Trace_Events_pNR_ev heve_13) [0, 1] rfl rfl (by decide) rfl rfl ⟨(fr_in rfl rfl (.cons (.base ((encI .u64).blws 0) (.refl _)) (.cons (fi_ref rfl rfl rfl rfl) (.nil (Nat.zero_le _))))), (fr_in rfl rfl (.refl (Event.enc.blwf 0 _))), trivial⟩ ⟨(fr_outS rfl rfl (.cons (rn_b ((encI .u64).blws 0)) (.cons (fo_ref rfl rfl rfl rfl) (.nil (Nat.zero_le _)))) rfl rfl), (fr_outS rfl rfl (.refl (Event.enc.blwf 0 _)) rfl rfl), trivial⟩ ⟨.inl rfl, .inl rfl, .inr rfl, trivial⟩ rfl (.cons (fi_ptr rfl rfl rfl rfl) (.nil (Nat.zero_le _))) (rn_b (Event.enc.blws 0)) ?_
        refine E_mv (v' := (.sl false 2 (List.map Event.av eve_13.1))) rfl ?_
        refine E_nil ?_
        refine E_nx ?_
        refine E_as ?_
        refine E_sq ?_
        refine E_reg ?_
        refine E_mv (v' := (.int .i64 0)) rfl ?_
        refine E_nil ?_
        refine E_nx ?_
        refine E_sq ?_
        refine E_whileO (fun s_14 => [(0, (.sl false 1 (List.map (avI .u64) tape_00))), (5, (.int .i64 (I64 (Int.tmod (U64 more_01) 20)))), (10, (.sl false 2 (List.map Event.av eve_13.1))), (11, (.int .i64 s_14))]) (fun s_14 => []) h (wk_rn [] rfl (Nat.le_of_ble_eq_true rfl) trivial ⟨(rn_b ((encI .u64).blws 0)), (rn_b rfl), (rn_b (Event.enc.blws 0)), (rn_b rfl), trivial⟩) (fun s_14 c h => ?_) (fun s_14 fr' S' h hw => ?_)
        · refine E_as ?_
          refine E_sq ?_
          refine E_reg ?_
          refine E_mv (v' := (.int .i64 s_14)) rfl ?_
          refine E_op0 (v' := (.int .i64 (I64 (s_14 + 1)))) rfl rfl ?_
          refine E_mv (v' := (.sl false 2 (List.map Event.av eve_13.1))) rfl ?_
          refine E_len rfl ?_
          refine E_op0 (v' := (.bool (decide ((I64 (s_14 + 1)) < (List.length eve_13.1 : Int))))) rfl rfl ?_
          refine E_nil ?_
          refine E_nx ?_
          refine E_sq ?_
          refine E_cs (t := (decide ((I64 (s_14 + 1)) < (List.length eve_13.1 : Int)))) rfl (fun hb => ?_) (fun hb => ?_)
          · rw [ite_t hb] at h
            refine E_skip ?_
            refine E_nx ?_
            refine E_sq ?_
            refine E_block ?_
            refine E_jp h (fun s_16 => [(0, (.sl false 1 (List.map (avI .u64) tape_00))), (5, (.int .i64 (I64 (Int.tmod (U64 more_01) 20)))), (10, (.sl false 2 (List.map Event.av eve_13.1))), (11, (.int .i64 s_14)), (102, (.bool s_16))]) (fun s_16 => []) (fun k_15 h => ?_) (fun s_16 h => ?_)
            · refine E_reg ?_
              refine E_mv (v' := (.sl false 2 (List.map Event.av eve_13.1))) rfl ?_
              refine E_mv (v' := (.int .i64 s_14)) rfl ?_
              obtain ⟨y_17, hy_17, h⟩ := bd_some h
              refine E_iadF rfl rfl hy_17 ?_
              refine E_op0 (v' := (.cptr (Event.av y_17).cells 0)) rfl rfl ?_
              refine E_op0 (v' := (.int .i64 y_17.Kind)) rfl rfl ?_
              refine E_op0 (v' := (.bool (y_17.Kind != 2))) rfl rfl ?_
              refine E_mv (v' := (.bool (y_17.Kind != 2))) rfl ?_
              refine E_gsT (b := (y_17.Kind != 2)) rfl rfl rfl (fun hb => ?_) (fun hb => ?_)
              · rw [ite_f hb] at h
                refine E_mv (v' := (.sl false 2 (List.map Event.av eve_13.1))) rfl ?_
                refine E_gh rfl ?_
                refine E_mv (v' := (.int .i64 s_14)) rfl ?_
                refine E_gh rfl ?_
                refine E_op0 (v' := (.int .i64 (I64 (s_14 + 1)))) rfl rfl ?_
                refine E_gh rfl ?_
                obtain ⟨y_18, hy_18, h⟩ := bd_some h
                refine E_iadF rfl rfl hy_18 ?_
                refine E_gh rfl ?_
                refine E_op0 (v' := (.cptr (Event.av y_18).cells 0)) rfl rfl ?_
                refine E_gh rfl ?_
                refine E_op0 (v' := (.int .i64 y_18.Kind)) rfl rfl ?_
                refine E_gh rfl ?_
                refine E_op0 (v' := (.bool (y_18.Kind != 1))) rfl rfl ?_
                refine E_pf rfl rfl ?_
                refine E_mv (v' := (.bool (y_18.Kind != 1))) rfl ?_
                refine E_gsT (b := (y_18.Kind != 1)) rfl rfl rfl (fun hb => ?_) (fun hb => ?_)
                · rw [ite_f hb] at h
                  refine E_mv (v' := (.sl false 2 (List.map Event.av eve_13.1))) rfl ?_
                  refine E_gh rfl ?_
                  refine E_mv (v' := (.int .i64 s_14)) rfl ?_
                  refine E_gh rfl ?_
                  refine E_iadF rfl rfl hy_17 ?_
                  refine E_gh rfl ?_
                  refine E_op0 (v' := (.cptr (Event.av y_17).cells 1)) rfl rfl ?_
                  refine E_gh rfl ?_
                  refine E_op0 (v' := (.int .u64 y_17.Value)) rfl rfl ?_
                  refine E_gh rfl ?_
                  refine E_mv (v' := (.sl false 2 (List.map Event.av eve_13.1))) rfl ?_
                  refine E_gh rfl ?_
                  refine E_mv (v' := (.int .i64 s_14)) rfl ?_
                  refine E_gh rfl ?_
                  refine E_op0 (v' := (.int .i64 (I64 (s_14 + 1)))) rfl rfl ?_
                  refine E_gh rfl ?_
                  refine E_iadF rfl rfl hy_18 ?_
                  refine E_gh rfl ?_
                  refine E_op0 (v' := (.cptr (Event.av y_18).cells 1)) rfl rfl ?_
                  refine E_gh rfl ?_
                  refine E_op0 (v' := (.int .u64 y_18.Value)) rfl rfl ?_
                  refine E_gh rfl ?_
                  refine E_op0 (v' := (.bool (y_17.Value != y_18.Value))) rfl rfl ?_
                  refine E_pf rfl rfl ?_
                  refine E_nil ?_
                  exact E_jx _ h (wk_aw ⟨(.refl _), (.refl _), (.refl _), (.refl _), (.refl _), trivial⟩)
                · rw [ite_t hb] at h
                  refine E_gm rfl ?_
                  refine E_gm rfl ?_
                  refine E_gm rfl ?_
                  refine E_gm rfl ?_
                  refine E_gm rfl ?_
                  refine E_gm rfl ?_
                  refine E_gm rfl ?_
                  refine E_gm rfl ?_
                  refine E_gm rfl ?_
                  refine E_gm rfl ?_
                  refine E_gm rfl ?_
                  refine E_pt rfl rfl ?_
                  refine E_nil ?_
                  exact E_jx _ h (wk_aw ⟨(.refl _), (.refl _), (.refl _), (.refl _), (.refl _), trivial⟩)
              · rw [ite_t hb] at h
                refine E_gm rfl ?_
                refine E_gm rfl ?_
                refine E_gm rfl ?_
                refine E_gm rfl ?_
                refine E_gm rfl ?_
                refine E_gm rfl ?_
                refine E_pt rfl rfl ?_
                refine E_mv (v' := (.bool true)) rfl ?_
                refine E_gm rfl ?_
                refine E_gm rfl ?_
                refine E_gm rfl ?_
                refine E_gm rfl ?_
                refine E_gm rfl ?_
                refine E_gm rfl ?_
                refine E_gm rfl ?_
                refine E_gm rfl ?_
                refine E_gm rfl ?_
                refine E_gm rfl ?_
                refine E_gm rfl ?_
                refine E_gm rfl ?_
                refine E_pt rfl rfl ?_
                refine E_nil ?_
                exact E_jx _ h (wk_aw ⟨(.refl _), (.refl _), (.refl _), (.refl _), (.refl _), trivial⟩)
            · refine E_cs (t := s_16) rfl (fun hb => ?_) (fun hb => ?_)
              · rw [ite_t hb] at h
                refine E_sq ?_
                refine E_reg ?_
                refine E_mv (v' := (.bool false)) rfl ?_
                refine E_nil ?_
                refine E_nx ?_
                refine E_ret ?_
                refine E_blr ?_
                refine E_thr ?_
                cases h
                refine L_rrO rfl (fun h => ?_)
                refine E_thr ?_
                cases h
                exact ⟨trivial, _, rfl, (fz_b rfl (.refl _))⟩
              · rw [ite_f hb] at h
                refine E_skip ?_
                refine E_bln ?_
                refine E_nx ?_
                refine E_reg ?_
                refine E_mv (v' := (.int .i64 s_14)) rfl ?_
                refine E_op0 (v' := (.int .i64 (I64 (s_14 + 2)))) rfl rfl ?_
                refine E_mv (v' := (.int .i64 (I64 (s_14 + 2)))) rfl ?_
                refine E_nil ?_
                cases h
                exact L_nn rfl (wk_aw ⟨(.refl _), (.refl _), (.refl _), (.refl _), trivial⟩)
          · rw [ite_f hb] at h
            refine E_exit ?_
            refine E_the ?_
            cases h
            exact L_bk rfl rfl rfl (wk_aw ⟨(.refl _), (.refl _), (.refl _), (.refl _), trivial⟩)
        · refine X_nx hw ?_
          refine E_sq ?_
          refine E_reg ?_
          refine E_mv (v' := (.sl false 2 (List.map Event.av eve_13.1))) rfl ?_
          refine E_len rfl ?_
          refine E_mv (v' := (.sl false 1 (List.map (avI .u64) tape_00))) rfl ?_
          refine E_len rfl ?_
          refine E_mv (v' := (.int .i64 (I64 (Int.tmod (U64 more_01) 20)))) rfl ?_
          refine E_op0 (v' := (.int .i64 (I64 ((List.length tape_00 : Int) + (I64 (Int.tmod (U64 more_01) 20)))))) rfl rfl ?_
          refine E_op0 (v' := (.int .i64 (if 100 < (I64 ((List.length tape_00 : Int) + (I64 (Int.tmod (U64 more_01) 20)))) then 100 else (I64 ((List.length tape_00 : Int) + (I64 (Int.tmod (U64 more_01) 20))))))) rfl rfl ?_
          refine E_op0 (v' := (.int .i64 (I64 (2 * (if 100 < (I64 ((List.length tape_00 : Int) + (I64 (Int.tmod (U64 more_01) 20)))) then 100 else (I64 ((List.length tape_00 : Int) + (I64 (Int.tmod (U64 more_01) 20))))))))) rfl rfl ?_
          refine E_op0 (v' := (.bool ((List.length eve_13.1 : Int) == (I64 (2 * (if 100 < (I64 ((List.length tape_00 : Int) + (I64 (Int.tmod (U64 more_01) 20)))) then 100 else (I64 ((List.length tape_00 : Int) + (I64 (Int.tmod (U64 more_01) 20)))))))))) rfl rfl ?_
          refine E_mv (v' := (.bool ((List.length eve_13.1 : Int) == (I64 (2 * (if 100 < (I64 ((List.length tape_00 : Int) + (I64 (Int.tmod (U64 more_01) 20)))) then 100 else (I64 ((List.length tape_00 : Int) + (I64 (Int.tmod (U64 more_01) 20)))))))))) rfl ?_
          refine E_nil ?_
          refine E_nx ?_
          refine E_ret ?_
          cases h
          exact ⟨trivial, _, rfl, (fz_b rfl (.refl _))⟩
/- slices.Equal[[]windlass/api.Event,windlass/api.Event] -/
def fc39 : FC := (.seq (.reg [⟨(some 4), none, .op (.mv (.v (.bool false)))⟩] [])
  (.seq (.seq (.reg [⟨(some 6), none, .op (.mv (.t 0))⟩,
  ⟨(some 7), none, .op (.len .sl (.t 6))⟩,
  ⟨(some 8), none, .op (.mv (.t 1))⟩,
  ⟨(some 9), none, .op (.len .sl (.t 8))⟩,
  ⟨(some 10), none, .op (.bin .none .neq (.t 7) (.t 9))⟩] [])
  (.cond (.t 10)
  (.seq (.reg [⟨(some 4), none, .op (.mv (.v (.bool false)))⟩] [])
  .ret)
  .skip))
  (.seq (.seq (.reg [⟨(some 11), none, .op (.mv (.t 0))⟩,
  ⟨(some 12), none, .op (.len .sl (.t 11))⟩,
  ⟨(some 13), none, .op (.mv (.v (.int .i64 0)))⟩] [])
  (.block 0 (.loop (.seq (.reg [⟨(some 14), none, .op (.bin .none .lss (.t 13) (.t 12))⟩] [])
  (.seq (.cond (.t 14)
  .skip
  (.exit 0))
  (.seq (.block 1 (.seq (.reg [⟨(some 15), none, .op (.mv (.t 13))⟩,
  ⟨(some 5), none, .op (.mv (.t 15))⟩] [])
  (.seq (.reg [⟨(some 16), none, .op (.mv (.t 0))⟩,
  ⟨(some 17), none, .op (.mv (.t 5))⟩,
  ⟨(some 18), none, .op (.iad none (some 2) (.t 16) (.t 17))⟩,
  ⟨(some 19), none, .op (.load (some 2) (.t 18))⟩,
  ⟨(some 20), none, .op (.mv (.t 1))⟩,
  ⟨(some 21), none, .op (.mv (.t 5))⟩,
  ⟨(some 22), none, .op (.iad none (some 2) (.t 20) (.t 21))⟩,
  ⟨(some 23), none, .op (.load (some 2) (.t 22))⟩,
  ⟨(some 24), none, .op (.eqs [.int, .int] .neq (.t 19) (.t 23))⟩] [])
  (.cond (.t 24)
  (.seq (.reg [⟨(some 4), none, .op (.mv (.v (.bool false)))⟩] [])
  .ret)
  .skip))))
  (.reg [⟨(some 25), none, .op (.bin .none .add (.t 13) (.v (.int .i64 1)))⟩,
  ⟨(some 13), none, .op (.mv (.t 25))⟩] [])))))))
  (.seq (.reg [⟨(some 4), none, .op (.mv (.v (.bool true)))⟩] [])
  .ret))))
theorem fn39 : Fn3 Tryd.prog 39 26 [(4, none)] fc39 := ⟨_, _, Tryd.func39, rfl, rfl, rfl, by kernel_rfl⟩
def slices_Equal_s (s1_00 : (List Event)) (s2_01 : (List Event)) : Option Bool :=
  (if ((List.length s1_00 : Int) != (List.length s2_01 : Int)) then (some false) else ((rni (fun (i_2 : Nat) (s_1 : (List Event)) => (((getI s1_00 (i_2 : Int)).bind fun y_3 => ((getI s_1 (i_2 : Int)).bind fun y_4 => (if (!((y_3.Kind == y_4.Kind) && ((y_3.Value == y_4.Value) && true))) then (some (.ret (some false))) else (some (.nxt s_1))))) : Option (Stp (List Event) (Option Bool)))) (List.length s1_00 : Int) s2_01).bind (oc (fun (s_1 : (List Event)) => (some true)))))
theorem slices_Equal_ev {s1_00 : (List Event)} {s2_01 : (List Event)} {r : Bool} (h : slices_Equal_s s1_00 s2_01 = some r) : PureEv Tryd.prog 39 [(.sl false 2 (List.map Event.av s1_00)), (.sl false 2 (List.map Event.av s2_01))] (.bool r) := by
  unfold slices_Equal_s at h
  refine PureEv_end mixed fn39 (by simp) [] 6 ?_
  unfold fc39
  refine E_sq ?_
  refine E_reg ?_
  refine E_mv (v' := (.bool false)) rfl ?_
  refine E_nil ?_
  refine E_nx ?_
  refine E_as ?_
  refine E_sq ?_
  refine E_reg ?_
  refine E_mv (v' := (.sl false 2 (List.map Event.av s1_00))) rfl ?_
  refine E_len rfl ?_
  refine E_mv (v' := (.sl false 2 (List.map Event.av s2_01))) rfl ?_
  refine E_len rfl ?_
  refine E_op0 (v' := (.bool ((List.length s1_00 : Int) != (List.length s2_01 : Int)))) rfl rfl ?_
  refine E_nil ?_
  refine E_nx ?_
  refine E_sq ?_
  refine E_cs (t := ((List.length s1_00 : Int) != (List.length s2_01 : Int))) rfl (fun hb => ?_) (fun hb => ?_)
  · rw [ite_t hb] at h
    refine E_sq ?_
    refine E_reg ?_
    refine E_mv (v' := (.bool false)) rfl ?_
    refine E_nil ?_
    refine E_nx ?_
    refine E_ret ?_
    refine E_thr ?_
    cases h
    exact ⟨trivial, _, rfl, (fz_b rfl (.refl _))⟩
  · rw [ite_f hb] at h
    refine E_skip ?_
    refine E_nx ?_
    refine E_as ?_
    refine E_sq ?_
    refine E_reg ?_
    refine E_mv (v' := (.sl false 2 (List.map Event.av s1_00))) rfl ?_
    refine E_len rfl ?_
    refine E_mv (v' := (.int .i64 0)) rfl ?_
    refine E_nil ?_
    refine E_nx ?_
    refine E_sq ?_
    refine E_rniO (fun s_1 => [(0, (.sl false 2 (List.map Event.av s1_00))), (1, (.sl false 2 (List.map Event.av s_1)))]) (fun s_1 => []) h (by decide) (by decide) (fun _ => ⟨rfl, rfl, rfl, rfl⟩) (wk_aw ⟨(.refl _), (.refl _), (.refl _), (.refl _), trivial⟩) (fun i_2 s_1 c hlt h => ?_) (fun s_1 fr' S' h hw => ?_)
    · refine E_sq ?_
      refine E_reg ?_
      refine E_mv (v' := (.int .i64 (i_2 : Int))) rfl ?_
      refine E_mv (v' := (.int .i64 (i_2 : Int))) rfl ?_
      refine E_nil ?_
      refine E_nx ?_
      refine E_sq ?_
      refine E_reg ?_
      refine E_mv (v' := (.sl false 2 (List.map Event.av s1_00))) rfl ?_
      refine E_mv (v' := (.int .i64 (i_2 : Int))) rfl ?_
      obtain ⟨y_3, hy_3, h⟩ := bd_some h
      refine E_iadF rfl rfl hy_3 ?_
      refine E_op0 (v' := (Event.av y_3)) rfl rfl ?_
      refine E_mv (v' := (.sl false 2 (List.map Event.av s_1))) rfl ?_
      refine E_mv (v' := (.int .i64 (i_2 : Int))) rfl ?_
      obtain ⟨y_4, hy_4, h⟩ := bd_some h
      refine E_iadF rfl rfl hy_4 ?_
      refine E_op0 (v' := (Event.av y_4)) rfl rfl ?_
      refine E_op0 (v' := (.bool (!((y_3.Kind == y_4.Kind) && ((y_3.Value == y_4.Value) && true))))) rfl rfl ?_
      refine E_nil ?_
      refine E_nx ?_
      refine E_cs (t := (!((y_3.Kind == y_4.Kind) && ((y_3.Value == y_4.Value) && true)))) rfl (fun hb => ?_) (fun hb => ?_)
      · rw [ite_t hb] at h
        refine E_sq ?_
        refine E_reg ?_
        refine E_mv (v' := (.bool false)) rfl ?_
        refine E_nil ?_
        refine E_nx ?_
        refine E_ret ?_
        cases h
        refine L_rrO rfl (fun h => ?_)
        refine E_thr ?_
        cases h
        exact ⟨trivial, _, rfl, (fz_b rfl (.refl _))⟩
      · rw [ite_f hb] at h
        refine E_skip ?_
        cases h
        exact L_nn rfl (wk_aw ⟨(.refl _), (.refl _), (.refl _), (.refl _), trivial⟩)
    · refine X_nx hw ?_
      refine E_sq ?_
      refine E_reg ?_
      refine E_mv (v' := (.bool true)) rfl ?_
      refine E_nil ?_
      refine E_nx ?_
      refine E_ret ?_
      cases h
      exact ⟨trivial, _, rfl, (fz_b rfl (.refl _))⟩
/- windlass/trace.Same -/
def fc18 : FC := (.seq (.reg [⟨(some 4), none, .op (.mv (.v (.bool false)))⟩] [])
  (.seq (.reg [⟨(some 5), none, .op (.mv (.t 0))⟩,
  ⟨(some 6), none, .op (.mv (.t 1))⟩,
  ⟨(some 7), none, .call 39 [(.t 5), (.t 6)]⟩,
  ⟨(some 4), none, .op (.mv (.t 7))⟩] [])
  .ret))
theorem fn18 : Fn3 Tryd.prog 18 8 [(4, none)] fc18 := ⟨_, _, Tryd.func18, rfl, rfl, rfl, by kernel_rfl⟩
def trace_Same_s (a_00 : (List Event)) (b_01 : (List Event)) : Option Bool :=
  ((slices_Equal_s a_00 b_01).bind fun equ_1 => (some equ_1))
theorem trace_Same_ev {a_00 : (List Event)} {b_01 : (List Event)} {r : Bool} (h : trace_Same_s a_00 b_01 = some r) : PureEv Tryd.prog 18 [(.sl false 2 (List.map Event.av a_00)), (.sl false 2 (List.map Event.av b_01))] (.bool r) := by
  unfold trace_Same_s at h
  refine PureEv_end mixed fn18 (by simp) [] 6 ?_
  unfold fc18
  refine E_sq ?_
  refine E_reg ?_
  refine E_mv (v' := (.bool false)) rfl ?_
  refine E_nil ?_
  refine E_nx ?_
  refine E_sq ?_
  refine E_reg ?_
  refine E_mv (v' := (.sl false 2 (List.map Event.av a_00))) rfl ?_
  refine E_mv (v' := (.sl false 2 (List.map Event.av b_01))) rfl ?_
  obtain ⟨equ_1, hequ_1, h⟩ := bd_some h
  refine E_callW (slices_Equal_ev  hequ_1) rfl ⟨(.refl _), (.refl _), trivial⟩ (blwL_of ⟨(Event.enc.blws 0), (Event.enc.blws 0), trivial⟩) rfl ?_
  refine E_mv (v' := (.bool equ_1)) rfl ?_
  refine E_nil ?_
  refine E_nx ?_
  refine E_ret ?_
  cases h
  exact ⟨trivial, _, rfl, (fz_b rfl (.refl _))⟩
def windlassref02_Begins_s (a_00 : (List Event)) (b_01 : (List Event)) : Option Bool :=
  (if (decide ((List.length a_00 : Int) > (List.length b_01 : Int))) then (some false) else ((rni (fun (i_2 : Nat) (s_1 : (List Event)) => (((getI a_00 (i_2 : Int)).bind fun y_3 => ((getI s_1 (i_2 : Int)).bind fun y_4 => (if (!((y_3.Kind == y_4.Kind) && ((y_3.Value == y_4.Value) && true))) then (some (.ret (some false))) else (some (.nxt s_1))))) : Option (Stp (List Event) (Option Bool)))) (List.length a_00 : Int) b_01).bind (oc (fun (s_1 : (List Event)) => (some true)))))
theorem windlassref02_Begins_ev {a_00 : (List Event)} {b_01 : (List Event)} {r : Bool} (h : windlassref02_Begins_s a_00 b_01 = some r) : PureEv Tryd.prog 20 [(.sl false 2 (List.map Event.av a_00)), (.sl false 2 (List.map Event.av b_01))] (.bool r) := by
  unfold windlassref02_Begins_s at h
  refine PureEv_end mixed fn20 (by simp) [] 6 ?_
  unfold fc20
  refine E_sq ?_
  refine E_reg ?_
  refine E_mv (v' := (.bool false)) rfl ?_
  refine E_nil ?_
  refine E_nx ?_
  refine E_as ?_
  refine E_sq ?_
  refine E_reg ?_
  refine E_mv (v' := (.sl false 2 (List.map Event.av a_00))) rfl ?_
  refine E_len rfl ?_
  refine E_mv (v' := (.sl false 2 (List.map Event.av b_01))) rfl ?_
  refine E_len rfl ?_
  refine E_op0 (v' := (.bool (decide ((List.length a_00 : Int) > (List.length b_01 : Int))))) rfl rfl ?_
  refine E_nil ?_
  refine E_nx ?_
  refine E_sq ?_
  refine E_cs (t := (decide ((List.length a_00 : Int) > (List.length b_01 : Int)))) rfl (fun hb => ?_) (fun hb => ?_)
  · rw [ite_t hb] at h
    refine E_sq ?_
    refine E_reg ?_
    refine E_mv (v' := (.bool false)) rfl ?_
    refine E_nil ?_
    refine E_nx ?_
    refine E_ret ?_
    refine E_thr ?_
    cases h
    exact ⟨trivial, _, rfl, (fz_b rfl (.refl _))⟩
  · rw [ite_f hb] at h
    refine E_skip ?_
    refine E_nx ?_
    refine E_as ?_
    refine E_sq ?_
    refine E_reg ?_
    refine E_mv (v' := (.sl false 2 (List.map Event.av a_00))) rfl ?_
    refine E_len rfl ?_
    refine E_mv (v' := (.int .i64 0)) rfl ?_
    refine E_nil ?_
    refine E_nx ?_
    refine E_sq ?_
    refine E_rniO (fun s_1 => [(0, (.sl false 2 (List.map Event.av a_00))), (1, (.sl false 2 (List.map Event.av s_1)))]) (fun s_1 => []) h (by decide) (by decide) (fun _ => ⟨rfl, rfl, rfl, rfl⟩) (wk_aw ⟨(.refl _), (.refl _), (.refl _), (.refl _), trivial⟩) (fun i_2 s_1 c hlt h => ?_) (fun s_1 fr' S' h hw => ?_)
    · refine E_sq ?_
      refine E_reg ?_
      refine E_mv (v' := (.int .i64 (i_2 : Int))) rfl ?_
      refine E_mv (v' := (.int .i64 (i_2 : Int))) rfl ?_
      refine E_nil ?_
      refine E_nx ?_
      refine E_sq ?_
      refine E_reg ?_
      refine E_mv (v' := (.sl false 2 (List.map Event.av a_00))) rfl ?_
      refine E_mv (v' := (.int .i64 (i_2 : Int))) rfl ?_
      obtain ⟨y_3, hy_3, h⟩ := bd_some h
      refine E_iadF rfl rfl hy_3 ?_
      refine E_op0 (v' := (Event.av y_3)) rfl rfl ?_
      refine E_mv (v' := (.sl false 2 (List.map Event.av s_1))) rfl ?_
      refine E_mv (v' := (.int .i64 (i_2 : Int))) rfl ?_
      obtain ⟨y_4, hy_4, h⟩ := bd_some h
      refine E_iadF rfl rfl hy_4 ?_
      refine E_op0 (v' := (Event.av y_4)) rfl rfl ?_
      refine E_op0 (v' := (.bool (!((y_3.Kind == y_4.Kind) && ((y_3.Value == y_4.Value) && true))))) rfl rfl ?_
      refine E_nil ?_
      refine E_nx ?_
      refine E_cs (t := (!((y_3.Kind == y_4.Kind) && ((y_3.Value == y_4.Value) && true)))) rfl (fun hb => ?_) (fun hb => ?_)
      · rw [ite_t hb] at h
        refine E_sq ?_
        refine E_reg ?_
        refine E_mv (v' := (.bool false)) rfl ?_
        refine E_nil ?_
        refine E_nx ?_
        refine E_ret ?_
        cases h
        refine L_rrO rfl (fun h => ?_)
        refine E_thr ?_
        cases h
        exact ⟨trivial, _, rfl, (fz_b rfl (.refl _))⟩
      · rw [ite_f hb] at h
        refine E_skip ?_
        cases h
        exact L_nn rfl (wk_aw ⟨(.refl _), (.refl _), (.refl _), (.refl _), trivial⟩)
    · refine X_nx hw ?_
      refine E_sq ?_
      refine E_reg ?_
      refine E_mv (v' := (.bool true)) rfl ?_
      refine E_nil ?_
      refine E_nx ?_
      refine E_ret ?_
      cases h
      exact ⟨trivial, _, rfl, (fz_b rfl (.refl _))⟩
def windlassref02_Same_s (a_00 : (List Event)) (b_01 : (List Event)) : Option Bool :=
  (jp (fun (s_2 : Bool) => (some s_2)) (fun k_1 => (if ((List.length a_00 : Int) == (List.length b_01 : Int)) then ((windlassref02_Begins_s a_00 b_01).bind fun beg_3 => (k_1 beg_3)) else (k_1 false))))
theorem windlassref02_Same_ev {a_00 : (List Event)} {b_01 : (List Event)} {r : Bool} (h : windlassref02_Same_s a_00 b_01 = some r) : PureEv Tryd.prog 16 [(.sl false 2 (List.map Event.av a_00)), (.sl false 2 (List.map Event.av b_01))] (.bool r) := by
  unfold windlassref02_Same_s at h
  refine PureEv_end mixed fn16 (by simp) [] 6 ?_
  unfold fc16
  refine E_sq ?_
  refine E_reg ?_
  refine E_mv (v' := (.bool false)) rfl ?_
  refine E_nil ?_
  refine E_nx ?_
  refine E_jp h (fun s_2 => [(4, (.bool s_2))]) (fun s_2 => []) (fun k_1 h => ?_) (fun s_2 h => ?_)
  · refine E_reg ?_
    refine E_mv (v' := (.sl false 2 (List.map Event.av a_00))) rfl ?_
    refine E_len rfl ?_
    refine E_mv (v' := (.sl false 2 (List.map Event.av b_01))) rfl ?_
    refine E_len rfl ?_
    refine E_op0 (v' := (.bool ((List.length a_00 : Int) == (List.length b_01 : Int)))) rfl rfl ?_
    refine E_mv (v' := (.bool ((List.length a_00 : Int) == (List.length b_01 : Int)))) rfl ?_
    refine E_gsT (b := ((List.length a_00 : Int) == (List.length b_01 : Int))) rfl rfl rfl (fun hb => ?_) (fun hb => ?_)
    · rw [ite_t hb] at h
      refine E_mv (v' := (.sl false 2 (List.map Event.av a_00))) rfl ?_
      refine E_gh rfl ?_
      refine E_mv (v' := (.sl false 2 (List.map Event.av b_01))) rfl ?_
      refine E_gh rfl ?_
      obtain ⟨beg_3, hbeg_3, h⟩ := bd_some h
      refine E_callW (windlassref02_Begins_ev  hbeg_3) rfl ⟨(.refl _), (.refl _), trivial⟩ (blwL_of ⟨(Event.enc.blws 0), (Event.enc.blws 0), trivial⟩) rfl ?_
      refine E_pt rfl rfl ?_
      refine E_mv (v' := (.bool beg_3)) rfl ?_
      refine E_nil ?_
      exact E_jx _ h (wk_aw ⟨(.refl _), trivial⟩)
    · rw [ite_f hb] at h
      refine E_gm rfl ?_
      refine E_gm rfl ?_
      refine E_pf rfl rfl ?_
      refine E_mv (v' := (.bool false)) rfl ?_
      refine E_nil ?_
      exact E_jx _ h (wk_aw ⟨(.refl _), trivial⟩)
  · refine E_ret ?_
    cases h
    exact ⟨trivial, _, rfl, (fz_b rfl (.refl _))⟩
/- windlass/trace.Prefix -/
def fc19 : FC := (.seq (.reg [⟨(some 4), none, .op (.mv (.v (.bool false)))⟩] [])
  (.seq (.reg [⟨(some 5), none, .op (.mv (.t 0))⟩,
  ⟨(some 6), none, .op (.len .sl (.t 5))⟩,
  ⟨(some 7), none, .op (.mv (.t 1))⟩,
  ⟨(some 8), none, .op (.len .sl (.t 7))⟩,
  ⟨(some 9), none, .op (.bin .none .leq (.t 6) (.t 8))⟩,
  ⟨(some 10), none, .op (.mv (.t 9))⟩,
  ⟨(some 11), some (10, true), .op (.mv (.t 0))⟩,
  ⟨(some 12), some (10, true), .op (.mv (.t 1))⟩,
  ⟨(some 13), some (10, true), .op (.mv (.t 0))⟩,
  ⟨(some 14), some (10, true), .op (.len .sl (.t 13))⟩,
  ⟨(some 15), some (10, true), .op (.slc (some 2) (.t 12) none (some (.t 14)) none)⟩,
  ⟨(some 16), some (10, true), .call 39 [(.t 11), (.t 15)]⟩,
  ⟨(some 17), none, .op (.pick (.t 10) (.t 16) (.v (.bool false)))⟩,
  ⟨(some 4), none, .op (.mv (.t 17))⟩] [])
  .ret))
theorem fn19 : Fn3 Tryd.prog 19 18 [(4, none)] fc19 := ⟨_, _, Tryd.func19, rfl, rfl, rfl, by kernel_rfl⟩
def trace_Prefix_s (a_00 : (List Event)) (b_01 : (List Event)) : Option Bool :=
  (jp (fun (s_2 : Bool) => (some s_2)) (fun k_1 => (if (decide ((List.length a_00 : Int) ≤ (List.length b_01 : Int))) then ((subL b_01 0 (List.length a_00 : Int)).bind fun l_3 => ((slices_Equal_s a_00 l_3).bind fun equ_4 => (k_1 equ_4))) else (k_1 false))))
theorem trace_Prefix_ev {a_00 : (List Event)} {b_01 : (List Event)} {r : Bool} (h : trace_Prefix_s a_00 b_01 = some r) : PureEv Tryd.prog 19 [(.sl false 2 (List.map Event.av a_00)), (.sl false 2 (List.map Event.av b_01))] (.bool r) := by
  unfold trace_Prefix_s at h
  refine PureEv_end mixed fn19 (by simp) [] 6 ?_
  unfold fc19
  refine E_sq ?_
  refine E_reg ?_
  refine E_mv (v' := (.bool false)) rfl ?_
  refine E_nil ?_
  refine E_nx ?_
  refine E_jp h (fun s_2 => [(4, (.bool s_2))]) (fun s_2 => []) (fun k_1 h => ?_) (fun s_2 h => ?_)
  · refine E_reg ?_
    refine E_mv (v' := (.sl false 2 (List.map Event.av a_00))) rfl ?_
    refine E_len rfl ?_
    refine E_mv (v' := (.sl false 2 (List.map Event.av b_01))) rfl ?_
    refine E_len rfl ?_
    refine E_op0 (v' := (.bool (decide ((List.length a_00 : Int) ≤ (List.length b_01 : Int))))) rfl rfl ?_
    refine E_mv (v' := (.bool (decide ((List.length a_00 : Int) ≤ (List.length b_01 : Int))))) rfl ?_
    refine E_gsT (b := (decide ((List.length a_00 : Int) ≤ (List.length b_01 : Int)))) rfl rfl rfl (fun hb => ?_) (fun hb => ?_)
    · rw [ite_t hb] at h
      refine E_mv (v' := (.sl false 2 (List.map Event.av a_00))) rfl ?_
      refine E_gh rfl ?_
      refine E_mv (v' := (.sl false 2 (List.map Event.av b_01))) rfl ?_
      refine E_gh rfl ?_
      refine E_mv (v' := (.sl false 2 (List.map Event.av a_00))) rfl ?_
      refine E_gh rfl ?_
      refine E_len rfl ?_
      refine E_gh rfl ?_
      obtain ⟨l_3, hl_3, h⟩ := bd_some h
      refine E_slcL rfl (fun _ => rfl) (fun h0 => hiN_int h0) hl_3 ?_
      refine E_gh rfl ?_
      obtain ⟨equ_4, hequ_4, h⟩ := bd_some h
      refine E_callW (slices_Equal_ev  hequ_4) rfl ⟨(.refl _), (.refl _), trivial⟩ (blwL_of ⟨(Event.enc.blws 0), (Event.enc.blws 0), trivial⟩) rfl ?_
      refine E_pt rfl rfl ?_
      refine E_mv (v' := (.bool equ_4)) rfl ?_
      refine E_nil ?_
      exact E_jx _ h (wk_aw ⟨(.refl _), trivial⟩)
    · rw [ite_f hb] at h
      refine E_gm rfl ?_
      refine E_gm rfl ?_
      refine E_gm rfl ?_
      refine E_gm rfl ?_
      refine E_gm rfl ?_
      refine E_pf rfl rfl ?_
      refine E_mv (v' := (.bool false)) rfl ?_
      refine E_nil ?_
      exact E_jx _ h (wk_aw ⟨(.refl _), trivial⟩)
  · refine E_ret ?_
    cases h
    exact ⟨trivial, _, rfl, (fz_b rfl (.refl _))⟩
/- windlass/windlasslaw02.TraceCompares -/
def fc6 : FC := (.seq (.reg [⟨(some 5), none, .op (.box (.t 2))⟩,
  ⟨(some 6), none, .op (.mv (.v (.bool false)))⟩] [])
  (.seq (.seq (.reg [⟨(some 7), none, .call 11 []⟩,
  ⟨(some 8), none, .op (.un .not (.t 7))⟩] [])
  (.cond (.t 8)
  (.seq (.reg [⟨(some 6), none, .op (.mv (.v (.bool false)))⟩] [])
  .ret)
  .skip))
  (.seq (.reg [⟨(some 9), none, .op (.mv (.t 0))⟩,
  ⟨(some 10), none, .op (.mv (.t 1))⟩,
  ⟨(some 11), none, .call 18 [(.t 9), (.t 10)]⟩,
  ⟨(some 12), none, .op (.mv (.t 0))⟩,
  ⟨(some 13), none, .op (.mv (.t 1))⟩,
  ⟨(some 14), none, .call 16 [(.t 12), (.t 13)]⟩,
  ⟨(some 15), none, .op (.bin .bool .eql (.t 11) (.t 14))⟩,
  ⟨(some 16), none, .op (.mv (.t 15))⟩,
  ⟨(some 17), some (16, true), .op (.mv (.t 0))⟩,
  ⟨(some 18), some (16, true), .op (.mv (.t 1))⟩,
  ⟨(some 19), some (16, true), .call 19 [(.t 17), (.t 18)]⟩,
  ⟨(some 20), some (16, true), .op (.mv (.t 0))⟩,
  ⟨(some 21), some (16, true), .op (.mv (.t 1))⟩,
  ⟨(some 22), some (16, true), .call 20 [(.t 20), (.t 21)]⟩,
  ⟨(some 23), some (16, true), .op (.bin .bool .eql (.t 19) (.t 22))⟩,
  ⟨(some 24), none, .op (.pick (.t 16) (.t 23) (.v (.bool false)))⟩,
  ⟨(some 25), none, .op (.mv (.t 24))⟩,
  ⟨(some 26), some (25, true), .op (.mv (.t 1))⟩,
  ⟨(some 27), some (25, true), .op (.mv (.t 0))⟩,
  ⟨(some 28), some (25, true), .call 19 [(.t 26), (.t 27)]⟩,
  ⟨(some 29), some (25, true), .op (.mv (.t 1))⟩,
  ⟨(some 30), some (25, true), .op (.mv (.t 0))⟩,
  ⟨(some 31), some (25, true), .call 20 [(.t 29), (.t 30)]⟩,
  ⟨(some 32), some (25, true), .op (.bin .bool .eql (.t 28) (.t 31))⟩,
  ⟨(some 33), none, .op (.pick (.t 25) (.t 32) (.v (.bool false)))⟩,
  ⟨(some 34), none, .op (.mv (.t 33))⟩,
  ⟨(some 35), some (34, true), .op (.mv (.t 0))⟩,
  ⟨(some 36), some (34, true), .op (.mv (.t 0))⟩,
  ⟨(some 37), some (34, true), .call 18 [(.t 35), (.t 36)]⟩,
  ⟨(some 38), none, .op (.pick (.t 34) (.t 37) (.v (.bool false)))⟩,
  ⟨(some 39), none, .op (.mv (.t 38))⟩,
  ⟨(some 40), some (39, true), .op (.load (some 2) (.t 5))⟩,
  ⟨(some 41), some (39, true), .call 21 [(.t 40)]⟩,
  ⟨(some 42), some (39, true), .op (.fad 0 (.t 5))⟩,
  ⟨(some 43), some (39, true), .op (.load none (.t 42))⟩,
  ⟨(some 44), some (39, true), .op (.bin .none .eql (.t 43) (.v (.int .i64 1)))⟩,
  ⟨(some 45), some (39, true), .op (.mv (.t 44))⟩,
  ⟨(some 46), some (45, false), .op (.fad 0 (.t 5))⟩,
  ⟨(some 47), some (45, false), .op (.load none (.t 46))⟩,
  ⟨(some 48), some (45, false), .op (.bin .none .eql (.t 47) (.v (.int .i64 2)))⟩,
  ⟨(some 49), some (39, true), .op (.pick (.t 45) (.v (.bool true)) (.t 48))⟩,
  ⟨(some 50), some (39, true), .op (.bin .bool .eql (.t 41) (.t 49))⟩,
  ⟨(some 51), none, .op (.pick (.t 39) (.t 50) (.v (.bool false)))⟩,
  ⟨(some 6), none, .op (.mv (.t 51))⟩] [(32, 34)])
  .ret)))
theorem fn6 : Fn3 Tryd.prog 6 52 [(6, none)] fc6 := ⟨_, _, Tryd.func6, rfl, rfl, rfl, by kernel_rfl⟩
def windlasslaw02_TraceCompares_s (a_00 : (List Event)) (b_01 : (List Event)) (e_02 : End) : Option Bool :=
  (windlasslaw02_first_s.bind fun fir_1 => (if (!fir_1) then (some false) else (jp (fun (s_3 : Bool) => (some s_3)) (fun k_2 => ((trace_Same_s a_00 b_01).bind fun sam_4 => ((windlassref02_Same_s a_00 b_01).bind fun sam_5 => (if (sam_4 == sam_5) then ((trace_Prefix_s a_00 b_01).bind fun pre_6 => ((windlassref02_Begins_s a_00 b_01).bind fun beg_7 => (if (pre_6 == beg_7) then ((trace_Prefix_s b_01 a_00).bind fun pre_8 => ((windlassref02_Begins_s b_01 a_00).bind fun beg_9 => (if (pre_8 == beg_9) then ((trace_Same_s a_00 a_00).bind fun sam_10 => (if sam_10 then ((trace_Ended_s e_02).bind fun vend_11 => (if (e_02.Kind == 1) then (k_2 (vend_11 == true)) else (k_2 (vend_11 == (e_02.Kind == 2))))) else (k_2 false))) else (k_2 false)))) else (k_2 false)))) else (k_2 false))))))))
theorem windlasslaw02_TraceCompares_ev {a_00 : (List Event)} {b_01 : (List Event)} {e_02 : End} {r : Bool} (h : windlasslaw02_TraceCompares_s a_00 b_01 e_02 = some r) : PureEv Tryd.prog 6 [(.sl false 2 (List.map Event.av a_00)), (.sl false 2 (List.map Event.av b_01)), (End.av e_02)] (.bool r) := by
  unfold windlasslaw02_TraceCompares_s at h
  refine PureEv_end mixed fn6 (by simp) [] 6 ?_
  unfold fc6
  refine E_sq ?_
  refine E_reg ?_
  refine E_op0 (v' := (.cptr (End.av e_02).cells 0)) rfl rfl ?_
  refine E_mv (v' := (.bool false)) rfl ?_
  refine E_nil ?_
  refine E_nx ?_
  refine E_as ?_
  refine E_sq ?_
  refine E_reg ?_
  obtain ⟨fir_1, hfir_1, h⟩ := bd_some h
  refine E_callW (windlasslaw02_first_ev  hfir_1) rfl trivial (blwL_of trivial) rfl ?_
  refine E_op0 (v' := (.bool (!fir_1))) rfl rfl ?_
  refine E_nil ?_
  refine E_nx ?_
  refine E_sq ?_
  refine E_cs (t := (!fir_1)) rfl (fun hb => ?_) (fun hb => ?_)
  · rw [ite_t hb] at h
    refine E_sq ?_
    refine E_reg ?_
    refine E_mv (v' := (.bool false)) rfl ?_
    refine E_nil ?_
    refine E_nx ?_
    refine E_ret ?_
    refine E_thr ?_
    cases h
    exact ⟨trivial, _, rfl, (fz_b rfl (.refl _))⟩
  · rw [ite_f hb] at h
    refine E_skip ?_
    refine E_nx ?_
    refine E_jp h (fun s_3 => [(6, (.bool s_3))]) (fun s_3 => []) (fun k_2 h => ?_) (fun s_3 h => ?_)
    · refine E_regp ?_
      refine E_mv (v' := (.sl false 2 (List.map Event.av a_00))) rfl ?_
      refine E_mv (v' := (.sl false 2 (List.map Event.av b_01))) rfl ?_
      obtain ⟨sam_4, hsam_4, h⟩ := bd_some h
      refine E_callW (trace_Same_ev  hsam_4) rfl ⟨(.refl _), (.refl _), trivial⟩ (blwL_of ⟨(Event.enc.blws 0), (Event.enc.blws 0), trivial⟩) rfl ?_
      refine E_mv (v' := (.sl false 2 (List.map Event.av a_00))) rfl ?_
      refine E_mv (v' := (.sl false 2 (List.map Event.av b_01))) rfl ?_
      obtain ⟨sam_5, hsam_5, h⟩ := bd_some h
      refine E_callW (windlassref02_Same_ev  hsam_5) rfl ⟨(.refl _), (.refl _), trivial⟩ (blwL_of ⟨(Event.enc.blws 0), (Event.enc.blws 0), trivial⟩) rfl ?_
      refine E_op0 (v' := (.bool (sam_4 == sam_5))) rfl rfl ?_
      refine E_mv (v' := (.bool (sam_4 == sam_5))) rfl ?_
      refine E_gsT (b := (sam_4 == sam_5)) rfl rfl rfl (fun hb => ?_) (fun hb => ?_)
      · rw [ite_t hb] at h
        refine E_mv (v' := (.sl false 2 (List.map Event.av a_00))) rfl ?_
        refine E_gh rfl ?_
        refine E_mv (v' := (.sl false 2 (List.map Event.av b_01))) rfl ?_
        refine E_gh rfl ?_
        obtain ⟨pre_6, hpre_6, h⟩ := bd_some h
        refine E_callW (trace_Prefix_ev  hpre_6) rfl ⟨(.refl _), (.refl _), trivial⟩ (blwL_of ⟨(Event.enc.blws 0), (Event.enc.blws 0), trivial⟩) rfl ?_
        refine E_gh rfl ?_
        refine E_mv (v' := (.sl false 2 (List.map Event.av a_00))) rfl ?_
        refine E_gh rfl ?_
        refine E_mv (v' := (.sl false 2 (List.map Event.av b_01))) rfl ?_
        refine E_gh rfl ?_
        obtain ⟨beg_7, hbeg_7, h⟩ := bd_some h
        refine E_callW (windlassref02_Begins_ev  hbeg_7) rfl ⟨(.refl _), (.refl _), trivial⟩ (blwL_of ⟨(Event.enc.blws 0), (Event.enc.blws 0), trivial⟩) rfl ?_
        refine E_gh rfl ?_
        refine E_op0 (v' := (.bool (pre_6 == beg_7))) rfl rfl ?_
        refine E_pt rfl rfl ?_
        refine E_mv (v' := (.bool (pre_6 == beg_7))) rfl ?_
        refine E_gsT (b := (pre_6 == beg_7)) rfl rfl rfl (fun hb => ?_) (fun hb => ?_)
        · rw [ite_t hb] at h
          refine E_mv (v' := (.sl false 2 (List.map Event.av b_01))) rfl ?_
          refine E_gh rfl ?_
          refine E_mv (v' := (.sl false 2 (List.map Event.av a_00))) rfl ?_
          refine E_gh rfl ?_
          obtain ⟨pre_8, hpre_8, h⟩ := bd_some h
          refine E_callW (trace_Prefix_ev  hpre_8) rfl ⟨(.refl _), (.refl _), trivial⟩ (blwL_of ⟨(Event.enc.blws 0), (Event.enc.blws 0), trivial⟩) rfl ?_
          refine E_gh rfl ?_
          refine E_mv (v' := (.sl false 2 (List.map Event.av b_01))) rfl ?_
          refine E_gh rfl ?_
          refine E_mv (v' := (.sl false 2 (List.map Event.av a_00))) rfl ?_
          refine E_gh rfl ?_
          obtain ⟨beg_9, hbeg_9, h⟩ := bd_some h
          refine E_callW (windlassref02_Begins_ev  hbeg_9) rfl ⟨(.refl _), (.refl _), trivial⟩ (blwL_of ⟨(Event.enc.blws 0), (Event.enc.blws 0), trivial⟩) rfl ?_
          refine E_gh rfl ?_
          refine E_op0 (v' := (.bool (pre_8 == beg_9))) rfl rfl ?_
          refine E_pt rfl rfl ?_
          refine E_mv (v' := (.bool (pre_8 == beg_9))) rfl ?_
          refine E_gsT (b := (pre_8 == beg_9)) rfl rfl rfl (fun hb => ?_) (fun hb => ?_)
          · rw [ite_t hb] at h
            refine E_mv (v' := (.sl false 2 (List.map Event.av a_00))) rfl ?_
            refine E_gh rfl ?_
            refine E_mv (v' := (.sl false 2 (List.map Event.av a_00))) rfl ?_
            refine E_gh rfl ?_
            obtain ⟨sam_10, hsam_10, h⟩ := bd_some h
            refine E_callW (trace_Same_ev  hsam_10) rfl ⟨(.refl _), (.refl _), trivial⟩ (blwL_of ⟨(Event.enc.blws 0), (Event.enc.blws 0), trivial⟩) rfl ?_
            refine E_pt rfl rfl ?_
            refine E_mv (v' := (.bool sam_10)) rfl ?_
            refine E_gsT (b := sam_10) rfl rfl rfl (fun hb => ?_) (fun hb => ?_)
            · rw [ite_t hb] at h
              refine E_op0 (v' := (End.av e_02)) rfl rfl ?_
              refine E_gh rfl ?_
              obtain ⟨vend_11, hvend_11, h⟩ := bd_some h
              refine E_callW (trace_Ended_ev  hvend_11) rfl ⟨(.refl _), trivial⟩ (blwL_of ⟨(End.enc.blw _ 0), trivial⟩) rfl ?_
              refine E_gh rfl ?_
              refine E_op0 (v' := (.cptr (End.av e_02).cells 0)) rfl rfl ?_
              refine E_gh rfl ?_
              refine E_op0 (v' := (.int .i64 e_02.Kind)) rfl rfl ?_
              refine E_gh rfl ?_
              refine E_op0 (v' := (.bool (e_02.Kind == 1))) rfl rfl ?_
              refine E_gh rfl ?_
              refine E_mv (v' := (.bool (e_02.Kind == 1))) rfl ?_
              refine E_gsT (b := (e_02.Kind == 1)) rfl rfl rfl (fun hb => ?_) (fun hb => ?_)
              · rw [ite_f hb] at h
                refine E_op0 (v' := (.cptr (End.av e_02).cells 0)) rfl rfl ?_
                refine E_gh rfl ?_
                refine E_op0 (v' := (.int .i64 e_02.Kind)) rfl rfl ?_
                refine E_gh rfl ?_
                refine E_op0 (v' := (.bool (e_02.Kind == 2))) rfl rfl ?_
                refine E_gh rfl ?_
                refine E_pf rfl rfl ?_
                refine E_gh rfl ?_
                refine E_op0 (v' := (.bool (vend_11 == (e_02.Kind == 2)))) rfl rfl ?_
                refine E_pt rfl rfl ?_
                refine E_mv (v' := (.bool (vend_11 == (e_02.Kind == 2)))) rfl ?_
                refine E_nil ?_
                refine And.intro (by simp [okLog, nthL, okPair, hp, fpOf]) ?_
                exact E_jx _ h (wk_aw ⟨(.refl _), trivial⟩)
              · rw [ite_t hb] at h
                refine E_gm rfl ?_
                refine E_gm rfl ?_
                refine E_gh rfl ?_
                refine E_pt rfl rfl ?_
                refine E_gh rfl ?_
                refine E_op0 (v' := (.bool (vend_11 == true))) rfl rfl ?_
                refine E_pt rfl rfl ?_
                refine E_mv (v' := (.bool (vend_11 == true))) rfl ?_
                refine E_nil ?_
                refine And.intro (by simp [okLog, nthL, okPair, hp, fpOf]) ?_
                exact E_jx _ h (wk_aw ⟨(.refl _), trivial⟩)
            · rw [ite_f hb] at h
              refine E_gm rfl ?_
              refine E_gm rfl ?_
              refine E_gm rfl ?_
              refine E_gm rfl ?_
              refine E_gm rfl ?_
              refine E_gz rfl ?_
              refine E_gz rfl ?_
              refine E_gz rfl ?_
              refine E_gm rfl ?_
              refine E_gm rfl ?_
              refine E_pf rfl rfl ?_
              refine E_mv (v' := (.bool false)) rfl ?_
              refine E_nil ?_
              refine And.intro (by simp [okLog, nthL, okPair, hp, fpOf]) ?_
              exact E_jx _ h (wk_aw ⟨(.refl _), trivial⟩)
          · rw [ite_f hb] at h
            refine E_gm rfl ?_
            refine E_gm rfl ?_
            refine E_pf rfl rfl ?_
            refine E_mv (v' := (.bool false)) rfl ?_
            refine E_gm rfl ?_
            refine E_gm rfl ?_
            refine E_gm rfl ?_
            refine E_gm rfl ?_
            refine E_gm rfl ?_
            refine E_gm rfl ?_
            refine E_gz rfl ?_
            refine E_gz rfl ?_
            refine E_gz rfl ?_
            refine E_gm rfl ?_
            refine E_gm rfl ?_
            refine E_pf rfl rfl ?_
            refine E_mv (v' := (.bool false)) rfl ?_
            refine E_nil ?_
            refine And.intro (by simp [okLog, nthL, okPair, hp, fpOf]) ?_
            exact E_jx _ h (wk_aw ⟨(.refl _), trivial⟩)
        · rw [ite_f hb] at h
          refine E_gm rfl ?_
          refine E_gm rfl ?_
          refine E_gm rfl ?_
          refine E_gm rfl ?_
          refine E_gm rfl ?_
          refine E_gm rfl ?_
          refine E_pf rfl rfl ?_
          refine E_mv (v' := (.bool false)) rfl ?_
          refine E_gm rfl ?_
          refine E_gm rfl ?_
          refine E_gm rfl ?_
          refine E_pf rfl rfl ?_
          refine E_mv (v' := (.bool false)) rfl ?_
          refine E_gm rfl ?_
          refine E_gm rfl ?_
          refine E_gm rfl ?_
          refine E_gm rfl ?_
          refine E_gm rfl ?_
          refine E_gm rfl ?_
          refine E_gz rfl ?_
          refine E_gz rfl ?_
          refine E_gz rfl ?_
          refine E_gm rfl ?_
          refine E_gm rfl ?_
          refine E_pf rfl rfl ?_
          refine E_mv (v' := (.bool false)) rfl ?_
          refine E_nil ?_
          refine And.intro (by simp [okLog, nthL, okPair, hp, fpOf]) ?_
          exact E_jx _ h (wk_aw ⟨(.refl _), trivial⟩)
      · rw [ite_f hb] at h
        refine E_gm rfl ?_
        refine E_gm rfl ?_
        refine E_gm rfl ?_
        refine E_gm rfl ?_
        refine E_gm rfl ?_
        refine E_gm rfl ?_
        refine E_pf rfl rfl ?_
        refine E_mv (v' := (.bool false)) rfl ?_
        refine E_gm rfl ?_
        refine E_gm rfl ?_
        refine E_gm rfl ?_
        refine E_gm rfl ?_
        refine E_gm rfl ?_
        refine E_gm rfl ?_
        refine E_gm rfl ?_
        refine E_pf rfl rfl ?_
        refine E_mv (v' := (.bool false)) rfl ?_
        refine E_gm rfl ?_
        refine E_gm rfl ?_
        refine E_gm rfl ?_
        refine E_pf rfl rfl ?_
        refine E_mv (v' := (.bool false)) rfl ?_
        refine E_gm rfl ?_
        refine E_gm rfl ?_
        refine E_gm rfl ?_
        refine E_gm rfl ?_
        refine E_gm rfl ?_
        refine E_gm rfl ?_
        refine E_gz rfl ?_
        refine E_gz rfl ?_
        refine E_gz rfl ?_
        refine E_gm rfl ?_
        refine E_gm rfl ?_
        refine E_pf rfl rfl ?_
        refine E_mv (v' := (.bool false)) rfl ?_
        refine E_nil ?_
        refine And.intro (by simp [okLog, nthL, okPair, hp, fpOf]) ?_
        exact E_jx _ h (wk_aw ⟨(.refl _), trivial⟩)
    · refine E_ret ?_
      cases h
      exact ⟨trivial, _, rfl, (fz_b rfl (.refl _))⟩
/- windlass/windlasslaw02.TraceOrder -/
def fc7 : FC := (.seq (.reg [⟨(some 3), none, .op (.box (.t 1))⟩,
  ⟨(some 4), none, .op (.mv (.v (.bool false)))⟩] [])
  (.seq (.seq (.reg [⟨(some 10), none, .call 11 []⟩,
  ⟨(some 11), none, .op (.un .not (.t 10))⟩] [])
  (.cond (.t 11)
  (.seq (.reg [⟨(some 4), none, .op (.mv (.v (.bool false)))⟩] [])
  .ret)
  .skip))
  (.seq (.reg [⟨(some 12), none, .op (.iad (some 2) none (.t 3) (.v (.int .i64 0)))⟩,
  ⟨(some 13), none, .op (.load none (.t 12))⟩,
  ⟨(some 14), none, .op (.cint .u64 (.t 13))⟩,
  ⟨(some 15), none, .op (.mv (.t 0))⟩,
  ⟨(some 16), none, .op (.len .sl (.t 15))⟩,
  ⟨(some 17), none, .op (.bin .none .add (.t 16) (.v (.int .i64 1)))⟩,
  ⟨(some 18), none, .op (.cint .u64 (.t 17))⟩,
  ⟨(some 19), none, .op (.bin .none .rem (.t 14) (.t 18))⟩,
  ⟨(some 20), none, .op (.cint .i64 (.t 19))⟩,
  ⟨(some 21), none, .op (.iad (some 2) none (.t 3) (.v (.int .i64 1)))⟩,
  ⟨(some 22), none, .op (.load none (.t 21))⟩,
  ⟨(some 23), none, .op (.cint .u64 (.t 22))⟩,
  ⟨(some 24), none, .op (.mv (.t 0))⟩,
  ⟨(some 25), none, .op (.len .sl (.t 24))⟩,
  ⟨(some 26), none, .op (.bin .none .add (.t 25) (.v (.int .i64 1)))⟩,
  ⟨(some 27), none, .op (.cint .u64 (.t 26))⟩,
  ⟨(some 28), none, .op (.bin .none .rem (.t 23) (.t 27))⟩,
  ⟨(some 29), none, .op (.cint .i64 (.t 28))⟩,
  ⟨(some 5), none, .op (.mv (.t 20))⟩,
  ⟨(some 6), none, .op (.mv (.t 29))⟩] [])
  (.seq (.reg [⟨(some 30), none, .op (.mv (.t 0))⟩,
  ⟨(some 31), none, .op (.mv (.t 5))⟩,
  ⟨(some 32), none, .op (.slc (some 2) (.t 30) none (some (.t 31)) none)⟩,
  ⟨(some 33), none, .op (.mv (.t 0))⟩,
  ⟨(some 34), none, .op (.mv (.t 6))⟩,
  ⟨(some 35), none, .op (.slc (some 2) (.t 33) none (some (.t 34)) none)⟩,
  ⟨(some 7), none, .op (.mv (.t 32))⟩,
  ⟨(some 8), none, .op (.mv (.t 35))⟩] [])
  (.seq (.reg [⟨(some 36), none, .op (.mv (.t 7))⟩,
  ⟨(some 37), none, .op (.mv (.t 8))⟩,
  ⟨(some 38), none, .call 19 [(.t 36), (.t 37)]⟩,
  ⟨(some 39), none, .op (.mv (.t 38))⟩,
  ⟨(some 40), some (39, true), .op (.mv (.t 8))⟩,
  ⟨(some 41), some (39, true), .op (.mv (.t 7))⟩,
  ⟨(some 42), some (39, true), .call 19 [(.t 40), (.t 41)]⟩,
  ⟨(some 43), none, .op (.pick (.t 39) (.t 42) (.v (.bool false)))⟩,
  ⟨(some 9), none, .op (.mv (.t 43))⟩] [])
  (.seq (.reg [⟨(some 44), none, .op (.mv (.t 0))⟩,
  ⟨(some 45), none, .op (.mv (.t 0))⟩,
  ⟨(some 46), none, .call 19 [(.t 44), (.t 45)]⟩,
  ⟨(some 47), none, .op (.mv (.t 46))⟩,
  ⟨(some 48), some (47, true), .op (.mv (.t 7))⟩,
  ⟨(some 49), some (47, true), .op (.mv (.t 0))⟩,
  ⟨(some 50), some (47, true), .call 19 [(.t 48), (.t 49)]⟩,
  ⟨(some 51), none, .op (.pick (.t 47) (.t 50) (.v (.bool false)))⟩,
  ⟨(some 52), none, .op (.mv (.t 51))⟩,
  ⟨(some 53), some (52, true), .op (.mv (.t 8))⟩,
  ⟨(some 54), some (52, true), .op (.mv (.t 0))⟩,
  ⟨(some 55), some (52, true), .call 19 [(.t 53), (.t 54)]⟩,
  ⟨(some 56), none, .op (.pick (.t 52) (.t 55) (.v (.bool false)))⟩,
  ⟨(some 57), none, .op (.mv (.t 56))⟩,
  ⟨(some 58), some (57, true), .op (.mv (.t 7))⟩,
  ⟨(some 59), some (57, true), .op (.mv (.t 8))⟩,
  ⟨(some 60), some (57, true), .call 19 [(.t 58), (.t 59)]⟩,
  ⟨(some 61), some (57, true), .op (.mv (.t 60))⟩,
  ⟨(some 62), some (61, false), .op (.mv (.t 8))⟩,
  ⟨(some 63), some (61, false), .op (.mv (.t 7))⟩,
  ⟨(some 64), some (61, false), .call 19 [(.t 62), (.t 63)]⟩,
  ⟨(some 65), some (57, true), .op (.pick (.t 61) (.v (.bool true)) (.t 64))⟩,
  ⟨(some 66), none, .op (.pick (.t 57) (.t 65) (.v (.bool false)))⟩,
  ⟨(some 67), none, .op (.mv (.t 66))⟩,
  ⟨(some 68), some (67, true), .op (.mv (.t 9))⟩,
  ⟨(some 69), some (67, true), .op (.mv (.t 7))⟩,
  ⟨(some 70), some (67, true), .op (.mv (.t 8))⟩,
  ⟨(some 71), some (67, true), .call 18 [(.t 69), (.t 70)]⟩,
  ⟨(some 72), some (67, true), .op (.bin .bool .eql (.t 68) (.t 71))⟩,
  ⟨(some 73), none, .op (.pick (.t 67) (.t 72) (.v (.bool false)))⟩,
  ⟨(some 74), none, .op (.mv (.t 73))⟩,
  ⟨(some 75), some (74, true), .op (.mv (.t 0))⟩,
  ⟨(some 76), some (74, true), .call 19 [(.v .nils), (.t 75)]⟩,
  ⟨(some 77), none, .op (.pick (.t 74) (.t 76) (.v (.bool false)))⟩,
  ⟨(some 4), none, .op (.mv (.t 77))⟩] [])
  .ret))))))
theorem fn7 : Fn3 Tryd.prog 7 78 [(4, none)] fc7 := ⟨_, _, Tryd.func7, rfl, rfl, rfl, by kernel_rfl⟩
end Go.Proofs.YtekkiedpcgaddaaDoor
