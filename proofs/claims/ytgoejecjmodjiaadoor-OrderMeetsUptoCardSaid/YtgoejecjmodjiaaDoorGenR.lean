/- What the functions compute, and that they do (printed by wip/gen/gen.py), part 2. -/
import Derived.Test.YtgoejecjmodjiaaDoorGenRa
namespace Go.Proofs.YtgoejecjmodjiaaDoor
open Go Go.Ab
set_option maxRecDepth 20000
set_option maxHeartbeats 2000000
set_option linter.unusedVariables false
set_option linter.unusedSimpArgs false
def fc34 : FC := (.seq (.reg [oO 1 (.box (.t 0)), oO 2 (.mv (.v .nils))] []) (.seq (.reg [oO 3 (.mv (.v .nils))] []) (.seq (.seq (.reg [oO 4 (.fad 0 (.t 1)), oO 5 (.load none (.t 4))] []) (.block 0 (.seq (.seq (.reg [oO 7 (.bin .none .eql (.t 5) (.v (.int .u8 2))), oO 6 (.mv (.t 7))] []) (.cond (.t 6) .skip (.seq (.reg [oO 8 (.bin .none .eql (.t 5) (.v (.int .u8 5))), oO 6 (.mv (.t 8))] []) (.cond (.t 6) .skip (.seq (.reg [oO 9 (.bin .none .eql (.t 5) (.v (.int .u8 7))), oO 6 (.mv (.t 9))] []) (.cond (.t 6) .skip (.seq (.reg [oO 10 (.bin .none .eql (.t 5) (.v (.int .u8 9))), oO 6 (.mv (.t 10))] []) (.cond (.t 6) .skip (.seq (.reg [oO 11 (.bin .none .eql (.t 5) (.v (.int .u8 12))), oO 6 (.mv (.t 11))] []) (.cond (.t 6) .skip (.seq (.reg [oO 12 (.bin .none .eql (.t 5) (.v (.int .u8 14))), oO 6 (.mv (.t 12))] []) (.cond (.t 6) .skip (.seq (.reg [oO 13 (.bin .none .eql (.t 5) (.v (.int .u8 17))), oO 6 (.mv (.t 13))] []) (.cond (.t 6) .skip (.reg [oO 14 (.bin .none .eql (.t 5) (.v (.int .u8 18))), oO 6 (.mv (.t 14))] []))))))))))))))) (.cond (.t 6) (.reg [oO 15 (.mv (.t 3)), oO 16 (.fad 4 (.t 1)), oO 17 (.load none (.t 16)), oO 18 (.bsl none [(.int .i64 0)] 1 [(0, 1, (.t 17))]), ⟨(some 19), none, .call 64 [(.t 15), (.t 18)]⟩, oO 3 (.mv (.t 19))] []) (.seq (.seq (.reg [oO 21 (.bin .none .eql (.t 5) (.v (.int .u8 3))), oO 20 (.mv (.t 21))] []) (.cond (.t 20) .skip (.reg [oO 22 (.bin .none .eql (.t 5) (.v (.int .u8 8))), oO 20 (.mv (.t 22))] []))) (.cond (.t 20) (.reg [oO 23 (.mv (.t 3)), oO 24 (.fad 4 (.t 1)), oO 25 (.load none (.t 24)), oO 26 (.fad 5 (.t 1)), oO 27 (.load none (.t 26)), oO 28 (.bsl none [(.int .i64 0)] 2 [(0, 1, (.t 25)), (1, 1, (.t 27))]), ⟨(some 29), none, .call 64 [(.t 23), (.t 28)]⟩, oO 3 (.mv (.t 29))] []) (.seq (.seq (.reg [oO 31 (.bin .none .eql (.t 5) (.v (.int .u8 11))), oO 30 (.mv (.t 31))] []) (.cond (.t 30) .skip (.reg [oO 32 (.bin .none .eql (.t 5) (.v (.int .u8 13))), oO 30 (.mv (.t 32))] []))) (.cond (.t 30) (.reg [oO 33 (.mv (.t 3)), oO 34 (.fad 9 (.t 1)), oO 35 (.load none (.t 34)), ⟨(some 36), none, .call 64 [(.t 33), (.t 35)]⟩, oO 3 (.mv (.t 36))] []) .skip)))))))) (.seq (.reg [oO 37 (.mv (.t 3)), oO 2 (.mv (.t 37))] []) .ret))))
theorem fn34 : Fn3 Tryd.prog 34 38 [(2, none)] fc34 := ⟨_, _, Tryd.func34, rfl, rfl, rfl, by kernel_rfl⟩
def windlassref07_Reads_s (n_00 : Node) : Option (List Int) :=
  (jp (fun (s_2 : (List Int)) => (some s_2)) (fun k_1 => (jp (fun (s_4 : Bool) => (if s_4 then ((windlassref07_add_n_o_s ([n_00.A])).bind fun (add_5 : (List Int)) => (k_1 add_5)) else (jp (fun (s_7 : Bool) => (if s_7 then ((windlassref07_add_n_o_s ([n_00.A, n_00.B])).bind fun (add_8 : (List Int)) => (k_1 add_8)) else (jp (fun (s_10 : Bool) => (if s_10 then ((windlassref07_add_n_o_s n_00.Args).bind fun (add_11 : (List Int)) => (k_1 add_11)) else (k_1 []))) (fun k_9 => (if (n_00.Op == 11) then (k_9 (n_00.Op == 11)) else (k_9 (n_00.Op == 13))))))) (fun k_6 => (if (n_00.Op == 3) then (k_6 (n_00.Op == 3)) else (k_6 (n_00.Op == 8))))))) (fun k_3 => (if (n_00.Op == 2) then (k_3 (n_00.Op == 2)) else (if (n_00.Op == 5) then (k_3 (n_00.Op == 5)) else (if (n_00.Op == 7) then (k_3 (n_00.Op == 7)) else (if (n_00.Op == 9) then (k_3 (n_00.Op == 9)) else (if (n_00.Op == 12) then (k_3 (n_00.Op == 12)) else (if (n_00.Op == 14) then (k_3 (n_00.Op == 14)) else (if (n_00.Op == 17) then (k_3 (n_00.Op == 17)) else (k_3 (n_00.Op == 18)))))))))))))
theorem windlassref07_Reads_ev {n_00 : Node} {r : (List Int)} (h : windlassref07_Reads_s n_00 = some r) : PureEv Tryd.prog 34 [(Node.av n_00)] (.sl false 1 (List.map (avI .i64) r)) := by
 unfold windlassref07_Reads_s at h
 refine PureEv_end mixed fn34 (by simp) [] 6 ?_
 unfold fc34
 refine E_sq (E_reg (E_op0 (v' := (.cptr (Node.av n_00).cells 0)) rfl rfl (E_mv (v' := .nils) rfl (E_nil (E_nx (E_sq (E_reg (E_mv (v' := .nils) rfl (E_nil (E_nx (E_as (E_sq (E_reg (E_op0 (v' := (.cptr (Node.av n_00).cells 0)) rfl rfl (E_op0 (v' := .int .u8 n_00.Op) rfl rfl ?_)))))))))))))))
 refine E_nil (E_nx ?_)
 refine E_jp h (fun s_2 => [(3, (.ref 0 1 0 (List.length s_2) none))]) (fun s_2 => [.arr 1 (flat (avI .i64) s_2)]) (fun k_1 h => ?_) (fun s_2 h => ?_)
 {
 refine E_block (E_as (E_sq (E_reg (E_op0 (v' := .bool (n_00.Op == 2)) rfl rfl (E_mv (v' := .bool (n_00.Op == 2)) rfl (E_nil (E_nx ?_)))))))
 refine E_jp h (fun s_4 => [(1, (.cptr (Node.av n_00).cells 0)), (3, .nils), (5, (.int .u8 n_00.Op)), (6, (.bool s_4))]) (fun s_4 => []) (fun k_3 h => ?_) (fun s_4 h => ?_)
 {
 refine E_cs (t := (n_00.Op == 2)) rfl (fun hb => ?_) (fun hb => ?_)
 {
 rw [ite_t hb] at h
 refine E_skip ?_
 exact E_jx _ h (wk_aw ⟨(.refl _), (.refl _), (.refl _), (.refl _), trivial⟩)
 }
 {
 rw [ite_f hb] at h
 refine E_sq (E_reg (E_op0 (v' := .bool (n_00.Op == 5)) rfl rfl (E_mv (v' := .bool (n_00.Op == 5)) rfl (E_nil (E_nx ?_)))))
 refine E_cs (t := (n_00.Op == 5)) rfl (fun hb => ?_) (fun hb => ?_)
 {
 rw [ite_t hb] at h
 refine E_skip ?_
 exact E_jx _ h (wk_aw ⟨(.refl _), (.refl _), (.refl _), (.refl _), trivial⟩)
 }
 {
 rw [ite_f hb] at h
 refine E_sq (E_reg (E_op0 (v' := .bool (n_00.Op == 7)) rfl rfl (E_mv (v' := .bool (n_00.Op == 7)) rfl (E_nil (E_nx ?_)))))
 refine E_cs (t := (n_00.Op == 7)) rfl (fun hb => ?_) (fun hb => ?_)
 {
 rw [ite_t hb] at h
 refine E_skip ?_
 exact E_jx _ h (wk_aw ⟨(.refl _), (.refl _), (.refl _), (.refl _), trivial⟩)
 }
 {
 rw [ite_f hb] at h
 refine E_sq (E_reg (E_op0 (v' := .bool (n_00.Op == 9)) rfl rfl (E_mv (v' := .bool (n_00.Op == 9)) rfl (E_nil (E_nx ?_)))))
 refine E_cs (t := (n_00.Op == 9)) rfl (fun hb => ?_) (fun hb => ?_)
 {
 rw [ite_t hb] at h
 refine E_skip ?_
 exact E_jx _ h (wk_aw ⟨(.refl _), (.refl _), (.refl _), (.refl _), trivial⟩)
 }
 {
 rw [ite_f hb] at h
 refine E_sq (E_reg (E_op0 (v' := .bool (n_00.Op == 12)) rfl rfl (E_mv (v' := .bool (n_00.Op == 12)) rfl (E_nil (E_nx ?_)))))
 refine E_cs (t := (n_00.Op == 12)) rfl (fun hb => ?_) (fun hb => ?_)
 {
 rw [ite_t hb] at h
 refine E_skip ?_
 exact E_jx _ h (wk_aw ⟨(.refl _), (.refl _), (.refl _), (.refl _), trivial⟩)
 }
 {
 rw [ite_f hb] at h
 refine E_sq (E_reg (E_op0 (v' := .bool (n_00.Op == 14)) rfl rfl (E_mv (v' := .bool (n_00.Op == 14)) rfl (E_nil (E_nx ?_)))))
 refine E_cs (t := (n_00.Op == 14)) rfl (fun hb => ?_) (fun hb => ?_)
 {
 rw [ite_t hb] at h
 refine E_skip ?_
 exact E_jx _ h (wk_aw ⟨(.refl _), (.refl _), (.refl _), (.refl _), trivial⟩)
 }
 {
 rw [ite_f hb] at h
 refine E_sq (E_reg (E_op0 (v' := .bool (n_00.Op == 17)) rfl rfl (E_mv (v' := .bool (n_00.Op == 17)) rfl (E_nil (E_nx ?_)))))
 refine E_cs (t := (n_00.Op == 17)) rfl (fun hb => ?_) (fun hb => ?_)
 {
 rw [ite_t hb] at h
 refine E_skip ?_
 exact E_jx _ h (wk_aw ⟨(.refl _), (.refl _), (.refl _), (.refl _), trivial⟩)
 }
 {
 rw [ite_f hb] at h
 refine E_reg (E_op0 (v' := .bool (n_00.Op == 18)) rfl rfl (E_mv (v' := .bool (n_00.Op == 18)) rfl (E_nil ?_)))
 exact E_jx _ h (wk_aw ⟨(.refl _), (.refl _), (.refl _), (.refl _), trivial⟩)
 }
 }
 }
 }
 }
 }
 }
 }
 {
 refine E_cs (t := s_4) rfl (fun hb => ?_) (fun hb => ?_)
 {
 rw [ite_t hb] at h
 refine E_reg (E_mv (v' := .nils) rfl (E_op0 (v' := (.cptr (Node.av n_00).cells 4)) rfl rfl (E_op0 (v' := .int .i64 n_00.A) rfl rfl (E_opw (v' := (.sl true 1 (List.map (avI .i64) [n_00.A]))) rfl (.refl _) rfl ?_))))
 obtain ⟨add_5, hadd_5, h⟩ := bd_some h
 refine E_callF (S' := [.arr 1 (flat (avI .i64) add_5)]) (r' := (.ref 0 1 0 (List.length add_5) none)) (windlassref07_add_n_o_ev hadd_5) [] rfl rfl (by decide) rfl rfl trivial ⟨(fr_outN rfl rfl (.refl ((encI .i64).blwf 0 _)) rfl), trivial⟩ trivial rfl (.cons (rn_b rfl) (.cons (.base ((encI .i64).blws 0) .ex) (.nil (Nat.zero_le _)))) (fo_ref rfl rfl rfl rfl) ?_
 refine E_mv (v' := (.ref 0 1 0 (List.length add_5) none)) rfl (E_nil (E_bln ?_))
 exact E_jx _ h (wk_rn [some (0, 0)] rfl (Nat.le_of_ble_eq_true rfl) ⟨(rn_ob rfl rfl (.refl ((encI .i64).blwf 0 _)) rfl), trivial⟩ ⟨(rn_refL (encI .i64) rfl rfl rfl), trivial⟩)
 }
 {
 rw [ite_f hb] at h
 refine E_as (E_sq (E_reg (E_op0 (v' := .bool (n_00.Op == 3)) rfl rfl (E_mv (v' := .bool (n_00.Op == 3)) rfl (E_nil (E_nx ?_))))))
 refine E_jp h (fun s_7 => [(1, (.cptr (Node.av n_00).cells 0)), (3, .nils), (5, (.int .u8 n_00.Op)), (20, (.bool s_7))]) (fun s_7 => []) (fun k_6 h => ?_) (fun s_7 h => ?_)
 {
 refine E_cs (t := (n_00.Op == 3)) rfl (fun hb => ?_) (fun hb => ?_)
 {
 rw [ite_t hb] at h
 refine E_skip ?_
 exact E_jx _ h (wk_aw ⟨(.refl _), (.refl _), (.refl _), (.refl _), trivial⟩)
 }
 {
 rw [ite_f hb] at h
 refine E_reg (E_op0 (v' := .bool (n_00.Op == 8)) rfl rfl (E_mv (v' := .bool (n_00.Op == 8)) rfl (E_nil ?_)))
 exact E_jx _ h (wk_aw ⟨(.refl _), (.refl _), (.refl _), (.refl _), trivial⟩)
 }
 }
 {
 refine E_cs (t := s_7) rfl (fun hb => ?_) (fun hb => ?_)
 {
 rw [ite_t hb] at h
 refine E_reg (E_mv (v' := .nils) rfl (E_op0 (v' := (.cptr (Node.av n_00).cells 4)) rfl rfl (E_op0 (v' := .int .i64 n_00.A) rfl rfl (E_op0 (v' := (.cptr (Node.av n_00).cells 5)) rfl rfl (E_op0 (v' := .int .i64 n_00.B) rfl rfl (E_opw (v' := (.sl true 1 (List.map (avI .i64) [n_00.A, n_00.B]))) rfl (.refl _) rfl ?_))))))
 obtain ⟨add_8, hadd_8, h⟩ := bd_some h
 refine E_callF (S' := [.arr 1 (flat (avI .i64) add_8)]) (r' := (.ref 0 1 0 (List.length add_8) none)) (windlassref07_add_n_o_ev hadd_8) [] rfl rfl (by decide) rfl rfl trivial ⟨(fr_outN rfl rfl (.refl ((encI .i64).blwf 0 _)) rfl), trivial⟩ trivial rfl (.cons (rn_b rfl) (.cons (.base ((encI .i64).blws 0) .ex) (.nil (Nat.zero_le _)))) (fo_ref rfl rfl rfl rfl) ?_
 refine E_mv (v' := (.ref 0 1 0 (List.length add_8) none)) rfl (E_nil (E_bln ?_))
 exact E_jx _ h (wk_rn [some (0, 0)] rfl (Nat.le_of_ble_eq_true rfl) ⟨(rn_ob rfl rfl (.refl ((encI .i64).blwf 0 _)) rfl), trivial⟩ ⟨(rn_refL (encI .i64) rfl rfl rfl), trivial⟩)
 }
 {
 rw [ite_f hb] at h
 refine E_as (E_sq (E_reg (E_op0 (v' := .bool (n_00.Op == 11)) rfl rfl (E_mv (v' := .bool (n_00.Op == 11)) rfl (E_nil (E_nx ?_))))))
 refine E_jp h (fun s_10 => [(1, (.cptr (Node.av n_00).cells 0)), (3, .nils), (30, (.bool s_10))]) (fun s_10 => []) (fun k_9 h => ?_) (fun s_10 h => ?_)
 {
 refine E_cs (t := (n_00.Op == 11)) rfl (fun hb => ?_) (fun hb => ?_)
 {
 rw [ite_t hb] at h
 refine E_skip ?_
 exact E_jx _ h (wk_aw ⟨(.refl _), (.refl _), (.refl _), trivial⟩)
 }
 {
 rw [ite_f hb] at h
 refine E_reg (E_op0 (v' := .bool (n_00.Op == 13)) rfl rfl (E_mv (v' := .bool (n_00.Op == 13)) rfl (E_nil ?_)))
 exact E_jx _ h (wk_aw ⟨(.refl _), (.refl _), (.refl _), trivial⟩)
 }
 }
 {
 refine E_cs (t := s_10) rfl (fun hb => ?_) (fun hb => ?_)
 {
 rw [ite_t hb] at h
 refine E_reg (E_mv (v' := .nils) rfl (E_op0 (v' := (.cptr (Node.av n_00).cells 9)) rfl rfl (E_op0 (v' := (.sl false 1 (List.map (avI .i64) n_00.Args))) rfl rfl ?_)))
 obtain ⟨add_11, hadd_11, h⟩ := bd_some h
 refine E_callF (S' := [.arr 1 (flat (avI .i64) add_11)]) (r' := (.ref 0 1 0 (List.length add_11) none)) (windlassref07_add_n_o_ev hadd_11) [] rfl rfl (by decide) rfl rfl trivial ⟨(fr_outN rfl rfl (.refl ((encI .i64).blwf 0 _)) rfl), trivial⟩ trivial rfl (.cons (rn_b rfl) (.cons (.base ((encI .i64).blws 0) (.refl _)) (.nil (Nat.zero_le _)))) (fo_ref rfl rfl rfl rfl) ?_
 refine E_mv (v' := (.ref 0 1 0 (List.length add_11) none)) rfl (E_nil (E_bln ?_))
 exact E_jx _ h (wk_rn [some (0, 0)] rfl (Nat.le_of_ble_eq_true rfl) ⟨(rn_ob rfl rfl (.refl ((encI .i64).blwf 0 _)) rfl), trivial⟩ ⟨(rn_refL (encI .i64) rfl rfl rfl), trivial⟩)
 }
 {
 rw [ite_f hb] at h
 refine E_skip (E_bln ?_)
 exact E_jx _ h (wk_rn [none] rfl (Nat.le_of_ble_eq_true rfl) ⟨(rn_obN rfl rfl rfl), trivial⟩ ⟨(rn_nil rfl), trivial⟩)
 }
 }
 }
 }
 }
 }
 }
 {
 refine E_sq (E_reg (E_mv (v' := (.ref 0 1 0 (List.length s_2) none)) rfl (E_mv (v' := (.ref 0 1 0 (List.length s_2) none)) rfl (E_nil (E_nx (E_ret ?_))))))
 cases h
 exact ⟨trivial, _, rfl, (fz_ref (encI .i64) (Nat.zero_le _) rfl)⟩
 }
end Go.Proofs.YtgoejecjmodjiaaDoor

