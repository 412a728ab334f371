/- What the functions compute, and that they do (printed by wip/gen/gen.py), part 1. -/
import Derived.Test.YtgoejecjmodjiaaDoorWlH2
import Derived.Test.YtgoejecjmodjiaaDoorRows
import Derived.Test.YtgoejecjmodjiaaDoorLvS4
namespace Go.Proofs.YtgoejecjmodjiaaDoor
open Go Go.Ab
set_option maxRecDepth 20000
set_option maxHeartbeats 2000000
set_option linter.unusedVariables false
set_option linter.unusedSimpArgs false
def fc10 : FC := (.seq (.reg [oO 2 (.box (.t 0)), oO 4 (.mv (.v .nils)), oO 5 (.mv (.v (.int .i64 0)))] []) (.seq (.seq (.reg [oO 9 (.load (some 1) (.t 2)), oO 10 (.mv (.t 1)), ⟨(some 11), none, .call 28 [(.t 9), (.t 10)]⟩, oO 6 (.mv (.t 11))] []) (.seq (.reg [oO 12 (.mv (.t 6)), oO 13 (.bin .none .neq (.t 12) (.v (.int .i64 0)))] []) (.cond (.t 13) (.seq (.reg [oO 14 (.mv (.t 6)), oO 4 (.mv (.v .nils)), oO 5 (.mv (.t 14))] []) .ret) .skip))) (.seq (.reg [oO 16 (.fad 0 (.t 2)), oO 17 (.load none (.t 16)), oO 18 (.mv (.t 1)), oO 19 (.iad none (some 8) (.t 17) (.t 18)), ⟨(some 20), none, .call 29 [(.t 19)]⟩, oO 15 (.mv (.t 20)), oO 21 (.ext 0 (.t 15)), oO 22 (.ext 1 (.t 15)), oO 7 (.mv (.t 21)), oO 8 (.mv (.t 22))] []) (.seq (.reg [oO 23 (.mv (.t 7)), ⟨(some 24), none, .call 30 [(.t 23)]⟩, oO 4 (.mv (.t 24)), oO 5 (.mv (.v (.int .i64 0)))] []) .ret))))
theorem fn10 : Fn3 Tryd.prog 10 25 [(4, none), (5, none)] fc10 := ⟨_, _, Tryd.func10, rfl, rfl, rfl, by kernel_rfl⟩
def live_In_s (fuel : Nat) (g_00 : Graphs) (f_01 : Int) : Option ((List (List Int)) × Int) :=
  ((live_check_s g_00 f_01).bind fun che_1 => (if (che_1 != 0) then (some ([], che_1)) else ((getI g_00.Funcs f_01).bind fun y_2 => ((live_solve_s fuel y_2).bind fun sol_3 => ((live_lists_s fuel sol_3.1).bind fun lis_4 => (some (lis_4, 0)))))))
theorem live_In_ev {fuel : Nat} {g_00 : Graphs} {f_01 : Int} {r : ((List (List Int)) × Int)} (h : live_In_s fuel g_00 f_01 = some r) : PureEv Tryd.prog 10 [(Graphs.av g_00), (.int .i64 f_01)] (.tup [(.sl false 1 (List.map (avL 1 (avI .i64)) r.1)), (.int .i64 r.2)]) := by
 unfold live_In_s at h
 refine PureEv_end mixed fn10 (by simp) [] 6 ?_
 unfold fc10
 refine E_sq (E_reg (E_op0 (v' := (.cptr (Graphs.av g_00).cells 0)) rfl rfl (E_mv (v' := .nils) rfl (E_mv (v' := .int .i64 0) rfl (E_nil (E_nx (E_as (E_sq (E_reg (E_op0 (v' := (Graphs.av g_00)) rfl rfl (E_mv (v' := .int .i64 f_01) rfl ?_)))))))))))
 obtain ⟨che_1, hche_1, h⟩ := bd_some h
 refine E_callW (live_check_ev  hche_1) rfl ⟨(.refl _), (.refl _), trivial⟩ (blwL_of ⟨(Graphs.enc.blw _ 0), rfl, trivial⟩) rfl (E_mv (v' := .int .i64 che_1) rfl (E_nil (E_nx (E_as (E_sq (E_reg (E_mv (v' := .int .i64 che_1) rfl (E_op0 (v' := .bool (che_1 != 0)) rfl rfl (E_nil (E_nx (E_sq ?_)))))))))))
 refine E_cs (t := (che_1 != 0)) rfl (fun hb => ?_) (fun hb => ?_)
 {
 rw [ite_t hb] at h
 refine E_sq (E_reg (E_mv (v' := .int .i64 che_1) rfl (E_mv (v' := .nils) rfl (E_mv (v' := .int .i64 che_1) rfl (E_nil (E_nx (E_ret (E_thr ?_))))))))
 cases h
 exact ⟨trivial, _, rfl, (fz_tup ⟨(fz_b rfl .nil), (fz_b rfl (.refl _)), trivial⟩)⟩
 }
 {
 rw [ite_f hb] at h
 refine E_skip (E_nx (E_sq (E_reg (E_op0 (v' := (.cptr (Graphs.av g_00).cells 0)) rfl rfl (E_op0 (v' := .sl false 8 (List.map Graph.av g_00.Funcs)) rfl rfl (E_mv (v' := .int .i64 f_01) rfl ?_))))))
 obtain ⟨y_2, hy_2, h⟩ := bd_some h
 refine E_iadF rfl rfl hy_2 ?_
 obtain ⟨sol_3, hsol_3, h⟩ := bd_some h
 refine E_callW (live_solve_ev (fuel := fuel)  hsol_3) rfl ⟨(.refl _), trivial⟩ (blwL_of ⟨(cp_blw (Graph.enc.blw _ 0)), trivial⟩) (tup_blw ⟨((encP Bits_Set.enc).blws 0), ((encP Bits_Set.enc).blws 0), trivial⟩) (E_mv (v' := (.tup [(.sl false 1 (List.map (avP Bits_Set.av) sol_3.1)), (.sl false 1 (List.map (avP Bits_Set.av) sol_3.2))])) rfl (E_op0 (v' := (.sl false 1 (List.map (avP Bits_Set.av) sol_3.1))) rfl rfl (E_op0 (v' := (.sl false 1 (List.map (avP Bits_Set.av) sol_3.2))) rfl rfl (E_mv (v' := (.sl false 1 (List.map (avP Bits_Set.av) sol_3.1))) rfl (E_mv (v' := (.sl false 1 (List.map (avP Bits_Set.av) sol_3.2))) rfl (E_nil (E_nx (E_sq (E_reg (E_mv (v' := (.sl false 1 (List.map (avP Bits_Set.av) sol_3.1))) rfl ?_))))))))))
 obtain ⟨lis_4, hlis_4, h⟩ := bd_some h
 refine E_callW (live_lists_ev (fuel := fuel)  hlis_4) rfl ⟨(.refl _), trivial⟩ (blwL_of ⟨((encP Bits_Set.enc).blws 0), trivial⟩) ((encL (encI .i64) 1).blws 0) (E_mv (v' := (.sl false 1 (List.map (avL 1 (avI .i64)) lis_4))) rfl (E_mv (v' := .int .i64 0) rfl (E_nil (E_nx (E_ret ?_)))))
 cases h
 exact ⟨trivial, _, rfl, (fz_tup ⟨(fz_b ((encL (encI .i64) 1).blws 0) (.refl _)), (fz_b rfl (.refl _)), trivial⟩)⟩
 }
def fc11 : FC := (.seq (.reg [oO 2 (.box (.t 0)), oO 4 (.mv (.v .nils)), oO 5 (.mv (.v (.int .i64 0)))] []) (.seq (.seq (.reg [oO 9 (.load (some 1) (.t 2)), oO 10 (.mv (.t 1)), ⟨(some 11), none, .call 28 [(.t 9), (.t 10)]⟩, oO 6 (.mv (.t 11))] []) (.seq (.reg [oO 12 (.mv (.t 6)), oO 13 (.bin .none .neq (.t 12) (.v (.int .i64 0)))] []) (.cond (.t 13) (.seq (.reg [oO 14 (.mv (.t 6)), oO 4 (.mv (.v .nils)), oO 5 (.mv (.t 14))] []) .ret) .skip))) (.seq (.reg [oO 16 (.fad 0 (.t 2)), oO 17 (.load none (.t 16)), oO 18 (.mv (.t 1)), oO 19 (.iad none (some 8) (.t 17) (.t 18)), ⟨(some 20), none, .call 29 [(.t 19)]⟩, oO 15 (.mv (.t 20)), oO 21 (.ext 0 (.t 15)), oO 22 (.ext 1 (.t 15)), oO 7 (.mv (.t 21)), oO 8 (.mv (.t 22))] []) (.seq (.reg [oO 23 (.mv (.t 8)), ⟨(some 24), none, .call 30 [(.t 23)]⟩, oO 4 (.mv (.t 24)), oO 5 (.mv (.v (.int .i64 0)))] []) .ret))))
theorem fn11 : Fn3 Tryd.prog 11 25 [(4, none), (5, none)] fc11 := ⟨_, _, Tryd.func11, rfl, rfl, rfl, by kernel_rfl⟩
def live_Out_s (fuel : Nat) (g_00 : Graphs) (f_01 : Int) : Option ((List (List Int)) × Int) :=
  ((live_check_s g_00 f_01).bind fun che_1 => (if (che_1 != 0) then (some ([], che_1)) else ((getI g_00.Funcs f_01).bind fun y_2 => ((live_solve_s fuel y_2).bind fun sol_3 => ((live_lists_s fuel sol_3.2).bind fun lis_4 => (some (lis_4, 0)))))))
theorem live_Out_ev {fuel : Nat} {g_00 : Graphs} {f_01 : Int} {r : ((List (List Int)) × Int)} (h : live_Out_s fuel g_00 f_01 = some r) : PureEv Tryd.prog 11 [(Graphs.av g_00), (.int .i64 f_01)] (.tup [(.sl false 1 (List.map (avL 1 (avI .i64)) r.1)), (.int .i64 r.2)]) := by
 unfold live_Out_s at h
 refine PureEv_end mixed fn11 (by simp) [] 6 ?_
 unfold fc11
 refine E_sq (E_reg (E_op0 (v' := (.cptr (Graphs.av g_00).cells 0)) rfl rfl (E_mv (v' := .nils) rfl (E_mv (v' := .int .i64 0) rfl (E_nil (E_nx (E_as (E_sq (E_reg (E_op0 (v' := (Graphs.av g_00)) rfl rfl (E_mv (v' := .int .i64 f_01) rfl ?_)))))))))))
 obtain ⟨che_1, hche_1, h⟩ := bd_some h
 refine E_callW (live_check_ev  hche_1) rfl ⟨(.refl _), (.refl _), trivial⟩ (blwL_of ⟨(Graphs.enc.blw _ 0), rfl, trivial⟩) rfl (E_mv (v' := .int .i64 che_1) rfl (E_nil (E_nx (E_as (E_sq (E_reg (E_mv (v' := .int .i64 che_1) rfl (E_op0 (v' := .bool (che_1 != 0)) rfl rfl (E_nil (E_nx (E_sq ?_)))))))))))
 refine E_cs (t := (che_1 != 0)) rfl (fun hb => ?_) (fun hb => ?_)
 {
 rw [ite_t hb] at h
 refine E_sq (E_reg (E_mv (v' := .int .i64 che_1) rfl (E_mv (v' := .nils) rfl (E_mv (v' := .int .i64 che_1) rfl (E_nil (E_nx (E_ret (E_thr ?_))))))))
 cases h
 exact ⟨trivial, _, rfl, (fz_tup ⟨(fz_b rfl .nil), (fz_b rfl (.refl _)), trivial⟩)⟩
 }
 {
 rw [ite_f hb] at h
 refine E_skip (E_nx (E_sq (E_reg (E_op0 (v' := (.cptr (Graphs.av g_00).cells 0)) rfl rfl (E_op0 (v' := .sl false 8 (List.map Graph.av g_00.Funcs)) rfl rfl (E_mv (v' := .int .i64 f_01) rfl ?_))))))
 obtain ⟨y_2, hy_2, h⟩ := bd_some h
 refine E_iadF rfl rfl hy_2 ?_
 obtain ⟨sol_3, hsol_3, h⟩ := bd_some h
 refine E_callW (live_solve_ev (fuel := fuel)  hsol_3) rfl ⟨(.refl _), trivial⟩ (blwL_of ⟨(cp_blw (Graph.enc.blw _ 0)), trivial⟩) (tup_blw ⟨((encP Bits_Set.enc).blws 0), ((encP Bits_Set.enc).blws 0), trivial⟩) (E_mv (v' := (.tup [(.sl false 1 (List.map (avP Bits_Set.av) sol_3.1)), (.sl false 1 (List.map (avP Bits_Set.av) sol_3.2))])) rfl (E_op0 (v' := (.sl false 1 (List.map (avP Bits_Set.av) sol_3.1))) rfl rfl (E_op0 (v' := (.sl false 1 (List.map (avP Bits_Set.av) sol_3.2))) rfl rfl (E_mv (v' := (.sl false 1 (List.map (avP Bits_Set.av) sol_3.1))) rfl (E_mv (v' := (.sl false 1 (List.map (avP Bits_Set.av) sol_3.2))) rfl (E_nil (E_nx (E_sq (E_reg (E_mv (v' := (.sl false 1 (List.map (avP Bits_Set.av) sol_3.2))) rfl ?_))))))))))
 obtain ⟨lis_4, hlis_4, h⟩ := bd_some h
 refine E_callW (live_lists_ev (fuel := fuel)  hlis_4) rfl ⟨(.refl _), trivial⟩ (blwL_of ⟨((encP Bits_Set.enc).blws 0), trivial⟩) ((encL (encI .i64) 1).blws 0) (E_mv (v' := (.sl false 1 (List.map (avL 1 (avI .i64)) lis_4))) rfl (E_mv (v' := .int .i64 0) rfl (E_nil (E_nx (E_ret ?_)))))
 cases h
 exact ⟨trivial, _, rfl, (fz_tup ⟨(fz_b ((encL (encI .i64) 1).blws 0) (.refl _)), (fz_b rfl (.refl _)), trivial⟩)⟩
 }
end Go.Proofs.YtgoejecjmodjiaaDoor

