/- What the functions compute, and that they do (printed by wip/gen/gen.py), part 1. -/
import Derived.Test.YtgoejecjmodjiaaDoorWlH2
import Derived.Test.YtgoejecjmodjiaaDoorRows
import Derived.Test.YtgoejecjmodjiaaDoorLvS4
namespace Go.Proofs.YtgoejecjmodjiaaDoor
open Go Go.Ab
set_option maxRecDepth 20000
set_option maxHeartbeats 2000000
set_option linter.unusedVariables false
set_option linter.unusedSimpArgs false
/- windlass/live.In -/
def fc10 : FC := (.seq (.reg [⟨(some 2), none, .op (.box (.t 0))⟩,
  ⟨(some 4), none, .op (.mv (.v .nils))⟩,
  ⟨(some 5), none, .op (.mv (.v (.int .i64 0)))⟩] [])
  (.seq (.seq (.reg [⟨(some 9), none, .op (.load (some 1) (.t 2))⟩,
  ⟨(some 10), none, .op (.mv (.t 1))⟩,
  ⟨(some 11), none, .call 28 [(.t 9), (.t 10)]⟩,
  ⟨(some 6), none, .op (.mv (.t 11))⟩] [])
  (.seq (.reg [⟨(some 12), none, .op (.mv (.t 6))⟩,
  ⟨(some 13), none, .op (.bin .none .neq (.t 12) (.v (.int .i64 0)))⟩] [])
  (.cond (.t 13)
  (.seq (.reg [⟨(some 14), none, .op (.mv (.t 6))⟩,
  ⟨(some 4), none, .op (.mv (.v .nils))⟩,
  ⟨(some 5), none, .op (.mv (.t 14))⟩] [])
  .ret)
  .skip)))
  (.seq (.reg [⟨(some 16), none, .op (.fad 0 (.t 2))⟩,
  ⟨(some 17), none, .op (.load none (.t 16))⟩,
  ⟨(some 18), none, .op (.mv (.t 1))⟩,
  ⟨(some 19), none, .op (.iad none (some 8) (.t 17) (.t 18))⟩,
  ⟨(some 20), none, .call 29 [(.t 19)]⟩,
  ⟨(some 15), none, .op (.mv (.t 20))⟩,
  ⟨(some 21), none, .op (.ext 0 (.t 15))⟩,
  ⟨(some 22), none, .op (.ext 1 (.t 15))⟩,
  ⟨(some 7), none, .op (.mv (.t 21))⟩,
  ⟨(some 8), none, .op (.mv (.t 22))⟩] [])
  (.seq (.reg [⟨(some 23), none, .op (.mv (.t 7))⟩,
  ⟨(some 24), none, .call 30 [(.t 23)]⟩,
  ⟨(some 4), none, .op (.mv (.t 24))⟩,
  ⟨(some 5), none, .op (.mv (.v (.int .i64 0)))⟩] [])
  .ret))))
theorem fn10 : Fn3 Tryd.prog 10 25 [(4, none), (5, none)] fc10 := ⟨_, _, Tryd.func10, rfl, rfl, rfl, by kernel_rfl⟩
def live_In_s (fuel : Nat) (g_00 : Graphs) (f_01 : Int) : Option ((List (List Int)) × Int) :=
  ((live_check_s g_00 f_01).bind fun che_1 => (if (che_1 != 0) then (some ([], che_1)) else ((getI g_00.Funcs f_01).bind fun y_2 => ((live_solve_s fuel y_2).bind fun sol_3 => ((live_lists_s fuel sol_3.1).bind fun lis_4 => (some (lis_4, 0)))))))
theorem live_In_ev {fuel : Nat} {g_00 : Graphs} {f_01 : Int} {r : ((List (List Int)) × Int)} (h : live_In_s fuel g_00 f_01 = some r) : PureEv Tryd.prog 10 [(Graphs.av g_00), (.int .i64 f_01)] (.tup [(.sl false 1 (List.map (avL 1 (avI .i64)) r.1)), (.int .i64 r.2)]) := by
  unfold live_In_s at h
  refine PureEv_end mixed fn10 (by simp) [] 6 ?_
  unfold fc10
  refine E_sq ?_
  refine E_reg ?_
  refine E_op0 (v' := (.cptr (Graphs.av g_00).cells 0)) rfl rfl ?_
  refine E_mv (v' := .nils) rfl ?_
  refine E_mv (v' := (.int .i64 0)) rfl ?_
  refine E_nil ?_
  refine E_nx ?_
  refine E_as ?_
  refine E_sq ?_
  refine E_reg ?_
  refine E_op0 (v' := (Graphs.av g_00)) rfl rfl ?_
  refine E_mv (v' := (.int .i64 f_01)) rfl ?_
  obtain ⟨che_1, hche_1, h⟩ := bd_some h
  refine E_callW (live_check_ev  hche_1) rfl ⟨(.refl _), (.refl _), trivial⟩ (blwL_of ⟨(Graphs.enc.blw _ 0), rfl, trivial⟩) rfl ?_
  refine E_mv (v' := (.int .i64 che_1)) rfl ?_
  refine E_nil ?_
  refine E_nx ?_
  refine E_as ?_
  refine E_sq ?_
  refine E_reg ?_
  refine E_mv (v' := (.int .i64 che_1)) rfl ?_
  refine E_op0 (v' := (.bool (che_1 != 0))) rfl rfl ?_
  refine E_nil ?_
  refine E_nx ?_
  refine E_sq ?_
  refine E_cs (t := (che_1 != 0)) rfl (fun hb => ?_) (fun hb => ?_)
  · rw [ite_t hb] at h
    refine E_sq ?_
    refine E_reg ?_
    refine E_mv (v' := (.int .i64 che_1)) rfl ?_
    refine E_mv (v' := .nils) rfl ?_
    refine E_mv (v' := (.int .i64 che_1)) rfl ?_
    refine E_nil ?_
    refine E_nx ?_
    refine E_ret ?_
    refine E_thr ?_
    cases h
    exact ⟨trivial, _, rfl, (fz_tup ⟨(fz_b rfl .nil), (fz_b rfl (.refl _)), trivial⟩)⟩
  · rw [ite_f hb] at h
    refine E_skip ?_
    refine E_nx ?_
    refine E_sq ?_
    refine E_reg ?_
    refine E_op0 (v' := (.cptr (Graphs.av g_00).cells 0)) rfl rfl ?_
    refine E_op0 (v' := (.sl false 8 (List.map Graph.av g_00.Funcs))) rfl rfl ?_
    refine E_mv (v' := (.int .i64 f_01)) rfl ?_
    obtain ⟨y_2, hy_2, h⟩ := bd_some h
    refine E_iadF rfl rfl hy_2 ?_
    obtain ⟨sol_3, hsol_3, h⟩ := bd_some h
    refine E_callW (live_solve_ev (fuel := fuel)  hsol_3) rfl ⟨(.refl _), trivial⟩ (blwL_of ⟨(cp_blw (Graph.enc.blw _ 0)), trivial⟩) (tup_blw ⟨((encP Bits_Set.enc).blws 0), ((encP Bits_Set.enc).blws 0), trivial⟩) ?_
    refine E_mv (v' := (.tup [(.sl false 1 (List.map (avP Bits_Set.av) sol_3.1)), (.sl false 1 (List.map (avP Bits_Set.av) sol_3.2))])) rfl ?_
    refine E_op0 (v' := (.sl false 1 (List.map (avP Bits_Set.av) sol_3.1))) rfl rfl ?_
    refine E_op0 (v' := (.sl false 1 (List.map (avP Bits_Set.av) sol_3.2))) rfl rfl ?_
    refine E_mv (v' := (.sl false 1 (List.map (avP Bits_Set.av) sol_3.1))) rfl ?_
    refine E_mv (v' := (.sl false 1 (List.map (avP Bits_Set.av) sol_3.2))) rfl ?_
    refine E_nil ?_
    refine E_nx ?_
    refine E_sq ?_
    refine E_reg ?_
    refine E_mv (v' := (.sl false 1 (List.map (avP Bits_Set.av) sol_3.1))) rfl ?_
    obtain ⟨lis_4, hlis_4, h⟩ := bd_some h
    refine E_callW (live_lists_ev (fuel := fuel)  hlis_4) rfl ⟨(.refl _), trivial⟩ (blwL_of ⟨((encP Bits_Set.enc).blws 0), trivial⟩) ((encL (encI .i64) 1).blws 0) ?_
    refine E_mv (v' := (.sl false 1 (List.map (avL 1 (avI .i64)) lis_4))) rfl ?_
    refine E_mv (v' := (.int .i64 0)) rfl ?_
    refine E_nil ?_
    refine E_nx ?_
    refine E_ret ?_
    cases h
    exact ⟨trivial, _, rfl, (fz_tup ⟨(fz_b ((encL (encI .i64) 1).blws 0) (.refl _)), (fz_b rfl (.refl _)), trivial⟩)⟩
/- windlass/live.Out -/
def fc11 : FC := (.seq (.reg [⟨(some 2), none, .op (.box (.t 0))⟩,
  ⟨(some 4), none, .op (.mv (.v .nils))⟩,
  ⟨(some 5), none, .op (.mv (.v (.int .i64 0)))⟩] [])
  (.seq (.seq (.reg [⟨(some 9), none, .op (.load (some 1) (.t 2))⟩,
  ⟨(some 10), none, .op (.mv (.t 1))⟩,
  ⟨(some 11), none, .call 28 [(.t 9), (.t 10)]⟩,
  ⟨(some 6), none, .op (.mv (.t 11))⟩] [])
  (.seq (.reg [⟨(some 12), none, .op (.mv (.t 6))⟩,
  ⟨(some 13), none, .op (.bin .none .neq (.t 12) (.v (.int .i64 0)))⟩] [])
  (.cond (.t 13)
  (.seq (.reg [⟨(some 14), none, .op (.mv (.t 6))⟩,
  ⟨(some 4), none, .op (.mv (.v .nils))⟩,
  ⟨(some 5), none, .op (.mv (.t 14))⟩] [])
  .ret)
  .skip)))
  (.seq (.reg [⟨(some 16), none, .op (.fad 0 (.t 2))⟩,
  ⟨(some 17), none, .op (.load none (.t 16))⟩,
  ⟨(some 18), none, .op (.mv (.t 1))⟩,
  ⟨(some 19), none, .op (.iad none (some 8) (.t 17) (.t 18))⟩,
  ⟨(some 20), none, .call 29 [(.t 19)]⟩,
  ⟨(some 15), none, .op (.mv (.t 20))⟩,
  ⟨(some 21), none, .op (.ext 0 (.t 15))⟩,
  ⟨(some 22), none, .op (.ext 1 (.t 15))⟩,
  ⟨(some 7), none, .op (.mv (.t 21))⟩,
  ⟨(some 8), none, .op (.mv (.t 22))⟩] [])
  (.seq (.reg [⟨(some 23), none, .op (.mv (.t 8))⟩,
  ⟨(some 24), none, .call 30 [(.t 23)]⟩,
  ⟨(some 4), none, .op (.mv (.t 24))⟩,
  ⟨(some 5), none, .op (.mv (.v (.int .i64 0)))⟩] [])
  .ret))))
theorem fn11 : Fn3 Tryd.prog 11 25 [(4, none), (5, none)] fc11 := ⟨_, _, Tryd.func11, rfl, rfl, rfl, by kernel_rfl⟩
def live_Out_s (fuel : Nat) (g_00 : Graphs) (f_01 : Int) : Option ((List (List Int)) × Int) :=
  ((live_check_s g_00 f_01).bind fun che_1 => (if (che_1 != 0) then (some ([], che_1)) else ((getI g_00.Funcs f_01).bind fun y_2 => ((live_solve_s fuel y_2).bind fun sol_3 => ((live_lists_s fuel sol_3.2).bind fun lis_4 => (some (lis_4, 0)))))))
theorem live_Out_ev {fuel : Nat} {g_00 : Graphs} {f_01 : Int} {r : ((List (List Int)) × Int)} (h : live_Out_s fuel g_00 f_01 = some r) : PureEv Tryd.prog 11 [(Graphs.av g_00), (.int .i64 f_01)] (.tup [(.sl false 1 (List.map (avL 1 (avI .i64)) r.1)), (.int .i64 r.2)]) := by
  unfold live_Out_s at h
  refine PureEv_end mixed fn11 (by simp) [] 6 ?_
  unfold fc11
  refine E_sq ?_
  refine E_reg ?_
  refine E_op0 (v' := (.cptr (Graphs.av g_00).cells 0)) rfl rfl ?_
  refine E_mv (v' := .nils) rfl ?_
  refine E_mv (v' := (.int .i64 0)) rfl ?_
  refine E_nil ?_
  refine E_nx ?_
  refine E_as ?_
  refine E_sq ?_
  refine E_reg ?_
  refine E_op0 (v' := (Graphs.av g_00)) rfl rfl ?_
  refine E_mv (v' := (.int .i64 f_01)) rfl ?_
  obtain ⟨che_1, hche_1, h⟩ := bd_some h
  refine E_callW (live_check_ev  hche_1) rfl ⟨(.refl _), (.refl _), trivial⟩ (blwL_of ⟨(Graphs.enc.blw _ 0), rfl, trivial⟩) rfl ?_
  refine E_mv (v' := (.int .i64 che_1)) rfl ?_
  refine E_nil ?_
  refine E_nx ?_
  refine E_as ?_
  refine E_sq ?_
  refine E_reg ?_
  refine E_mv (v' := (.int .i64 che_1)) rfl ?_
  refine E_op0 (v' := (.bool (che_1 != 0))) rfl rfl ?_
  refine E_nil ?_
  refine E_nx ?_
  refine E_sq ?_
  refine E_cs (t := (che_1 != 0)) rfl (fun hb => ?_) (fun hb => ?_)
  · rw [ite_t hb] at h
    refine E_sq ?_
    refine E_reg ?_
    refine E_mv (v' := (.int .i64 che_1)) rfl ?_
    refine E_mv (v' := .nils) rfl ?_
    refine E_mv (v' := (.int .i64 che_1)) rfl ?_
    refine E_nil ?_
    refine E_nx ?_
    refine E_ret ?_
    refine E_thr ?_
    cases h
    exact ⟨trivial, _, rfl, (fz_tup ⟨(fz_b rfl .nil), (fz_b rfl (.refl _)), trivial⟩)⟩
  · rw [ite_f hb] at h
    refine E_skip ?_
    refine E_nx ?_
    refine E_sq ?_
    refine E_reg ?_
    refine E_op0 (v' := (.cptr (Graphs.av g_00).cells 0)) rfl rfl ?_
    refine E_op0 (v' := (.sl false 8 (List.map Graph.av g_00.Funcs))) rfl rfl ?_
    refine E_mv (v' := (.int .i64 f_01)) rfl ?_
    obtain ⟨y_2, hy_2, h⟩ := bd_some h
    refine E_iadF rfl rfl hy_2 ?_
    obtain ⟨sol_3, hsol_3, h⟩ := bd_some h
    refine E_callW (live_solve_ev (fuel := fuel)  hsol_3) rfl ⟨(.refl _), trivial⟩ (blwL_of ⟨(cp_blw (Graph.enc.blw _ 0)), trivial⟩) (tup_blw ⟨((encP Bits_Set.enc).blws 0), ((encP Bits_Set.enc).blws 0), trivial⟩) ?_
    refine E_mv (v' := (.tup [(.sl false 1 (List.map (avP Bits_Set.av) sol_3.1)), (.sl false 1 (List.map (avP Bits_Set.av) sol_3.2))])) rfl ?_
    refine E_op0 (v' := (.sl false 1 (List.map (avP Bits_Set.av) sol_3.1))) rfl rfl ?_
    refine E_op0 (v' := (.sl false 1 (List.map (avP Bits_Set.av) sol_3.2))) rfl rfl ?_
    refine E_mv (v' := (.sl false 1 (List.map (avP Bits_Set.av) sol_3.1))) rfl ?_
    refine E_mv (v' := (.sl false 1 (List.map (avP Bits_Set.av) sol_3.2))) rfl ?_
    refine E_nil ?_
    refine E_nx ?_
    refine E_sq ?_
    refine E_reg ?_
    refine E_mv (v' := (.sl false 1 (List.map (avP Bits_Set.av) sol_3.2))) rfl ?_
    obtain ⟨lis_4, hlis_4, h⟩ := bd_some h
    refine E_callW (live_lists_ev (fuel := fuel)  hlis_4) rfl ⟨(.refl _), trivial⟩ (blwL_of ⟨((encP Bits_Set.enc).blws 0), trivial⟩) ((encL (encI .i64) 1).blws 0) ?_
    refine E_mv (v' := (.sl false 1 (List.map (avL 1 (avI .i64)) lis_4))) rfl ?_
    refine E_mv (v' := (.int .i64 0)) rfl ?_
    refine E_nil ?_
    refine E_nx ?_
    refine E_ret ?_
    cases h
    exact ⟨trivial, _, rfl, (fz_tup ⟨(fz_b ((encL (encI .i64) 1).blws 0) (.refl _)), (fz_b rfl (.refl _)), trivial⟩)⟩
/- windlass/windlasslaw11.first -/
def fc9 : FC := (.seq (.reg [⟨(some 0), none, .op (.mv (.v (.bool false)))⟩] [])
  (.seq (.reg [⟨(some 6), none, .op (.bsl none [(.int .u8 0)] 1 [(0, 1, (.v (.int .u8 0)))])⟩,
  ⟨(some 7), none, .op (.build [(.int .u8 0), (.int .u8 0), (.int .i64 0), (.int .i64 0), (.int .i64 0), (.int .i64 0), (.int .i64 0), (.int .i64 0), (.int .u64 0), .nils, (.int .i64 0), (.int .i64 0)] [(0, 1, (.v (.int .u8 1))), (10, 1, (.v (.int .i64 1)))])⟩,
  ⟨(some 8), none, .op (.build [(.int .u8 0), (.int .u8 0), (.int .i64 0), (.int .i64 0), (.int .i64 0), (.int .i64 0), (.int .i64 0), (.int .i64 0), (.int .u64 0), .nils, (.int .i64 0), (.int .i64 0)] [(0, 1, (.v (.int .u8 17))), (10, 1, (.v (.int .i64 2)))])⟩,
  ⟨(some 9), none, .op (.build [(.int .u8 0), (.int .u8 0), (.int .i64 0), (.int .i64 0), (.int .i64 0), (.int .i64 0), (.int .i64 0), (.int .i64 0), (.int .u64 0), .nils, (.int .i64 0), (.int .i64 0)] [(0, 1, (.v (.int .u8 12))), (4, 1, (.v (.int .i64 (-1))))])⟩,
  ⟨(some 10), none, .op (.bsl (some 12) [(.int .u8 0), (.int .u8 0), (.int .i64 0), (.int .i64 0), (.int .i64 0), (.int .i64 0), (.int .i64 0), (.int .i64 0), (.int .u64 0), .nils, (.int .i64 0), (.int .i64 0)] 3 [(0, 12, (.t 7)), (12, 12, (.t 8)), (24, 12, (.t 9))])⟩,
  ⟨(some 11), none, .op (.build [.nils, .nils, (.int .i64 0), .nils, (.bool false), (.int .i64 0), .nils, (.int .i64 0)] [(1, 1, (.t 6)), (5, 1, (.v (.int .i64 (-1)))), (6, 1, (.t 10))])⟩,
  ⟨(some 12), none, .op (.bsl (some 8) [.nils, .nils, (.int .i64 0), .nils, (.bool false), (.int .i64 0), .nils, (.int .i64 0)] 1 [(0, 8, (.t 11))])⟩,
  ⟨(some 13), none, .op (.build [.nils] [(0, 1, (.t 12))])⟩,
  ⟨(some 1), none, .op (.new [.nils])⟩,
  ⟨none, none, .op (.store 1 (.t 1) (.t 13))⟩] [])
  (.seq (.reg [⟨(some 15), none, .op (.load (some 1) (.t 1))⟩,
  ⟨(some 16), none, .call 10 [(.t 15), (.v (.int .i64 0))]⟩,
  ⟨(some 14), none, .op (.mv (.t 16))⟩,
  ⟨(some 17), none, .op (.ext 0 (.t 14))⟩,
  ⟨(some 18), none, .op (.ext 1 (.t 14))⟩,
  ⟨(some 2), none, .op (.mv (.t 17))⟩,
  ⟨(some 3), none, .op (.mv (.t 18))⟩] [])
  (.seq (.reg [⟨(some 20), none, .op (.load (some 1) (.t 1))⟩,
  ⟨(some 21), none, .call 11 [(.t 20), (.v (.int .i64 0))]⟩,
  ⟨(some 19), none, .op (.mv (.t 21))⟩,
  ⟨(some 22), none, .op (.ext 0 (.t 19))⟩,
  ⟨(some 23), none, .op (.ext 1 (.t 19))⟩,
  ⟨(some 4), none, .op (.mv (.t 22))⟩,
  ⟨(some 5), none, .op (.mv (.t 23))⟩] [])
  (.seq (.reg [⟨(some 24), none, .op (.mv (.t 3))⟩,
  ⟨(some 25), none, .op (.bin .none .eql (.t 24) (.v (.int .i64 0)))⟩,
  ⟨(some 26), none, .op (.mv (.t 25))⟩,
  ⟨(some 27), some (26, true), .op (.mv (.t 5))⟩,
  ⟨(some 28), some (26, true), .op (.bin .none .eql (.t 27) (.v (.int .i64 0)))⟩,
  ⟨(some 29), none, .op (.pick (.t 26) (.t 28) (.v (.bool false)))⟩,
  ⟨(some 30), none, .op (.mv (.t 29))⟩,
  ⟨(some 31), some (30, true), .op (.mv (.t 2))⟩,
  ⟨(some 32), some (30, true), .op (.len .sl (.t 31))⟩,
  ⟨(some 33), some (30, true), .op (.bin .none .eql (.t 32) (.v (.int .i64 3)))⟩,
  ⟨(some 34), none, .op (.pick (.t 30) (.t 33) (.v (.bool false)))⟩,
  ⟨(some 35), none, .op (.mv (.t 34))⟩,
  ⟨(some 36), some (35, true), .op (.mv (.t 2))⟩,
  ⟨(some 37), some (35, true), .op (.iad none none (.t 36) (.v (.int .i64 0)))⟩,
  ⟨(some 38), some (35, true), .op (.load none (.t 37))⟩,
  ⟨(some 39), some (35, true), .op (.len .sl (.t 38))⟩,
  ⟨(some 40), some (35, true), .op (.bin .none .eql (.t 39) (.v (.int .i64 0)))⟩,
  ⟨(some 41), none, .op (.pick (.t 35) (.t 40) (.v (.bool false)))⟩,
  ⟨(some 42), none, .op (.mv (.t 41))⟩,
  ⟨(some 43), some (42, true), .op (.mv (.t 2))⟩,
  ⟨(some 44), some (42, true), .op (.iad none none (.t 43) (.v (.int .i64 1)))⟩,
  ⟨(some 45), some (42, true), .op (.load none (.t 44))⟩,
  ⟨(some 46), some (42, true), .op (.len .sl (.t 45))⟩,
  ⟨(some 47), some (42, true), .op (.bin .none .eql (.t 46) (.v (.int .i64 1)))⟩,
  ⟨(some 48), none, .op (.pick (.t 42) (.t 47) (.v (.bool false)))⟩,
  ⟨(some 49), none, .op (.mv (.t 48))⟩,
  ⟨(some 50), some (49, true), .op (.mv (.t 4))⟩,
  ⟨(some 51), some (49, true), .op (.len .sl (.t 50))⟩,
  ⟨(some 52), some (49, true), .op (.bin .none .eql (.t 51) (.v (.int .i64 3)))⟩,
  ⟨(some 53), none, .op (.pick (.t 49) (.t 52) (.v (.bool false)))⟩,
  ⟨(some 54), none, .op (.mv (.t 53))⟩,
  ⟨(some 55), some (54, true), .op (.mv (.t 4))⟩,
  ⟨(some 56), some (54, true), .op (.iad none none (.t 55) (.v (.int .i64 0)))⟩,
  ⟨(some 57), some (54, true), .op (.load none (.t 56))⟩,
  ⟨(some 58), some (54, true), .op (.len .sl (.t 57))⟩,
  ⟨(some 59), some (54, true), .op (.bin .none .eql (.t 58) (.v (.int .i64 1)))⟩,
  ⟨(some 60), none, .op (.pick (.t 54) (.t 59) (.v (.bool false)))⟩,
  ⟨(some 61), none, .op (.mv (.t 60))⟩,
  ⟨(some 62), some (61, true), .op (.mv (.t 4))⟩,
  ⟨(some 63), some (61, true), .op (.iad none none (.t 62) (.v (.int .i64 1)))⟩,
  ⟨(some 64), some (61, true), .op (.load none (.t 63))⟩,
  ⟨(some 65), some (61, true), .op (.len .sl (.t 64))⟩,
  ⟨(some 66), some (61, true), .op (.bin .none .eql (.t 65) (.v (.int .i64 0)))⟩,
  ⟨(some 67), none, .op (.pick (.t 61) (.t 66) (.v (.bool false)))⟩,
  ⟨(some 0), none, .op (.mv (.t 67))⟩] [])
  .ret)))))
theorem fn9 : Fn3 Tryd.prog 9 68 [(0, none)] fc9 := ⟨_, _, Tryd.func9, rfl, rfl, rfl, by kernel_rfl⟩
def windlasslaw11_first_s (fuel : Nat)  : Option Bool :=
  ((live_In_s fuel (Graphs.mk ([(Graph.mk [] ([0]) 0 [] false (-1) ([(Node.mk 1 0 0 0 0 0 0 0 0 [] 1 0), (Node.mk 17 0 0 0 0 0 0 0 0 [] 2 0), (Node.mk 12 0 0 0 (-1) 0 0 0 0 [] 0 0)]) 0)])) 0).bind fun vin_1 => ((live_Out_s fuel (Graphs.mk ([(Graph.mk [] ([0]) 0 [] false (-1) ([(Node.mk 1 0 0 0 0 0 0 0 0 [] 1 0), (Node.mk 17 0 0 0 0 0 0 0 0 [] 2 0), (Node.mk 12 0 0 0 (-1) 0 0 0 0 [] 0 0)]) 0)])) 0).bind fun out_2 => (jp (fun (s_4 : Bool) => (some s_4)) (fun k_3 => (if (vin_1.2 == 0) then (if (out_2.2 == 0) then (if ((List.length vin_1.1 : Int) == 3) then ((getI vin_1.1 0).bind fun y_5 => (if ((List.length y_5 : Int) == 0) then ((getI vin_1.1 1).bind fun y_6 => (if ((List.length y_6 : Int) == 1) then (if ((List.length out_2.1 : Int) == 3) then ((getI out_2.1 0).bind fun y_7 => (if ((List.length y_7 : Int) == 1) then ((getI out_2.1 1).bind fun y_8 => (k_3 ((List.length y_8 : Int) == 0))) else (k_3 false))) else (k_3 false)) else (k_3 false))) else (k_3 false))) else (k_3 false)) else (k_3 false)) else (k_3 false))))))
theorem windlasslaw11_first_ev {fuel : Nat}  {r : Bool} (h : windlasslaw11_first_s fuel  = some r) : PureEv Tryd.prog 9 [] (.bool r) := by
  unfold windlasslaw11_first_s at h
  refine PureEv_end mixed fn9 (by simp) [1] 6 ?_
  unfold fc9
  refine E_sq ?_
  refine E_reg ?_
  refine E_mv (v' := (.bool false)) rfl ?_
  refine E_nil ?_
  refine E_nx ?_
  refine E_sq ?_
  refine E_reg ?_
  refine E_opw (v' := (.sl true 1 (List.map (avI .u8) [0]))) rfl (.refl _) rfl ?_
  refine E_opw (v' := (Node.av (Node.mk 1 0 0 0 0 0 0 0 0 [] 1 0))) rfl (.aggL ⟨(.refl _), (.refl _), (.refl _), (.refl _), (.refl _), (.refl _), (.refl _), (.refl _), (.refl _), .nil, (.refl _), (.refl _), trivial⟩) rfl ?_
  refine E_opw (v' := (Node.av (Node.mk 17 0 0 0 0 0 0 0 0 [] 2 0))) rfl (.aggL ⟨(.refl _), (.refl _), (.refl _), (.refl _), (.refl _), (.refl _), (.refl _), (.refl _), (.refl _), .nil, (.refl _), (.refl _), trivial⟩) rfl ?_
  refine E_opw (v' := (Node.av (Node.mk 12 0 0 0 (-1) 0 0 0 0 [] 0 0))) rfl (.aggL ⟨(.refl _), (.refl _), (.refl _), (.refl _), (.refl _), (.refl _), (.refl _), (.refl _), (.refl _), .nil, (.refl _), (.refl _), trivial⟩) rfl ?_
  refine E_opw (v := (.sl true 12 (List.map Node.av [(Node.mk 1 0 0 0 0 0 0 0 0 [] 1 0), (Node.mk 17 0 0 0 0 0 0 0 0 [] 2 0), (Node.mk 12 0 0 0 (-1) 0 0 0 0 [] 0 0)]))) (v' := (.sl true 12 (List.map Node.av [(Node.mk 1 0 0 0 0 0 0 0 0 [] 1 0), (Node.mk 17 0 0 0 0 0 0 0 0 [] 2 0), (Node.mk 12 0 0 0 (-1) 0 0 0 0 [] 0 0)]))) (rd := []) (δ := none) (by kernel_rfl) (.refl _) rfl ?_
  refine E_opw (v' := (Graph.av (Graph.mk [] ([0]) 0 [] false (-1) ([(Node.mk 1 0 0 0 0 0 0 0 0 [] 1 0), (Node.mk 17 0 0 0 0 0 0 0 0 [] 2 0), (Node.mk 12 0 0 0 (-1) 0 0 0 0 [] 0 0)]) 0))) rfl (.aggL ⟨.nil, .ex, (.refl _), .nil, (.refl _), (.refl _), .ex, (.refl _), trivial⟩) rfl ?_
  refine E_opw (v' := (.sl true 8 (List.map Graph.av [(Graph.mk [] ([0]) 0 [] false (-1) ([(Node.mk 1 0 0 0 0 0 0 0 0 [] 1 0), (Node.mk 17 0 0 0 0 0 0 0 0 [] 2 0), (Node.mk 12 0 0 0 (-1) 0 0 0 0 [] 0 0)]) 0)]))) rfl (.refl _) rfl ?_
  refine E_opw (v' := (Graphs.av (Graphs.mk ([(Graph.mk [] ([0]) 0 [] false (-1) ([(Node.mk 1 0 0 0 0 0 0 0 0 [] 1 0), (Node.mk 17 0 0 0 0 0 0 0 0 [] 2 0), (Node.mk 12 0 0 0 (-1) 0 0 0 0 [] 0 0)]) 0)])))) rfl (.aggL ⟨.ex, trivial⟩) rfl ?_
  refine E_op (v' := .ptr 0 0 0) (S' := [.arr 0 [.nils]]) rfl rfl rfl ?_
  refine E_do (S' := [.arr 0 [(.sl false 8 (List.map Graph.av ([(Graph.mk [] ([0]) 0 [] false (-1) ([(Node.mk 1 0 0 0 0 0 0 0 0 [] 1 0), (Node.mk 17 0 0 0 0 0 0 0 0 [] 2 0), (Node.mk 12 0 0 0 (-1) 0 0 0 0 [] 0 0)]) 0)])))]]) rfl rfl ?_
  refine E_nil ?_
  refine E_nx ?_
  refine E_sq ?_
  refine E_reg ?_
  refine E_opw (v' := (Graphs.av (Graphs.mk ([(Graph.mk [] ([0]) 0 [] false (-1) ([(Node.mk 1 0 0 0 0 0 0 0 0 [] 1 0), (Node.mk 17 0 0 0 0 0 0 0 0 [] 2 0), (Node.mk 12 0 0 0 (-1) 0 0 0 0 [] 0 0)]) 0)])))) rfl (.aggL ⟨(.refl _), trivial⟩) rfl ?_
  obtain ⟨vin_1, hvin_1, h⟩ := bd_some h
  refine E_callW (live_In_ev (fuel := fuel)  hvin_1) rfl ⟨(.refl _), (.refl _), trivial⟩ (blwL_of ⟨(Graphs.enc.blw _ 0), rfl, trivial⟩) (tup_blw ⟨((encL (encI .i64) 1).blws 0), rfl, trivial⟩) ?_
  refine E_mv (v' := (.tup [(.sl false 1 (List.map (avL 1 (avI .i64)) vin_1.1)), (.int .i64 vin_1.2)])) rfl ?_
  refine E_op0 (v' := (.sl false 1 (List.map (avL 1 (avI .i64)) vin_1.1))) rfl rfl ?_
  refine E_op0 (v' := (.int .i64 vin_1.2)) rfl rfl ?_
  refine E_mv (v' := (.sl false 1 (List.map (avL 1 (avI .i64)) vin_1.1))) rfl ?_
  refine E_mv (v' := (.int .i64 vin_1.2)) rfl ?_
  refine E_nil ?_
  refine E_nx ?_
  refine E_sq ?_
  refine E_reg ?_
  refine E_opw (v' := (Graphs.av (Graphs.mk ([(Graph.mk [] ([0]) 0 [] false (-1) ([(Node.mk 1 0 0 0 0 0 0 0 0 [] 1 0), (Node.mk 17 0 0 0 0 0 0 0 0 [] 2 0), (Node.mk 12 0 0 0 (-1) 0 0 0 0 [] 0 0)]) 0)])))) rfl (.aggL ⟨(.refl _), trivial⟩) rfl ?_
  obtain ⟨out_2, hout_2, h⟩ := bd_some h
  refine E_callW (live_Out_ev (fuel := fuel)  hout_2) rfl ⟨(.refl _), (.refl _), trivial⟩ (blwL_of ⟨(Graphs.enc.blw _ 0), rfl, trivial⟩) (tup_blw ⟨((encL (encI .i64) 1).blws 0), rfl, trivial⟩) ?_
  refine E_mv (v' := (.tup [(.sl false 1 (List.map (avL 1 (avI .i64)) out_2.1)), (.int .i64 out_2.2)])) rfl ?_
  refine E_op0 (v' := (.sl false 1 (List.map (avL 1 (avI .i64)) out_2.1))) rfl rfl ?_
  refine E_op0 (v' := (.int .i64 out_2.2)) rfl rfl ?_
  refine E_mv (v' := (.sl false 1 (List.map (avL 1 (avI .i64)) out_2.1))) rfl ?_
  refine E_mv (v' := (.int .i64 out_2.2)) rfl ?_
  refine E_nil ?_
  refine E_nx ?_
  refine E_jp h (fun s_4 => [(0, (.bool s_4))]) (fun s_4 => []) (fun k_3 h => ?_) (fun s_4 h => ?_)
  · refine E_reg ?_
    refine E_mv (v' := (.int .i64 vin_1.2)) rfl ?_
    refine E_op0 (v' := (.bool (vin_1.2 == 0))) rfl rfl ?_
    refine E_mv (v' := (.bool (vin_1.2 == 0))) rfl ?_
    refine E_gsT (b := (vin_1.2 == 0)) rfl rfl rfl (fun hb => ?_) (fun hb => ?_)
    · rw [ite_t hb] at h
      refine E_mv (v' := (.int .i64 out_2.2)) rfl ?_
      refine E_gh rfl ?_
      refine E_op0 (v' := (.bool (out_2.2 == 0))) rfl rfl ?_
      refine E_pt rfl rfl ?_
      refine E_mv (v' := (.bool (out_2.2 == 0))) rfl ?_
      refine E_gsT (b := (out_2.2 == 0)) rfl rfl rfl (fun hb => ?_) (fun hb => ?_)
      · rw [ite_t hb] at h
        refine E_mv (v' := (.sl false 1 (List.map (avL 1 (avI .i64)) vin_1.1))) rfl ?_
        refine E_gh rfl ?_
        refine E_len rfl ?_
        refine E_gh rfl ?_
        refine E_op0 (v' := (.bool ((List.length vin_1.1 : Int) == 3))) rfl rfl ?_
        refine E_pt rfl rfl ?_
        refine E_mv (v' := (.bool ((List.length vin_1.1 : Int) == 3))) rfl ?_
        refine E_gsT (b := ((List.length vin_1.1 : Int) == 3)) rfl rfl rfl (fun hb => ?_) (fun hb => ?_)
        · rw [ite_t hb] at h
          refine E_mv (v' := (.sl false 1 (List.map (avL 1 (avI .i64)) vin_1.1))) rfl ?_
          refine E_gh rfl ?_
          obtain ⟨y_5, hy_5, h⟩ := bd_some h
          refine E_iadF rfl rfl hy_5 ?_
          refine E_gh rfl ?_
          refine E_op0 (v' := (.sl false 1 (List.map (avI .i64) y_5))) rfl rfl ?_
          refine E_gh rfl ?_
          refine E_len rfl ?_
          refine E_gh rfl ?_
          refine E_op0 (v' := (.bool ((List.length y_5 : Int) == 0))) rfl rfl ?_
          refine E_pt rfl rfl ?_
          refine E_mv (v' := (.bool ((List.length y_5 : Int) == 0))) rfl ?_
          refine E_gsT (b := ((List.length y_5 : Int) == 0)) rfl rfl rfl (fun hb => ?_) (fun hb => ?_)
          · rw [ite_t hb] at h
            refine E_mv (v' := (.sl false 1 (List.map (avL 1 (avI .i64)) vin_1.1))) rfl ?_
            refine E_gh rfl ?_
            obtain ⟨y_6, hy_6, h⟩ := bd_some h
            refine E_iadF rfl rfl hy_6 ?_
            refine E_gh rfl ?_
            refine E_op0 (v' := (.sl false 1 (List.map (avI .i64) y_6))) rfl rfl ?_
            refine E_gh rfl ?_
            refine E_len rfl ?_
            refine E_gh rfl ?_
            refine E_op0 (v' := (.bool ((List.length y_6 : Int) == 1))) rfl rfl ?_
            refine E_pt rfl rfl ?_
            refine E_mv (v' := (.bool ((List.length y_6 : Int) == 1))) rfl ?_
            refine E_gsT (b := ((List.length y_6 : Int) == 1)) rfl rfl rfl (fun hb => ?_) (fun hb => ?_)
            · rw [ite_t hb] at h
              refine E_mv (v' := (.sl false 1 (List.map (avL 1 (avI .i64)) out_2.1))) rfl ?_
              refine E_gh rfl ?_
              refine E_len rfl ?_
              refine E_gh rfl ?_
              refine E_op0 (v' := (.bool ((List.length out_2.1 : Int) == 3))) rfl rfl ?_
              refine E_pt rfl rfl ?_
              refine E_mv (v' := (.bool ((List.length out_2.1 : Int) == 3))) rfl ?_
              refine E_gsT (b := ((List.length out_2.1 : Int) == 3)) rfl rfl rfl (fun hb => ?_) (fun hb => ?_)
              · rw [ite_t hb] at h
                refine E_mv (v' := (.sl false 1 (List.map (avL 1 (avI .i64)) out_2.1))) rfl ?_
                refine E_gh rfl ?_
                obtain ⟨y_7, hy_7, h⟩ := bd_some h
                refine E_iadF rfl rfl hy_7 ?_
                refine E_gh rfl ?_
                refine E_op0 (v' := (.sl false 1 (List.map (avI .i64) y_7))) rfl rfl ?_
                refine E_gh rfl ?_
                refine E_len rfl ?_
                refine E_gh rfl ?_
                refine E_op0 (v' := (.bool ((List.length y_7 : Int) == 1))) rfl rfl ?_
                refine E_pt rfl rfl ?_
                refine E_mv (v' := (.bool ((List.length y_7 : Int) == 1))) rfl ?_
                refine E_gsT (b := ((List.length y_7 : Int) == 1)) rfl rfl rfl (fun hb => ?_) (fun hb => ?_)
                · rw [ite_t hb] at h
                  refine E_mv (v' := (.sl false 1 (List.map (avL 1 (avI .i64)) out_2.1))) rfl ?_
                  refine E_gh rfl ?_
                  obtain ⟨y_8, hy_8, h⟩ := bd_some h
                  refine E_iadF rfl rfl hy_8 ?_
                  refine E_gh rfl ?_
                  refine E_op0 (v' := (.sl false 1 (List.map (avI .i64) y_8))) rfl rfl ?_
                  refine E_gh rfl ?_
                  refine E_len rfl ?_
                  refine E_gh rfl ?_
                  refine E_op0 (v' := (.bool ((List.length y_8 : Int) == 0))) rfl rfl ?_
                  refine E_pt rfl rfl ?_
                  refine E_mv (v' := (.bool ((List.length y_8 : Int) == 0))) rfl ?_
                  refine E_nil ?_
                  exact E_jx _ h (wk_rn [] rfl (Nat.le_of_ble_eq_true rfl) trivial ⟨(rn_b rfl), trivial⟩)
                · rw [ite_f hb] at h
                  refine E_gm rfl ?_
                  refine E_gm rfl ?_
                  refine E_gm rfl ?_
                  refine E_gm rfl ?_
                  refine E_pf rfl rfl ?_
                  refine E_mv (v' := (.bool false)) rfl ?_
                  refine E_nil ?_
                  exact E_jx _ h (wk_rn [] rfl (Nat.le_of_ble_eq_true rfl) trivial ⟨(rn_b rfl), trivial⟩)
              · rw [ite_f hb] at h
                refine E_gm rfl ?_
                refine E_gm rfl ?_
                refine E_gm rfl ?_
                refine E_gm rfl ?_
                refine E_pf rfl rfl ?_
                refine E_mv (v' := (.bool false)) rfl ?_
                refine E_gm rfl ?_
                refine E_gm rfl ?_
                refine E_gm rfl ?_
                refine E_gm rfl ?_
                refine E_gm rfl ?_
                refine E_pf rfl rfl ?_
                refine E_mv (v' := (.bool false)) rfl ?_
                refine E_nil ?_
                exact E_jx _ h (wk_rn [] rfl (Nat.le_of_ble_eq_true rfl) trivial ⟨(rn_b rfl), trivial⟩)
            · rw [ite_f hb] at h
              refine E_gm rfl ?_
              refine E_gm rfl ?_
              refine E_pf rfl rfl ?_
              refine E_mv (v' := (.bool false)) rfl ?_
              refine E_gm rfl ?_
              refine E_gm rfl ?_
              refine E_gm rfl ?_
              refine E_gm rfl ?_
              refine E_gm rfl ?_
              refine E_pf rfl rfl ?_
              refine E_mv (v' := (.bool false)) rfl ?_
              refine E_gm rfl ?_
              refine E_gm rfl ?_
              refine E_gm rfl ?_
              refine E_gm rfl ?_
              refine E_gm rfl ?_
              refine E_pf rfl rfl ?_
              refine E_mv (v' := (.bool false)) rfl ?_
              refine E_nil ?_
              exact E_jx _ h (wk_rn [] rfl (Nat.le_of_ble_eq_true rfl) trivial ⟨(rn_b rfl), trivial⟩)
          · rw [ite_f hb] at h
            refine E_gm rfl ?_
            refine E_gm rfl ?_
            refine E_gm rfl ?_
            refine E_gm rfl ?_
            refine E_pf rfl rfl ?_
            refine E_mv (v' := (.bool false)) rfl ?_
            refine E_gm rfl ?_
            refine E_gm rfl ?_
            refine E_gm rfl ?_
            refine E_pf rfl rfl ?_
            refine E_mv (v' := (.bool false)) rfl ?_
            refine E_gm rfl ?_
            refine E_gm rfl ?_
            refine E_gm rfl ?_
            refine E_gm rfl ?_
            refine E_gm rfl ?_
            refine E_pf rfl rfl ?_
            refine E_mv (v' := (.bool false)) rfl ?_
            refine E_gm rfl ?_
            refine E_gm rfl ?_
            refine E_gm rfl ?_
            refine E_gm rfl ?_
            refine E_gm rfl ?_
            refine E_pf rfl rfl ?_
            refine E_mv (v' := (.bool false)) rfl ?_
            refine E_nil ?_
            exact E_jx _ h (wk_rn [] rfl (Nat.le_of_ble_eq_true rfl) trivial ⟨(rn_b rfl), trivial⟩)
        · rw [ite_f hb] at h
          refine E_gm rfl ?_
          refine E_gm rfl ?_
          refine E_gm rfl ?_
          refine E_gm rfl ?_
          refine E_pf rfl rfl ?_
          refine E_mv (v' := (.bool false)) rfl ?_
          refine E_gm rfl ?_
          refine E_gm rfl ?_
          refine E_gm rfl ?_
          refine E_gm rfl ?_
          refine E_gm rfl ?_
          refine E_pf rfl rfl ?_
          refine E_mv (v' := (.bool false)) rfl ?_
          refine E_gm rfl ?_
          refine E_gm rfl ?_
          refine E_gm rfl ?_
          refine E_pf rfl rfl ?_
          refine E_mv (v' := (.bool false)) rfl ?_
          refine E_gm rfl ?_
          refine E_gm rfl ?_
          refine E_gm rfl ?_
          refine E_gm rfl ?_
          refine E_gm rfl ?_
          refine E_pf rfl rfl ?_
          refine E_mv (v' := (.bool false)) rfl ?_
          refine E_gm rfl ?_
          refine E_gm rfl ?_
          refine E_gm rfl ?_
          refine E_gm rfl ?_
          refine E_gm rfl ?_
          refine E_pf rfl rfl ?_
          refine E_mv (v' := (.bool false)) rfl ?_
          refine E_nil ?_
          exact E_jx _ h (wk_rn [] rfl (Nat.le_of_ble_eq_true rfl) trivial ⟨(rn_b rfl), trivial⟩)
      · rw [ite_f hb] at h
        refine E_gm rfl ?_
        refine E_gm rfl ?_
        refine E_pf rfl rfl ?_
        refine E_mv (v' := (.bool false)) rfl ?_
        refine E_gm rfl ?_
        refine E_gm rfl ?_
        refine E_gm rfl ?_
        refine E_gm rfl ?_
        refine E_gm rfl ?_
        refine E_pf rfl rfl ?_
        refine E_mv (v' := (.bool false)) rfl ?_
        refine E_gm rfl ?_
        refine E_gm rfl ?_
        refine E_gm rfl ?_
        refine E_gm rfl ?_
        refine E_gm rfl ?_
        refine E_pf rfl rfl ?_
        refine E_mv (v' := (.bool false)) rfl ?_
        refine E_gm rfl ?_
        refine E_gm rfl ?_
        refine E_gm rfl ?_
        refine E_pf rfl rfl ?_
        refine E_mv (v' := (.bool false)) rfl ?_
        refine E_gm rfl ?_
        refine E_gm rfl ?_
        refine E_gm rfl ?_
        refine E_gm rfl ?_
        refine E_gm rfl ?_
        refine E_pf rfl rfl ?_
        refine E_mv (v' := (.bool false)) rfl ?_
        refine E_gm rfl ?_
        refine E_gm rfl ?_
        refine E_gm rfl ?_
        refine E_gm rfl ?_
        refine E_gm rfl ?_
        refine E_pf rfl rfl ?_
        refine E_mv (v' := (.bool false)) rfl ?_
        refine E_nil ?_
        exact E_jx _ h (wk_rn [] rfl (Nat.le_of_ble_eq_true rfl) trivial ⟨(rn_b rfl), trivial⟩)
    · rw [ite_f hb] at h
      refine E_gm rfl ?_
      refine E_pf rfl rfl ?_
      refine E_mv (v' := (.bool false)) rfl ?_
      refine E_gm rfl ?_
      refine E_gm rfl ?_
      refine E_gm rfl ?_
      refine E_pf rfl rfl ?_
      refine E_mv (v' := (.bool false)) rfl ?_
      refine E_gm rfl ?_
      refine E_gm rfl ?_
      refine E_gm rfl ?_
      refine E_gm rfl ?_
      refine E_gm rfl ?_
      refine E_pf rfl rfl ?_
      refine E_mv (v' := (.bool false)) rfl ?_
      refine E_gm rfl ?_
      refine E_gm rfl ?_
      refine E_gm rfl ?_
      refine E_gm rfl ?_
      refine E_gm rfl ?_
      refine E_pf rfl rfl ?_
      refine E_mv (v' := (.bool false)) rfl ?_
      refine E_gm rfl ?_
      refine E_gm rfl ?_
      refine E_gm rfl ?_
      refine E_pf rfl rfl ?_
      refine E_mv (v' := (.bool false)) rfl ?_
      refine E_gm rfl ?_
      refine E_gm rfl ?_
      refine E_gm rfl ?_
      refine E_gm rfl ?_
      refine E_gm rfl ?_
      refine E_pf rfl rfl ?_
      refine E_mv (v' := (.bool false)) rfl ?_
      refine E_gm rfl ?_
      refine E_gm rfl ?_
      refine E_gm rfl ?_
      refine E_gm rfl ?_
      refine E_gm rfl ?_
      refine E_pf rfl rfl ?_
      refine E_mv (v' := (.bool false)) rfl ?_
      refine E_nil ?_
      exact E_jx _ h (wk_rn [] rfl (Nat.le_of_ble_eq_true rfl) trivial ⟨(rn_b rfl), trivial⟩)
  · refine E_ret ?_
    cases h
    exact ⟨trivial, _, rfl, (fz_b rfl (.refl _))⟩
def gc_windlasslaw11_LiveLoops : FC := (.seq (.reg [⟨(some 6), none, .op (.mv (.v (.bool false)))⟩] [])
  (.seq (.seq (.reg [⟨(some 17), none, .call 9 []⟩,
  ⟨(some 18), none, .op (.un .not (.t 17))⟩] [])
  (.cond (.t 18)
  (.seq (.reg [⟨(some 6), none, .op (.mv (.v (.bool false)))⟩] [])
  .ret)
  .skip))
  (.seq (.reg [⟨(some 19), none, .op (.mv (.t 0))⟩,
  ⟨(some 20), none, .op (.cint .u64 (.t 19))⟩,
  ⟨(some 21), none, .op (.bin .none .rem (.t 20) (.v (.int .u64 60)))⟩,
  ⟨(some 22), none, .op (.cint .i64 (.t 21))⟩,
  ⟨(some 23), none, .op (.bin .none .add (.v (.int .i64 3)) (.t 22))⟩,
  ⟨(some 7), none, .op (.mv (.t 23))⟩] [])
  (.seq (.reg [⟨(some 24), none, .op (.mv (.t 1))⟩,
  ⟨(some 25), none, .op (.cint .u64 (.t 24))⟩,
  ⟨(some 26), none, .op (.mv (.t 7))⟩,
  ⟨(some 27), none, .op (.cint .u64 (.t 26))⟩,
  ⟨(some 28), none, .op (.bin .none .rem (.t 25) (.t 27))⟩,
  ⟨(some 29), none, .op (.cint .i64 (.t 28))⟩,
  ⟨(some 30), none, .op (.mv (.t 2))⟩,
  ⟨(some 31), none, .op (.cint .u64 (.t 30))⟩,
  ⟨(some 32), none, .op (.mv (.t 7))⟩,
  ⟨(some 33), none, .op (.cint .u64 (.t 32))⟩,
  ⟨(some 34), none, .op (.bin .none .rem (.t 31) (.t 33))⟩,
  ⟨(some 35), none, .op (.cint .i64 (.t 34))⟩,
  ⟨(some 8), none, .op (.mv (.t 29))⟩,
  ⟨(some 9), none, .op (.mv (.t 35))⟩] [])
  (.seq (.seq (.reg [⟨(some 36), none, .op (.mv (.t 8))⟩,
  ⟨(some 37), none, .op (.mv (.t 9))⟩,
  ⟨(some 38), none, .op (.bin .none .eql (.t 36) (.t 37))⟩] [])
  (.cond (.t 38)
  (.seq (.reg [⟨(some 6), none, .op (.mv (.v (.bool true)))⟩] [])
  .ret)
  .skip))
  (.seq (.reg [⟨(some 39), none, .op (.bsl none [(.int .u8 0)] 1 [(0, 1, (.v (.int .u8 0)))])⟩,
  ⟨(some 40), none, .op (.build [.nils, .nils, (.int .i64 0), .nils, (.bool false), (.int .i64 0), .nils, (.int .i64 0)] [(1, 1, (.t 39)), (5, 1, (.v (.int .i64 (-1))))])⟩,
  ⟨(some 10), none, .op (.new [.nils, .nils, (.int .i64 0), .nils, (.bool false), (.int .i64 0), .nils, (.int .i64 0)])⟩,
  ⟨none, none, .op (.store 8 (.t 10) (.t 40))⟩] [])
  (.seq (.seq (.reg [⟨(some 41), none, .op (.mv (.t 7))⟩,
  ⟨(some 42), none, .op (.mv (.v (.int .i64 0)))⟩] [])
  (.block 0 (.loop (.seq (.reg [⟨(some 43), none, .op (.bin .none .lss (.t 42) (.t 41))⟩] [])
  (.seq (.cond (.t 43)
  .skip
  (.exit 0))
  (.seq (.block 1 (.seq (.reg [⟨(some 44), none, .op (.mv (.t 42))⟩,
  ⟨(some 11), none, .op (.mv (.t 44))⟩] [])
  (.seq (.reg [⟨(some 45), none, .op (.mv (.t 11))⟩,
  ⟨(some 46), none, .op (.bin .none .add (.t 45) (.v (.int .i64 1)))⟩,
  ⟨(some 47), none, .op (.mv (.t 7))⟩,
  ⟨(some 48), none, .op (.bin .none .rem (.t 46) (.t 47))⟩,
  ⟨(some 49), none, .op (.build [(.int .u8 0), (.int .u8 0), (.int .i64 0), (.int .i64 0), (.int .i64 0), (.int .i64 0), (.int .i64 0), (.int .i64 0), (.int .u64 0), .nils, (.int .i64 0), (.int .i64 0)] [(0, 1, (.v (.int .u8 10))), (10, 1, (.t 48))])⟩,
  ⟨(some 12), none, .op (.new [(.int .u8 0), (.int .u8 0), (.int .i64 0), (.int .i64 0), (.int .i64 0), (.int .i64 0), (.int .i64 0), (.int .i64 0), (.int .u64 0), .nils, (.int .i64 0), (.int .i64 0)])⟩,
  ⟨none, none, .op (.store 12 (.t 12) (.t 49))⟩] [])
  (.seq (.seq (.reg [⟨(some 50), none, .op (.mv (.t 11))⟩,
  ⟨(some 51), none, .op (.mv (.t 8))⟩,
  ⟨(some 52), none, .op (.bin .none .eql (.t 50) (.t 51))⟩] [])
  (.cond (.t 52)
  (.reg [⟨(some 53), none, .op (.mv (.t 11))⟩,
  ⟨(some 54), none, .op (.bin .none .add (.t 53) (.v (.int .i64 1)))⟩,
  ⟨(some 55), none, .op (.mv (.t 7))⟩,
  ⟨(some 56), none, .op (.bin .none .rem (.t 54) (.t 55))⟩,
  ⟨(some 57), none, .op (.build [(.int .u8 0), (.int .u8 0), (.int .i64 0), (.int .i64 0), (.int .i64 0), (.int .i64 0), (.int .i64 0), (.int .i64 0), (.int .u64 0), .nils, (.int .i64 0), (.int .i64 0)] [(0, 1, (.v (.int .u8 1))), (10, 1, (.t 56))])⟩,
  ⟨none, none, .op (.store 12 (.t 12) (.t 57))⟩] [])
  .skip))
  (.seq (.seq (.reg [⟨(some 58), none, .op (.mv (.t 11))⟩,
  ⟨(some 59), none, .op (.mv (.t 9))⟩,
  ⟨(some 60), none, .op (.bin .none .eql (.t 58) (.t 59))⟩] [])
  (.cond (.t 60)
  (.reg [⟨(some 61), none, .op (.mv (.t 11))⟩,
  ⟨(some 62), none, .op (.bin .none .add (.t 61) (.v (.int .i64 1)))⟩,
  ⟨(some 63), none, .op (.mv (.t 7))⟩,
  ⟨(some 64), none, .op (.bin .none .rem (.t 62) (.t 63))⟩,
  ⟨(some 65), none, .op (.build [(.int .u8 0), (.int .u8 0), (.int .i64 0), (.int .i64 0), (.int .i64 0), (.int .i64 0), (.int .i64 0), (.int .i64 0), (.int .u64 0), .nils, (.int .i64 0), (.int .i64 0)] [(0, 1, (.v (.int .u8 17))), (10, 1, (.t 64))])⟩,
  ⟨none, none, .op (.store 12 (.t 12) (.t 65))⟩] [])
  .skip))
  (.reg [⟨(some 66), none, .op (.fad 6 (.t 10))⟩,
  ⟨(some 67), none, .op (.load none (.t 66))⟩,
  ⟨(some 68), none, .op (.load (some 12) (.t 12))⟩,
  ⟨(some 69), none, .op (.bsl (some 12) [(.int .u8 0), (.int .u8 0), (.int .i64 0), (.int .i64 0), (.int .i64 0), (.int .i64 0), (.int .i64 0), (.int .i64 0), (.int .u64 0), .nils, (.int .i64 0), (.int .i64 0)] 1 [(0, 12, (.t 68))])⟩,
  ⟨(some 70), none, .op (.app (some 12) 104 (.t 67) (.t 69))⟩,
  ⟨(some 71), none, .op (.fad 6 (.t 10))⟩,
  ⟨none, none, .op (.store 1 (.t 71) (.t 70))⟩] []))))))
  (.reg [⟨(some 72), none, .op (.bin .none .add (.t 42) (.v (.int .i64 1)))⟩,
  ⟨(some 42), none, .op (.mv (.t 72))⟩] [])))))))
  (.seq (.block 1000003 (.seq (.reg [⟨(some 74), none, .op (.load (some 8) (.t 10))⟩] []) (.reg [⟨(some 75), none, .op (.bsl (some 8) [.nils, .nils, (.int .i64 0), .nils, (.bool false), (.int .i64 0), .nils, (.int .i64 0)] 1 [(0, 8, (.t 74))])⟩,
  ⟨(some 76), none, .op (.build [.nils] [(0, 1, (.t 75))])⟩,
  ⟨(some 77), none, .call 10 [(.t 76), (.v (.int .i64 0))]⟩,
  ⟨(some 73), none, .op (.mv (.t 77))⟩,
  ⟨(some 78), none, .op (.ext 0 (.t 73))⟩,
  ⟨(some 79), none, .op (.ext 1 (.t 73))⟩,
  ⟨(some 13), none, .op (.mv (.t 78))⟩,
  ⟨(some 14), none, .op (.mv (.t 79))⟩] [])))
  (.seq (.seq (.reg [⟨(some 80), none, .op (.mv (.t 14))⟩,
  ⟨(some 81), none, .op (.bin .none .neq (.t 80) (.v (.int .i64 0)))⟩,
  ⟨(some 82), none, .op (.mv (.t 81))⟩,
  ⟨(some 83), some (82, false), .op (.mv (.t 13))⟩,
  ⟨(some 84), some (82, false), .op (.len .sl (.t 83))⟩,
  ⟨(some 85), some (82, false), .op (.mv (.t 7))⟩,
  ⟨(some 86), some (82, false), .op (.bin .none .neq (.t 84) (.t 85))⟩,
  ⟨(some 87), none, .op (.pick (.t 82) (.v (.bool true)) (.t 86))⟩] [])
  (.cond (.t 87)
  (.seq (.reg [⟨(some 6), none, .op (.mv (.v (.bool false)))⟩] [])
  .ret)
  .skip))
  (.seq (.seq (.reg [⟨(some 88), none, .op (.mv (.t 7))⟩,
  ⟨(some 89), none, .op (.mv (.v (.int .i64 0)))⟩] [])
  (.block 2 (.loop (.seq (.reg [⟨(some 90), none, .op (.bin .none .lss (.t 89) (.t 88))⟩] [])
  (.seq (.cond (.t 90)
  .skip
  (.exit 2))
  (.seq (.block 3 (.seq (.reg [⟨(some 91), none, .op (.mv (.t 89))⟩,
  ⟨(some 15), none, .op (.mv (.t 91))⟩] [])
  (.seq (.reg [⟨(some 92), none, .op (.mv (.t 9))⟩,
  ⟨(some 93), none, .op (.mv (.t 15))⟩,
  ⟨(some 94), none, .op (.bin .none .sub (.t 92) (.t 93))⟩,
  ⟨(some 95), none, .op (.mv (.t 7))⟩,
  ⟨(some 96), none, .op (.bin .none .add (.t 94) (.t 95))⟩,
  ⟨(some 97), none, .op (.mv (.t 7))⟩,
  ⟨(some 98), none, .op (.bin .none .rem (.t 96) (.t 97))⟩,
  ⟨(some 99), none, .op (.mv (.t 8))⟩,
  ⟨(some 100), none, .op (.mv (.t 15))⟩,
  ⟨(some 101), none, .op (.bin .none .sub (.t 99) (.t 100))⟩,
  ⟨(some 102), none, .op (.mv (.t 7))⟩,
  ⟨(some 103), none, .op (.bin .none .add (.t 101) (.t 102))⟩,
  ⟨(some 104), none, .op (.mv (.t 7))⟩,
  ⟨(some 105), none, .op (.bin .none .rem (.t 103) (.t 104))⟩,
  ⟨(some 106), none, .op (.bin .none .lss (.t 98) (.t 105))⟩,
  ⟨(some 16), none, .op (.mv (.t 106))⟩] [])
  (.seq (.seq (.reg [⟨(some 107), none, .op (.mv (.t 15))⟩,
  ⟨(some 108), none, .op (.mv (.t 8))⟩,
  ⟨(some 109), none, .op (.bin .none .eql (.t 107) (.t 108))⟩] [])
  (.cond (.t 109)
  (.reg [⟨(some 16), none, .op (.mv (.v (.bool false)))⟩] [])
  .skip))
  (.seq (.reg [⟨(some 110), none, .op (.mv (.t 13))⟩,
  ⟨(some 111), none, .op (.mv (.t 15))⟩,
  ⟨(some 112), none, .op (.iad none none (.t 110) (.t 111))⟩,
  ⟨(some 113), none, .op (.load none (.t 112))⟩,
  ⟨(some 114), none, .op (.len .sl (.t 113))⟩,
  ⟨(some 115), none, .op (.bin .none .eql (.t 114) (.v (.int .i64 1)))⟩,
  ⟨(some 116), none, .op (.mv (.t 16))⟩,
  ⟨(some 117), none, .op (.bin .bool .neq (.t 115) (.t 116))⟩] [])
  (.cond (.t 117)
  (.seq (.reg [⟨(some 6), none, .op (.mv (.v (.bool false)))⟩] [])
  .ret)
  .skip))))))
  (.reg [⟨(some 118), none, .op (.bin .none .add (.t 89) (.v (.int .i64 1)))⟩,
  ⟨(some 89), none, .op (.mv (.t 118))⟩] [])))))))
  (.seq (.reg [⟨(some 6), none, .op (.mv (.v (.bool true)))⟩] [])
  .ret)))))))))))
theorem gn_windlasslaw11_LiveLoops : Fn3S Tryd.prog 3 119 [(6, none)] gc_windlasslaw11_LiveLoops := ⟨_, _, Tryd.func3, rfl, rfl, rfl, by kernel_rfl, by kernel_rfl⟩
def windlasslaw11_LiveLoops_s (fuel : Nat) (n_00 : Int) (w_01 : Int) (d_02 : Int) : Option Bool :=
  ((windlasslaw11_first_s fuel).bind fun fir_1 => (if (!fir_1) then (some false) else (gd ((U64 (I64 (3 + (I64 (Int.tmod (U64 n_00) 60))))) ≠ 0) (gd ((U64 (I64 (3 + (I64 (Int.tmod (U64 n_00) 60))))) ≠ 0) (if ((I64 (Int.tmod (U64 w_01) (U64 (I64 (3 + (I64 (Int.tmod (U64 n_00) 60))))))) == (I64 (Int.tmod (U64 d_02) (U64 (I64 (3 + (I64 (Int.tmod (U64 n_00) 60)))))))) then (some true) else ((rni (fun (i_5 : Nat) (s_4 : (List Node)) => ((gd ((I64 (3 + (I64 (Int.tmod (U64 n_00) 60)))) ≠ 0) (jp (fun (s_8 : Int) => (jp (fun (s_11 : Int) => ((appL 104 s_4 [(Node.mk s_11 0 0 0 0 0 0 0 0 [] (Int.tmod (I64 ((i_5 : Int) + 1)) (I64 (3 + (I64 (Int.tmod (U64 n_00) 60))))) 0)]).bind fun l_13 => (some (.nxt l_13)))) (fun k_10 => (if ((i_5 : Int) == (I64 (Int.tmod (U64 d_02) (U64 (I64 (3 + (I64 (Int.tmod (U64 n_00) 60)))))))) then (gd ((I64 (3 + (I64 (Int.tmod (U64 n_00) 60)))) ≠ 0) (k_10 17)) else (k_10 s_8))))) (fun k_7 => (if ((i_5 : Int) == (I64 (Int.tmod (U64 w_01) (U64 (I64 (3 + (I64 (Int.tmod (U64 n_00) 60)))))))) then (gd ((I64 (3 + (I64 (Int.tmod (U64 n_00) 60)))) ≠ 0) (k_7 1)) else (k_7 10))))) : Option (Stp (List Node) (Option Bool)))) (I64 (3 + (I64 (Int.tmod (U64 n_00) 60)))) []).bind (oc (fun (s_4 : (List Node)) => ((live_In_s fuel (Graphs.mk ([(Graph.mk [] ([0]) 0 [] false (-1) s_4 0)])) 0).bind fun vin_14 => (jp (fun (s_16 : Bool) => (if s_16 then (some false) else ((rni (fun (i_18 : Nat) (s_17 : Unit) => ((gd ((I64 (3 + (I64 (Int.tmod (U64 n_00) 60)))) ≠ 0) (gd ((I64 (3 + (I64 (Int.tmod (U64 n_00) 60)))) ≠ 0) (jp (fun (s_22 : Bool) => ((getI vin_14.1 (i_18 : Int)).bind fun y_23 => (if (!(((List.length y_23 : Int) == 1) == s_22)) then (some (.ret (some false))) else (some (.nxt ()))))) (fun k_21 => (if ((i_18 : Int) == (I64 (Int.tmod (U64 w_01) (U64 (I64 (3 + (I64 (Int.tmod (U64 n_00) 60)))))))) then (k_21 false) else (k_21 (decide ((Int.tmod (I64 ((I64 ((I64 (Int.tmod (U64 d_02) (U64 (I64 (3 + (I64 (Int.tmod (U64 n_00) 60))))))) - (i_18 : Int))) + (I64 (3 + (I64 (Int.tmod (U64 n_00) 60)))))) (I64 (3 + (I64 (Int.tmod (U64 n_00) 60))))) < (Int.tmod (I64 ((I64 ((I64 (Int.tmod (U64 w_01) (U64 (I64 (3 + (I64 (Int.tmod (U64 n_00) 60))))))) - (i_18 : Int))) + (I64 (3 + (I64 (Int.tmod (U64 n_00) 60)))))) (I64 (3 + (I64 (Int.tmod (U64 n_00) 60))))))))))))) : Option (Stp Unit (Option Bool)))) (I64 (3 + (I64 (Int.tmod (U64 n_00) 60)))) ()).bind (oc (fun (s_17 : Unit) => (some true)))))) (fun k_15 => (if (vin_14.2 != 0) then (k_15 true) else (k_15 ((List.length vin_14.1 : Int) != (I64 (3 + (I64 (Int.tmod (U64 n_00) 60))))))))))))))))))
theorem windlasslaw11_LiveLoops_ev {fuel : Nat} {n_00 : Int} {w_01 : Int} {d_02 : Int} {r : Bool} (h : windlasslaw11_LiveLoops_s fuel n_00 w_01 d_02 = some r) : PureEv Tryd.prog 3 [(.int .i64 n_00), (.int .i64 w_01), (.int .i64 d_02)] (.bool r) := by
  unfold windlasslaw11_LiveLoops_s at h
  refine PureEv_endS mixed gn_windlasslaw11_LiveLoops (by simp) [10, 12, 70] 6 ?_
  unfold gc_windlasslaw11_LiveLoops
  refine E_sq ?_
  refine E_reg ?_
  refine E_mv (v' := (.bool false)) rfl ?_
  refine E_nil ?_
  refine E_nx ?_
  refine E_as ?_
  refine E_sq ?_
  refine E_reg ?_
  obtain ⟨fir_1, hfir_1, h⟩ := bd_some h
  refine E_callW (windlasslaw11_first_ev (fuel := fuel)  hfir_1) rfl trivial (blwL_of trivial) rfl ?_
  refine E_op0 (v' := (.bool (!fir_1))) rfl rfl ?_
  refine E_nil ?_
  refine E_nx ?_
  refine E_sq ?_
  refine E_cs (t := (!fir_1)) rfl (fun hb => ?_) (fun hb => ?_)
  · rw [ite_t hb] at h
    refine E_sq ?_
    refine E_reg ?_
    refine E_mv (v' := (.bool false)) rfl ?_
    refine E_nil ?_
    refine E_nx ?_
    refine E_ret ?_
    refine E_thr ?_
    cases h
    exact ⟨trivial, _, rfl, (fz_b rfl (.refl _))⟩
  · rw [ite_f hb] at h
    refine E_skip ?_
    refine E_nx ?_
    refine E_sq ?_
    refine E_reg ?_
    refine E_mv (v' := (.int .i64 n_00)) rfl ?_
    refine E_op0 (v' := (.int .u64 (U64 n_00))) rfl rfl ?_
    refine E_op0 (v' := (.int .u64 (Int.tmod (U64 n_00) 60))) rfl rfl ?_
    refine E_op0 (v' := (.int .i64 (I64 (Int.tmod (U64 n_00) 60)))) rfl rfl ?_
    refine E_op0 (v' := (.int .i64 (I64 (3 + (I64 (Int.tmod (U64 n_00) 60)))))) rfl rfl ?_
    refine E_mv (v' := (.int .i64 (I64 (3 + (I64 (Int.tmod (U64 n_00) 60)))))) rfl ?_
    refine E_nil ?_
    refine E_nx ?_
    refine E_sq ?_
    refine E_reg ?_
    refine E_mv (v' := (.int .i64 w_01)) rfl ?_
    refine E_op0 (v' := (.int .u64 (U64 w_01))) rfl rfl ?_
    refine E_mv (v' := (.int .i64 (I64 (3 + (I64 (Int.tmod (U64 n_00) 60)))))) rfl ?_
    refine E_op0 (v' := (.int .u64 (U64 (I64 (3 + (I64 (Int.tmod (U64 n_00) 60))))))) rfl rfl ?_
    obtain ⟨hg_2, h⟩ := gd_some h
    refine E_rem rfl rfl hg_2 ?_
    refine E_op0 (v' := (.int .i64 (I64 (Int.tmod (U64 w_01) (U64 (I64 (3 + (I64 (Int.tmod (U64 n_00) 60))))))))) rfl rfl ?_
    refine E_mv (v' := (.int .i64 d_02)) rfl ?_
    refine E_op0 (v' := (.int .u64 (U64 d_02))) rfl rfl ?_
    refine E_mv (v' := (.int .i64 (I64 (3 + (I64 (Int.tmod (U64 n_00) 60)))))) rfl ?_
    refine E_op0 (v' := (.int .u64 (U64 (I64 (3 + (I64 (Int.tmod (U64 n_00) 60))))))) rfl rfl ?_
    obtain ⟨hg_3, h⟩ := gd_some h
    refine E_rem rfl rfl hg_3 ?_
    refine E_op0 (v' := (.int .i64 (I64 (Int.tmod (U64 d_02) (U64 (I64 (3 + (I64 (Int.tmod (U64 n_00) 60))))))))) rfl rfl ?_
    refine E_mv (v' := (.int .i64 (I64 (Int.tmod (U64 w_01) (U64 (I64 (3 + (I64 (Int.tmod (U64 n_00) 60))))))))) rfl ?_
    refine E_mv (v' := (.int .i64 (I64 (Int.tmod (U64 d_02) (U64 (I64 (3 + (I64 (Int.tmod (U64 n_00) 60))))))))) rfl ?_
    refine E_nil ?_
    refine E_nx ?_
    refine E_as ?_
    refine E_sq ?_
    refine E_reg ?_
    refine E_mv (v' := (.int .i64 (I64 (Int.tmod (U64 w_01) (U64 (I64 (3 + (I64 (Int.tmod (U64 n_00) 60))))))))) rfl ?_
    refine E_mv (v' := (.int .i64 (I64 (Int.tmod (U64 d_02) (U64 (I64 (3 + (I64 (Int.tmod (U64 n_00) 60))))))))) rfl ?_
    refine E_op0 (v' := (.bool ((I64 (Int.tmod (U64 w_01) (U64 (I64 (3 + (I64 (Int.tmod (U64 n_00) 60))))))) == (I64 (Int.tmod (U64 d_02) (U64 (I64 (3 + (I64 (Int.tmod (U64 n_00) 60)))))))))) rfl rfl ?_
    refine E_nil ?_
    refine E_nx ?_
    refine E_sq ?_
    refine E_cs (t := ((I64 (Int.tmod (U64 w_01) (U64 (I64 (3 + (I64 (Int.tmod (U64 n_00) 60))))))) == (I64 (Int.tmod (U64 d_02) (U64 (I64 (3 + (I64 (Int.tmod (U64 n_00) 60))))))))) rfl (fun hb => ?_) (fun hb => ?_)
    · rw [ite_t hb] at h
      refine E_sq ?_
      refine E_reg ?_
      refine E_mv (v' := (.bool true)) rfl ?_
      refine E_nil ?_
      refine E_nx ?_
      refine E_ret ?_
      refine E_thr ?_
      cases h
      exact ⟨trivial, _, rfl, (fz_b rfl (.refl _))⟩
    · rw [ite_f hb] at h
      refine E_skip ?_
      refine E_nx ?_
      refine E_sq ?_
      refine E_reg ?_
      refine E_opw (v' := (.sl true 1 (List.map (avI .u8) [0]))) rfl (.refl _) rfl ?_
      refine E_op0 (v' := (.agg [.nils, (.sl true 1 (List.map (avI .u8) [0])), (.int .i64 0), .nils, (.bool false), (.int .i64 (-1)), .nils, (.int .i64 0)])) rfl rfl ?_
      refine E_op (v' := .ptr 0 0 0) (S' := [.arr 0 [.nils, .nils, (.int .i64 0), .nils, (.bool false), (.int .i64 0), .nils, (.int .i64 0)]]) rfl rfl rfl ?_
      refine E_do (S' := [.arr 0 [.nils, (.sl true 1 (List.map (avI .u8) [0])), (.int .i64 0), .nils, (.bool false), (.int .i64 (-1)), .nils, (.int .i64 0)]]) rfl rfl ?_
      refine E_nil ?_
      refine E_nx ?_
      refine E_as ?_
      refine E_sq ?_
      refine E_reg ?_
      refine E_mv (v' := (.int .i64 (I64 (3 + (I64 (Int.tmod (U64 n_00) 60)))))) rfl ?_
      refine E_mv (v' := (.int .i64 0)) rfl ?_
      refine E_nil ?_
      refine E_nx ?_
      refine E_sq ?_
      refine E_rniO (fun s_4 => [(7, (.int .i64 (I64 (3 + (I64 (Int.tmod (U64 n_00) 60)))))), (8, (.int .i64 (I64 (Int.tmod (U64 w_01) (U64 (I64 (3 + (I64 (Int.tmod (U64 n_00) 60))))))))), (9, (.int .i64 (I64 (Int.tmod (U64 d_02) (U64 (I64 (3 + (I64 (Int.tmod (U64 n_00) 60))))))))), (10, (.ptr 0 0 0))]) (fun s_4 => [.arr 0 [.nils, (.sl true 1 (List.map (avI .u8) [0])), (.int .i64 0), .nils, (.bool false), (.int .i64 (-1)), (.ref 1 1 0 (List.length s_4) (some 12)), (.int .i64 0)], .arr 1 (flat Node.av s_4)]) h (by decide) (by decide) (fun _ => ⟨rfl, rfl, rfl, rfl⟩) (wk_rn [some (0, 0), none] rfl (Nat.le_of_ble_eq_true rfl) ⟨(rn_ob rfl rfl (.cons (rn_b rfl) (.cons (rn_b ((encI .u8).blws 0)) (.cons (rn_b rfl) (.cons (rn_b rfl) (.cons (rn_b rfl) (.cons (rn_b rfl) (.cons (rn_nil rfl) (.cons (rn_b rfl) (.nil (Nat.zero_le _)))))))))) rfl), (rn_obN rfl rfl rfl), trivial⟩ ⟨(rn_b rfl), (rn_b rfl), (rn_b rfl), (rn_b rfl), (rn_b rfl), (rn_ptr rfl rfl rfl rfl), trivial⟩) (fun i_5 s_4 c hlt h => ?_) (fun s_4 fr' S' h hw => ?_)
      · refine E_sq ?_
        refine E_reg ?_
        refine E_mv (v' := (.int .i64 (i_5 : Int))) rfl ?_
        refine E_mv (v' := (.int .i64 (i_5 : Int))) rfl ?_
        refine E_nil ?_
        refine E_nx ?_
        refine E_sq ?_
        refine E_reg ?_
        refine E_mv (v' := (.int .i64 (i_5 : Int))) rfl ?_
        refine E_op0 (v' := (.int .i64 (I64 ((i_5 : Int) + 1)))) rfl rfl ?_
        refine E_mv (v' := (.int .i64 (I64 (3 + (I64 (Int.tmod (U64 n_00) 60)))))) rfl ?_
        obtain ⟨hg_6, h⟩ := gd_some h
        refine E_rem rfl rfl hg_6 ?_
        refine E_opw (v' := (Node.av (Node.mk 10 0 0 0 0 0 0 0 0 [] (Int.tmod (I64 ((i_5 : Int) + 1)) (I64 (3 + (I64 (Int.tmod (U64 n_00) 60))))) 0))) rfl (.aggL ⟨(.refl _), (.refl _), (.refl _), (.refl _), (.refl _), (.refl _), (.refl _), (.refl _), (.refl _), .nil, (.refl _), (.refl _), trivial⟩) rfl ?_
        refine E_op (v' := .ptr 2 0 0) (S' := [.arr 0 [.nils, (.sl true 1 (List.map (avI .u8) [0])), (.int .i64 0), .nils, (.bool false), (.int .i64 (-1)), (.ref 1 1 0 (List.length s_4) (some 12)), (.int .i64 0)], .arr 1 (flat Node.av s_4), .arr 0 [(.int .u8 0), (.int .u8 0), (.int .i64 0), (.int .i64 0), (.int .i64 0), (.int .i64 0), (.int .i64 0), (.int .i64 0), (.int .u64 0), .nils, (.int .i64 0), (.int .i64 0)]]) rfl rfl rfl ?_
        refine E_do (S' := [.arr 0 [.nils, (.sl true 1 (List.map (avI .u8) [0])), (.int .i64 0), .nils, (.bool false), (.int .i64 (-1)), (.ref 1 1 0 (List.length s_4) (some 12)), (.int .i64 0)], .arr 1 (flat Node.av s_4), .arr 0 [(.int .u8 10), (.int .u8 0), (.int .i64 0), (.int .i64 0), (.int .i64 0), (.int .i64 0), (.int .i64 0), (.int .i64 0), (.int .u64 0), (.sl false 1 (List.map (avI .i64) [])), (.int .i64 (Int.tmod (I64 ((i_5 : Int) + 1)) (I64 (3 + (I64 (Int.tmod (U64 n_00) 60)))))), (.int .i64 0)]]) rfl rfl ?_
        refine E_nil ?_
        refine E_nx ?_
        refine E_as ?_
        refine E_sq ?_
        refine E_reg ?_
        refine E_mv (v' := (.int .i64 (i_5 : Int))) rfl ?_
        refine E_mv (v' := (.int .i64 (I64 (Int.tmod (U64 w_01) (U64 (I64 (3 + (I64 (Int.tmod (U64 n_00) 60))))))))) rfl ?_
        refine E_op0 (v' := (.bool ((i_5 : Int) == (I64 (Int.tmod (U64 w_01) (U64 (I64 (3 + (I64 (Int.tmod (U64 n_00) 60)))))))))) rfl rfl ?_
        refine E_nil ?_
        refine E_nx ?_
        refine E_jp h (fun s_8 => [(7, (.int .i64 (I64 (3 + (I64 (Int.tmod (U64 n_00) 60)))))), (8, (.int .i64 (I64 (Int.tmod (U64 w_01) (U64 (I64 (3 + (I64 (Int.tmod (U64 n_00) 60))))))))), (9, (.int .i64 (I64 (Int.tmod (U64 d_02) (U64 (I64 (3 + (I64 (Int.tmod (U64 n_00) 60))))))))), (10, (.ptr 0 0 0)), (11, (.int .i64 (i_5 : Int))), (12, (.ptr 2 0 0)), (41, (.int .i64 (I64 (3 + (I64 (Int.tmod (U64 n_00) 60)))))), (42, (.int .i64 (i_5 : Int)))]) (fun s_8 => [.arr 0 [.nils, (.sl true 1 (List.map (avI .u8) [0])), (.int .i64 0), .nils, (.bool false), (.int .i64 (-1)), (.ref 1 1 0 (List.length s_4) (some 12)), (.int .i64 0)], .arr 1 (flat Node.av s_4), .arr 0 [(.int .u8 s_8), (.int .u8 0), (.int .i64 0), (.int .i64 0), (.int .i64 0), (.int .i64 0), (.int .i64 0), (.int .i64 0), (.int .u64 0), (.sl false 1 (List.map (avI .i64) [])), (.int .i64 (Int.tmod (I64 ((i_5 : Int) + 1)) (I64 (3 + (I64 (Int.tmod (U64 n_00) 60)))))), (.int .i64 0)]]) (fun k_7 h => ?_) (fun s_8 h => ?_)
        · refine E_cs (t := ((i_5 : Int) == (I64 (Int.tmod (U64 w_01) (U64 (I64 (3 + (I64 (Int.tmod (U64 n_00) 60))))))))) rfl (fun hb => ?_) (fun hb => ?_)
          · rw [ite_t hb] at h
            refine E_reg ?_
            refine E_mv (v' := (.int .i64 (i_5 : Int))) rfl ?_
            refine E_op0 (v' := (.int .i64 (I64 ((i_5 : Int) + 1)))) rfl rfl ?_
            refine E_mv (v' := (.int .i64 (I64 (3 + (I64 (Int.tmod (U64 n_00) 60)))))) rfl ?_
            obtain ⟨hg_9, h⟩ := gd_some h
            refine E_rem rfl rfl hg_9 ?_
            refine E_opw (v' := (Node.av (Node.mk 1 0 0 0 0 0 0 0 0 [] (Int.tmod (I64 ((i_5 : Int) + 1)) (I64 (3 + (I64 (Int.tmod (U64 n_00) 60))))) 0))) rfl (.aggL ⟨(.refl _), (.refl _), (.refl _), (.refl _), (.refl _), (.refl _), (.refl _), (.refl _), (.refl _), .nil, (.refl _), (.refl _), trivial⟩) rfl ?_
            refine E_do (S' := [.arr 0 [.nils, (.sl true 1 (List.map (avI .u8) [0])), (.int .i64 0), .nils, (.bool false), (.int .i64 (-1)), (.ref 1 1 0 (List.length s_4) (some 12)), (.int .i64 0)], .arr 1 (flat Node.av s_4), .arr 0 [(.int .u8 1), (.int .u8 0), (.int .i64 0), (.int .i64 0), (.int .i64 0), (.int .i64 0), (.int .i64 0), (.int .i64 0), (.int .u64 0), (.sl false 1 (List.map (avI .i64) [])), (.int .i64 (Int.tmod (I64 ((i_5 : Int) + 1)) (I64 (3 + (I64 (Int.tmod (U64 n_00) 60)))))), (.int .i64 0)]]) rfl rfl ?_
            refine E_nil ?_
            exact E_jx _ h (wk_rn [some (0, 0), some (1, 0), some (2, 0)] rfl (Nat.le_of_ble_eq_true rfl) ⟨(rn_ob rfl rfl (.cons (rn_b rfl) (.cons (rn_b ((encI .u8).blws 0)) (.cons (rn_b rfl) (.cons (rn_b rfl) (.cons (rn_b rfl) (.cons (rn_b rfl) (.cons (rn_refL Node.enc rfl rfl rfl) (.cons (rn_b rfl) (.nil (Nat.zero_le _)))))))))) rfl), (rn_ob rfl rfl (.refl (Node.enc.blwf 0 _)) rfl), (rn_ob rfl rfl (.cons (rn_b rfl) (.cons (rn_b rfl) (.cons (rn_b rfl) (.cons (rn_b rfl) (.cons (rn_b rfl) (.cons (rn_b rfl) (.cons (rn_b rfl) (.cons (rn_b rfl) (.cons (rn_b rfl) (.cons (rn_b ((encI .i64).blws 0)) (.cons (rn_b rfl) (.cons (rn_b rfl) (.nil (Nat.zero_le _)))))))))))))) rfl), trivial⟩ ⟨(rn_b rfl), (rn_b rfl), (rn_b rfl), (rn_ptr rfl rfl rfl rfl), (rn_b rfl), (rn_ptr rfl rfl rfl rfl), (rn_b rfl), (rn_b rfl), trivial⟩)
          · rw [ite_f hb] at h
            refine E_skip ?_
            exact E_jx _ h (wk_rn [some (0, 0), some (1, 0), some (2, 0)] rfl (Nat.le_of_ble_eq_true rfl) ⟨(rn_ob rfl rfl (.cons (rn_b rfl) (.cons (rn_b ((encI .u8).blws 0)) (.cons (rn_b rfl) (.cons (rn_b rfl) (.cons (rn_b rfl) (.cons (rn_b rfl) (.cons (rn_refL Node.enc rfl rfl rfl) (.cons (rn_b rfl) (.nil (Nat.zero_le _)))))))))) rfl), (rn_ob rfl rfl (.refl (Node.enc.blwf 0 _)) rfl), (rn_ob rfl rfl (.cons (rn_b rfl) (.cons (rn_b rfl) (.cons (rn_b rfl) (.cons (rn_b rfl) (.cons (rn_b rfl) (.cons (rn_b rfl) (.cons (rn_b rfl) (.cons (rn_b rfl) (.cons (rn_b rfl) (.cons (rn_b ((encI .i64).blws 0)) (.cons (rn_b rfl) (.cons (rn_b rfl) (.nil (Nat.zero_le _)))))))))))))) rfl), trivial⟩ ⟨(rn_b rfl), (rn_b rfl), (rn_b rfl), (rn_ptr rfl rfl rfl rfl), (rn_b rfl), (rn_ptr rfl rfl rfl rfl), (rn_b rfl), (rn_b rfl), trivial⟩)
        · refine E_as ?_
          refine E_sq ?_
          refine E_reg ?_
          refine E_mv (v' := (.int .i64 (i_5 : Int))) rfl ?_
          refine E_mv (v' := (.int .i64 (I64 (Int.tmod (U64 d_02) (U64 (I64 (3 + (I64 (Int.tmod (U64 n_00) 60))))))))) rfl ?_
          refine E_op0 (v' := (.bool ((i_5 : Int) == (I64 (Int.tmod (U64 d_02) (U64 (I64 (3 + (I64 (Int.tmod (U64 n_00) 60)))))))))) rfl rfl ?_
          refine E_nil ?_
          refine E_nx ?_
          refine E_jp h (fun s_11 => [(7, (.int .i64 (I64 (3 + (I64 (Int.tmod (U64 n_00) 60)))))), (8, (.int .i64 (I64 (Int.tmod (U64 w_01) (U64 (I64 (3 + (I64 (Int.tmod (U64 n_00) 60))))))))), (9, (.int .i64 (I64 (Int.tmod (U64 d_02) (U64 (I64 (3 + (I64 (Int.tmod (U64 n_00) 60))))))))), (10, (.ptr 0 0 0)), (12, (.ptr 2 0 0)), (41, (.int .i64 (I64 (3 + (I64 (Int.tmod (U64 n_00) 60)))))), (42, (.int .i64 (i_5 : Int)))]) (fun s_11 => [.arr 0 [.nils, (.sl true 1 (List.map (avI .u8) [0])), (.int .i64 0), .nils, (.bool false), (.int .i64 (-1)), (.ref 1 1 0 (List.length s_4) (some 12)), (.int .i64 0)], .arr 1 (flat Node.av s_4), .arr 0 [(.int .u8 s_11), (.int .u8 0), (.int .i64 0), (.int .i64 0), (.int .i64 0), (.int .i64 0), (.int .i64 0), (.int .i64 0), (.int .u64 0), (.sl false 1 (List.map (avI .i64) [])), (.int .i64 (Int.tmod (I64 ((i_5 : Int) + 1)) (I64 (3 + (I64 (Int.tmod (U64 n_00) 60)))))), (.int .i64 0)]]) (fun k_10 h => ?_) (fun s_11 h => ?_)
          · refine E_cs (t := ((i_5 : Int) == (I64 (Int.tmod (U64 d_02) (U64 (I64 (3 + (I64 (Int.tmod (U64 n_00) 60))))))))) rfl (fun hb => ?_) (fun hb => ?_)
            · rw [ite_t hb] at h
              refine E_reg ?_
              refine E_mv (v' := (.int .i64 (i_5 : Int))) rfl ?_
              refine E_op0 (v' := (.int .i64 (I64 ((i_5 : Int) + 1)))) rfl rfl ?_
              refine E_mv (v' := (.int .i64 (I64 (3 + (I64 (Int.tmod (U64 n_00) 60)))))) rfl ?_
              obtain ⟨hg_12, h⟩ := gd_some h
              refine E_rem rfl rfl hg_12 ?_
              refine E_opw (v' := (Node.av (Node.mk 17 0 0 0 0 0 0 0 0 [] (Int.tmod (I64 ((i_5 : Int) + 1)) (I64 (3 + (I64 (Int.tmod (U64 n_00) 60))))) 0))) rfl (.aggL ⟨(.refl _), (.refl _), (.refl _), (.refl _), (.refl _), (.refl _), (.refl _), (.refl _), (.refl _), .nil, (.refl _), (.refl _), trivial⟩) rfl ?_
              refine E_do (S' := [.arr 0 [.nils, (.sl true 1 (List.map (avI .u8) [0])), (.int .i64 0), .nils, (.bool false), (.int .i64 (-1)), (.ref 1 1 0 (List.length s_4) (some 12)), (.int .i64 0)], .arr 1 (flat Node.av s_4), .arr 0 [(.int .u8 17), (.int .u8 0), (.int .i64 0), (.int .i64 0), (.int .i64 0), (.int .i64 0), (.int .i64 0), (.int .i64 0), (.int .u64 0), (.sl false 1 (List.map (avI .i64) [])), (.int .i64 (Int.tmod (I64 ((i_5 : Int) + 1)) (I64 (3 + (I64 (Int.tmod (U64 n_00) 60)))))), (.int .i64 0)]]) rfl rfl ?_
              refine E_nil ?_
              exact E_jx _ h (wk_rn [some (0, 0), some (1, 0), some (2, 0)] rfl (Nat.le_of_ble_eq_true rfl) ⟨(rn_ob rfl rfl (.cons (rn_b rfl) (.cons (rn_b ((encI .u8).blws 0)) (.cons (rn_b rfl) (.cons (rn_b rfl) (.cons (rn_b rfl) (.cons (rn_b rfl) (.cons (rn_refL Node.enc rfl rfl rfl) (.cons (rn_b rfl) (.nil (Nat.zero_le _)))))))))) rfl), (rn_ob rfl rfl (.refl (Node.enc.blwf 0 _)) rfl), (rn_ob rfl rfl (.cons (rn_b rfl) (.cons (rn_b rfl) (.cons (rn_b rfl) (.cons (rn_b rfl) (.cons (rn_b rfl) (.cons (rn_b rfl) (.cons (rn_b rfl) (.cons (rn_b rfl) (.cons (rn_b rfl) (.cons (rn_b ((encI .i64).blws 0)) (.cons (rn_b rfl) (.cons (rn_b rfl) (.nil (Nat.zero_le _)))))))))))))) rfl), trivial⟩ ⟨(rn_b rfl), (rn_b rfl), (rn_b rfl), (rn_ptr rfl rfl rfl rfl), (rn_ptr rfl rfl rfl rfl), (rn_b rfl), (rn_b rfl), trivial⟩)
            · rw [ite_f hb] at h
              refine E_skip ?_
              exact E_jx _ h (wk_rn [some (0, 0), some (1, 0), some (2, 0)] rfl (Nat.le_of_ble_eq_true rfl) ⟨(rn_ob rfl rfl (.cons (rn_b rfl) (.cons (rn_b ((encI .u8).blws 0)) (.cons (rn_b rfl) (.cons (rn_b rfl) (.cons (rn_b rfl) (.cons (rn_b rfl) (.cons (rn_refL Node.enc rfl rfl rfl) (.cons (rn_b rfl) (.nil (Nat.zero_le _)))))))))) rfl), (rn_ob rfl rfl (.refl (Node.enc.blwf 0 _)) rfl), (rn_ob rfl rfl (.cons (rn_b rfl) (.cons (rn_b rfl) (.cons (rn_b rfl) (.cons (rn_b rfl) (.cons (rn_b rfl) (.cons (rn_b rfl) (.cons (rn_b rfl) (.cons (rn_b rfl) (.cons (rn_b rfl) (.cons (rn_b ((encI .i64).blws 0)) (.cons (rn_b rfl) (.cons (rn_b rfl) (.nil (Nat.zero_le _)))))))))))))) rfl), trivial⟩ ⟨(rn_b rfl), (rn_b rfl), (rn_b rfl), (rn_ptr rfl rfl rfl rfl), (rn_ptr rfl rfl rfl rfl), (rn_b rfl), (rn_b rfl), trivial⟩)
          · refine E_reg ?_
            refine E_op0 (v' := (.ptr 0 0 6)) rfl rfl ?_
            refine E_op (v' := (.ref 1 1 0 (List.length s_4) (some 12))) (S' := [.arr 0 [.nils, (.sl true 1 (List.map (avI .u8) [0])), (.int .i64 0), .nils, (.bool false), (.int .i64 (-1)), (.ref 1 1 0 (List.length s_4) (some 12)), (.int .i64 0)], .arr 1 (flat Node.av s_4), .arr 0 [(.int .u8 s_11), (.int .u8 0), (.int .i64 0), (.int .i64 0), (.int .i64 0), (.int .i64 0), (.int .i64 0), (.int .i64 0), (.int .u64 0), (.sl false 1 (List.map (avI .i64) [])), (.int .i64 (Int.tmod (I64 ((i_5 : Int) + 1)) (I64 (3 + (I64 (Int.tmod (U64 n_00) 60)))))), (.int .i64 0)]]) rfl rfl rfl ?_
            refine E_opw (v' := (Node.av (Node.mk s_11 0 0 0 0 0 0 0 0 [] (Int.tmod (I64 ((i_5 : Int) + 1)) (I64 (3 + (I64 (Int.tmod (U64 n_00) 60))))) 0))) rfl (.aggL ⟨(.refl _), (.refl _), (.refl _), (.refl _), (.refl _), (.refl _), (.refl _), (.refl _), (.refl _), (.refl _), (.refl _), (.refl _), trivial⟩) rfl ?_
            refine E_opw (v' := (.sl true 12 (List.map Node.av [(Node.mk s_11 0 0 0 0 0 0 0 0 [] (Int.tmod (I64 ((i_5 : Int) + 1)) (I64 (3 + (I64 (Int.tmod (U64 n_00) 60))))) 0)]))) rfl (.refl _) rfl ?_
            obtain ⟨l_13, hl_13, h⟩ := bd_some h
            refine E_apL (S' := [.arr 0 [.nils, (.sl true 1 (List.map (avI .u8) [0])), (.int .i64 0), .nils, (.bool false), (.int .i64 (-1)), (.ref 1 1 0 (List.length s_4) (some 12)), (.int .i64 0)], .arr 2 (flat Node.av l_13), .arr 0 [(.int .u8 s_11), (.int .u8 0), (.int .i64 0), (.int .i64 0), (.int .i64 0), (.int .i64 0), (.int .i64 0), (.int .i64 0), (.int .u64 0), (.sl false 1 (List.map (avI .i64) [])), (.int .i64 (Int.tmod (I64 ((i_5 : Int) + 1)) (I64 (3 + (I64 (Int.tmod (U64 n_00) 60)))))), (.int .i64 0)]]) Node.enc rfl (src_sl [(Node.mk s_11 0 0 0 0 0 0 0 0 [] (Int.tmod (I64 ((i_5 : Int) + 1)) (I64 (3 + (I64 (Int.tmod (U64 n_00) 60))))) 0)]) rfl hl_13 rfl ?_
            refine E_op0 (v' := (.ptr 0 0 6)) rfl rfl ?_
            refine E_do (S' := [.arr 0 [.nils, (.sl true 1 (List.map (avI .u8) [0])), (.int .i64 0), .nils, (.bool false), (.int .i64 (-1)), (.ref 1 2 0 (List.length l_13) (some 12)), (.int .i64 0)], .arr 2 (flat Node.av l_13), .arr 0 [(.int .u8 s_11), (.int .u8 0), (.int .i64 0), (.int .i64 0), (.int .i64 0), (.int .i64 0), (.int .i64 0), (.int .i64 0), (.int .u64 0), (.sl false 1 (List.map (avI .i64) [])), (.int .i64 (Int.tmod (I64 ((i_5 : Int) + 1)) (I64 (3 + (I64 (Int.tmod (U64 n_00) 60)))))), (.int .i64 0)]]) rfl rfl ?_
            refine E_nil ?_
            cases h
            exact L_nn rfl (wk_rn [some (0, 0), some (1, 0)] rfl (Nat.le_of_ble_eq_true rfl) ⟨(rn_ob rfl rfl (.cons (rn_b rfl) (.cons (rn_b ((encI .u8).blws 0)) (.cons (rn_b rfl) (.cons (rn_b rfl) (.cons (rn_b rfl) (.cons (rn_b rfl) (.cons (rn_refL Node.enc rfl rfl rfl) (.cons (rn_b rfl) (.nil (Nat.zero_le _)))))))))) rfl), (rn_ob rfl rfl (.refl (Node.enc.blwf 0 _)) rfl), trivial⟩ ⟨(rn_b rfl), (rn_b rfl), (rn_b rfl), (rn_b rfl), (rn_b rfl), (rn_ptr rfl rfl rfl rfl), trivial⟩)
      · refine X_nx hw ?_
        refine E_sq ?_
        refine E_block ?_
        refine E_sq ?_
        refine E_reg ?_
        refine E_op (v' := (.agg [.nils, (.sl true 1 (List.map (avI .u8) [0])), (.int .i64 0), .nils, (.bool false), (.int .i64 (-1)), (.ref 1 1 0 (List.length s_4) (some 12)), (.int .i64 0)])) (S' := [.arr 0 [.nils, (.sl true 1 (List.map (avI .u8) [0])), (.int .i64 0), .nils, (.bool false), (.int .i64 (-1)), (.ref 1 1 0 (List.length s_4) (some 12)), (.int .i64 0)], .arr 1 (flat Node.av s_4)]) rfl rfl rfl ?_
        refine E_nil ?_
        refine E_nxw (F := [(7, (.int .i64 (I64 (3 + (I64 (Int.tmod (U64 n_00) 60)))))), (8, (.int .i64 (I64 (Int.tmod (U64 w_01) (U64 (I64 (3 + (I64 (Int.tmod (U64 n_00) 60))))))))), (9, (.int .i64 (I64 (Int.tmod (U64 d_02) (U64 (I64 (3 + (I64 (Int.tmod (U64 n_00) 60))))))))), (74, (.agg [.nils, (.sl true 1 (List.map (avI .u8) [0])), (.int .i64 0), .nils, (.bool false), (.int .i64 (-1)), (.sl false 12 (List.map Node.av s_4)), (.int .i64 0)]))]) (T := []) (wk_trans (fr'' := [(7, (.int .i64 (I64 (3 + (I64 (Int.tmod (U64 n_00) 60)))))), (8, (.int .i64 (I64 (Int.tmod (U64 w_01) (U64 (I64 (3 + (I64 (Int.tmod (U64 n_00) 60))))))))), (9, (.int .i64 (I64 (Int.tmod (U64 d_02) (U64 (I64 (3 + (I64 (Int.tmod (U64 n_00) 60))))))))), (74, (.agg [.nils, (.sl true 1 (List.map (avI .u8) [0])), (.int .i64 0), .nils, (.bool false), (.int .i64 (-1)), (.sl false 12 (List.map Node.av s_4)), (.int .i64 0)]))]) (S'' := []) (wk_rn (fr' := [(7, (.int .i64 (I64 (3 + (I64 (Int.tmod (U64 n_00) 60)))))), (8, (.int .i64 (I64 (Int.tmod (U64 w_01) (U64 (I64 (3 + (I64 (Int.tmod (U64 n_00) 60))))))))), (9, (.int .i64 (I64 (Int.tmod (U64 d_02) (U64 (I64 (3 + (I64 (Int.tmod (U64 n_00) 60))))))))), (74, (.agg [.nils, (.sl true 1 (List.map (avI .u8) [0])), (.int .i64 0), .nils, (.bool false), (.int .i64 (-1)), (.ref 0 1 0 (List.length s_4) (some 12)), (.int .i64 0)]))]) (S' := [.arr 1 (flat Node.av s_4)]) [some (1, 0)] rfl (Nat.le_of_ble_eq_true rfl) ⟨(rn_ob rfl rfl (.refl (Node.enc.blwf 0 _)) rfl), trivial⟩ ⟨(rn_b rfl), (rn_b rfl), (rn_b rfl), (rn_agg ⟨(rn_b rfl), (rn_b ((encI .u8).blws 0)), (rn_b rfl), (rn_b rfl), (rn_b rfl), (rn_b rfl), (rn_refL Node.enc rfl rfl rfl), (rn_b rfl), trivial⟩), trivial⟩) (wk_fz 0 6 rfl trivial ⟨(fz_b rfl (.refl _)), (fz_b rfl (.refl _)), (fz_b rfl (.refl _)), (fz_agg ⟨(fz_b rfl (.refl _)), (fz_b ((encI .u8).blws 0) (.refl _)), (fz_b rfl (.refl _)), (fz_b rfl (.refl _)), (fz_b rfl (.refl _)), (fz_b rfl (.refl _)), (fz_ref Node.enc (Nat.le_of_ble_eq_true rfl) rfl), (fz_b rfl (.refl _)), trivial⟩), trivial⟩)) ?_
        refine E_reg ?_
        refine E_opw (v' := (.sl true 8 (List.map Graph.av [(Graph.mk [] ([0]) 0 [] false (-1) s_4 0)]))) rfl (.slL ⟨⟨rfl, ⟨.nil, .ex, (.refl _), .nil, (.refl _), (.refl _), (.refl _), (.refl _), trivial⟩⟩, trivial⟩) rfl ?_
        refine E_opw (v' := (Graphs.av (Graphs.mk ([(Graph.mk [] ([0]) 0 [] false (-1) s_4 0)])))) rfl (.aggL ⟨.ex, trivial⟩) rfl ?_
        obtain ⟨vin_14, hvin_14, h⟩ := bd_some h
        refine E_callW (live_In_ev (fuel := fuel)  hvin_14) rfl ⟨(.refl _), (.refl _), trivial⟩ (blwL_of ⟨(Graphs.enc.blw _ 0), rfl, trivial⟩) (tup_blw ⟨((encL (encI .i64) 1).blws 0), rfl, trivial⟩) ?_
        refine E_mv (v' := (.tup [(.sl false 1 (List.map (avL 1 (avI .i64)) vin_14.1)), (.int .i64 vin_14.2)])) rfl ?_
        refine E_op0 (v' := (.sl false 1 (List.map (avL 1 (avI .i64)) vin_14.1))) rfl rfl ?_
        refine E_op0 (v' := (.int .i64 vin_14.2)) rfl rfl ?_
        refine E_mv (v' := (.sl false 1 (List.map (avL 1 (avI .i64)) vin_14.1))) rfl ?_
        refine E_mv (v' := (.int .i64 vin_14.2)) rfl ?_
        refine E_nil ?_
        refine E_bln ?_
        refine E_nx ?_
        refine E_as ?_
        refine E_jp h (fun s_16 => [(7, (.int .i64 (I64 (3 + (I64 (Int.tmod (U64 n_00) 60)))))), (8, (.int .i64 (I64 (Int.tmod (U64 w_01) (U64 (I64 (3 + (I64 (Int.tmod (U64 n_00) 60))))))))), (9, (.int .i64 (I64 (Int.tmod (U64 d_02) (U64 (I64 (3 + (I64 (Int.tmod (U64 n_00) 60))))))))), (13, (.sl false 1 (List.map (avL 1 (avI .i64)) vin_14.1))), (87, (.bool s_16))]) (fun s_16 => []) (fun k_15 h => ?_) (fun s_16 h => ?_)
        · refine E_reg ?_
          refine E_mv (v' := (.int .i64 vin_14.2)) rfl ?_
          refine E_op0 (v' := (.bool (vin_14.2 != 0))) rfl rfl ?_
          refine E_mv (v' := (.bool (vin_14.2 != 0))) rfl ?_
          refine E_gsT (b := (vin_14.2 != 0)) rfl rfl rfl (fun hb => ?_) (fun hb => ?_)
          · rw [ite_f hb] at h
            refine E_mv (v' := (.sl false 1 (List.map (avL 1 (avI .i64)) vin_14.1))) rfl ?_
            refine E_gh rfl ?_
            refine E_len rfl ?_
            refine E_gh rfl ?_
            refine E_mv (v' := (.int .i64 (I64 (3 + (I64 (Int.tmod (U64 n_00) 60)))))) rfl ?_
            refine E_gh rfl ?_
            refine E_op0 (v' := (.bool ((List.length vin_14.1 : Int) != (I64 (3 + (I64 (Int.tmod (U64 n_00) 60))))))) rfl rfl ?_
            refine E_pf rfl rfl ?_
            refine E_nil ?_
            exact E_jx _ h (wk_aw ⟨(.refl _), (.refl _), (.refl _), (.refl _), (.refl _), trivial⟩)
          · rw [ite_t hb] at h
            refine E_gm rfl ?_
            refine E_gm rfl ?_
            refine E_gm rfl ?_
            refine E_pt rfl rfl ?_
            refine E_nil ?_
            exact E_jx _ h (wk_aw ⟨(.refl _), (.refl _), (.refl _), (.refl _), (.refl _), trivial⟩)
        · refine E_sq ?_
          refine E_cs (t := s_16) rfl (fun hb => ?_) (fun hb => ?_)
          · rw [ite_t hb] at h
            refine E_sq ?_
            refine E_reg ?_
            refine E_mv (v' := (.bool false)) rfl ?_
            refine E_nil ?_
            refine E_nx ?_
            refine E_ret ?_
            refine E_thr ?_
            cases h
            exact ⟨trivial, _, rfl, (fz_b rfl (.refl _))⟩
          · rw [ite_f hb] at h
            refine E_skip ?_
            refine E_nx ?_
            refine E_as ?_
            refine E_sq ?_
            refine E_reg ?_
            refine E_mv (v' := (.int .i64 (I64 (3 + (I64 (Int.tmod (U64 n_00) 60)))))) rfl ?_
            refine E_mv (v' := (.int .i64 0)) rfl ?_
            refine E_nil ?_
            refine E_nx ?_
            refine E_sq ?_
            refine E_rniO (fun s_17 => [(7, (.int .i64 (I64 (3 + (I64 (Int.tmod (U64 n_00) 60)))))), (8, (.int .i64 (I64 (Int.tmod (U64 w_01) (U64 (I64 (3 + (I64 (Int.tmod (U64 n_00) 60))))))))), (9, (.int .i64 (I64 (Int.tmod (U64 d_02) (U64 (I64 (3 + (I64 (Int.tmod (U64 n_00) 60))))))))), (13, (.sl false 1 (List.map (avL 1 (avI .i64)) vin_14.1)))]) (fun s_17 => []) h (by decide) (by decide) (fun _ => ⟨rfl, rfl, rfl, rfl⟩) (wk_aw ⟨(.refl _), (.refl _), (.refl _), (.refl _), (.refl _), (.refl _), trivial⟩) (fun i_18 s_17 c hlt h => ?_) (fun s_17 fr' S' h hw => ?_)
            · refine E_sq ?_
              refine E_reg ?_
              refine E_mv (v' := (.int .i64 (i_18 : Int))) rfl ?_
              refine E_mv (v' := (.int .i64 (i_18 : Int))) rfl ?_
              refine E_nil ?_
              refine E_nx ?_
              refine E_sq ?_
              refine E_reg ?_
              refine E_mv (v' := (.int .i64 (I64 (Int.tmod (U64 d_02) (U64 (I64 (3 + (I64 (Int.tmod (U64 n_00) 60))))))))) rfl ?_
              refine E_mv (v' := (.int .i64 (i_18 : Int))) rfl ?_
              refine E_op0 (v' := (.int .i64 (I64 ((I64 (Int.tmod (U64 d_02) (U64 (I64 (3 + (I64 (Int.tmod (U64 n_00) 60))))))) - (i_18 : Int))))) rfl rfl ?_
              refine E_mv (v' := (.int .i64 (I64 (3 + (I64 (Int.tmod (U64 n_00) 60)))))) rfl ?_
              refine E_op0 (v' := (.int .i64 (I64 ((I64 ((I64 (Int.tmod (U64 d_02) (U64 (I64 (3 + (I64 (Int.tmod (U64 n_00) 60))))))) - (i_18 : Int))) + (I64 (3 + (I64 (Int.tmod (U64 n_00) 60)))))))) rfl rfl ?_
              refine E_mv (v' := (.int .i64 (I64 (3 + (I64 (Int.tmod (U64 n_00) 60)))))) rfl ?_
              obtain ⟨hg_19, h⟩ := gd_some h
              refine E_rem rfl rfl hg_19 ?_
              refine E_mv (v' := (.int .i64 (I64 (Int.tmod (U64 w_01) (U64 (I64 (3 + (I64 (Int.tmod (U64 n_00) 60))))))))) rfl ?_
              refine E_mv (v' := (.int .i64 (i_18 : Int))) rfl ?_
              refine E_op0 (v' := (.int .i64 (I64 ((I64 (Int.tmod (U64 w_01) (U64 (I64 (3 + (I64 (Int.tmod (U64 n_00) 60))))))) - (i_18 : Int))))) rfl rfl ?_
              refine E_mv (v' := (.int .i64 (I64 (3 + (I64 (Int.tmod (U64 n_00) 60)))))) rfl ?_
              refine E_op0 (v' := (.int .i64 (I64 ((I64 ((I64 (Int.tmod (U64 w_01) (U64 (I64 (3 + (I64 (Int.tmod (U64 n_00) 60))))))) - (i_18 : Int))) + (I64 (3 + (I64 (Int.tmod (U64 n_00) 60)))))))) rfl rfl ?_
              refine E_mv (v' := (.int .i64 (I64 (3 + (I64 (Int.tmod (U64 n_00) 60)))))) rfl ?_
              obtain ⟨hg_20, h⟩ := gd_some h
              refine E_rem rfl rfl hg_20 ?_
              refine E_op0 (v' := (.bool (decide ((Int.tmod (I64 ((I64 ((I64 (Int.tmod (U64 d_02) (U64 (I64 (3 + (I64 (Int.tmod (U64 n_00) 60))))))) - (i_18 : Int))) + (I64 (3 + (I64 (Int.tmod (U64 n_00) 60)))))) (I64 (3 + (I64 (Int.tmod (U64 n_00) 60))))) < (Int.tmod (I64 ((I64 ((I64 (Int.tmod (U64 w_01) (U64 (I64 (3 + (I64 (Int.tmod (U64 n_00) 60))))))) - (i_18 : Int))) + (I64 (3 + (I64 (Int.tmod (U64 n_00) 60)))))) (I64 (3 + (I64 (Int.tmod (U64 n_00) 60))))))))) rfl rfl ?_
              refine E_mv (v' := (.bool (decide ((Int.tmod (I64 ((I64 ((I64 (Int.tmod (U64 d_02) (U64 (I64 (3 + (I64 (Int.tmod (U64 n_00) 60))))))) - (i_18 : Int))) + (I64 (3 + (I64 (Int.tmod (U64 n_00) 60)))))) (I64 (3 + (I64 (Int.tmod (U64 n_00) 60))))) < (Int.tmod (I64 ((I64 ((I64 (Int.tmod (U64 w_01) (U64 (I64 (3 + (I64 (Int.tmod (U64 n_00) 60))))))) - (i_18 : Int))) + (I64 (3 + (I64 (Int.tmod (U64 n_00) 60)))))) (I64 (3 + (I64 (Int.tmod (U64 n_00) 60))))))))) rfl ?_
              refine E_nil ?_
              refine E_nx ?_
              refine E_as ?_
              refine E_sq ?_
              refine E_reg ?_
              refine E_mv (v' := (.int .i64 (i_18 : Int))) rfl ?_
              refine E_mv (v' := (.int .i64 (I64 (Int.tmod (U64 w_01) (U64 (I64 (3 + (I64 (Int.tmod (U64 n_00) 60))))))))) rfl ?_
              refine E_op0 (v' := (.bool ((i_18 : Int) == (I64 (Int.tmod (U64 w_01) (U64 (I64 (3 + (I64 (Int.tmod (U64 n_00) 60)))))))))) rfl rfl ?_
              refine E_nil ?_
              refine E_nx ?_
              refine E_jp h (fun s_22 => [(7, (.int .i64 (I64 (3 + (I64 (Int.tmod (U64 n_00) 60)))))), (8, (.int .i64 (I64 (Int.tmod (U64 w_01) (U64 (I64 (3 + (I64 (Int.tmod (U64 n_00) 60))))))))), (9, (.int .i64 (I64 (Int.tmod (U64 d_02) (U64 (I64 (3 + (I64 (Int.tmod (U64 n_00) 60))))))))), (13, (.sl false 1 (List.map (avL 1 (avI .i64)) vin_14.1))), (15, (.int .i64 (i_18 : Int))), (16, (.bool s_22)), (88, (.int .i64 (I64 (3 + (I64 (Int.tmod (U64 n_00) 60)))))), (89, (.int .i64 (i_18 : Int)))]) (fun s_22 => []) (fun k_21 h => ?_) (fun s_22 h => ?_)
              · refine E_cs (t := ((i_18 : Int) == (I64 (Int.tmod (U64 w_01) (U64 (I64 (3 + (I64 (Int.tmod (U64 n_00) 60))))))))) rfl (fun hb => ?_) (fun hb => ?_)
                · rw [ite_t hb] at h
                  refine E_reg ?_
                  refine E_mv (v' := (.bool false)) rfl ?_
                  refine E_nil ?_
                  exact E_jx _ h (wk_aw ⟨(.refl _), (.refl _), (.refl _), (.refl _), (.refl _), (.refl _), (.refl _), (.refl _), trivial⟩)
                · rw [ite_f hb] at h
                  refine E_skip ?_
                  exact E_jx _ h (wk_aw ⟨(.refl _), (.refl _), (.refl _), (.refl _), (.refl _), (.refl _), (.refl _), (.refl _), trivial⟩)
              · refine E_sq ?_
                refine E_reg ?_
                refine E_mv (v' := (.sl false 1 (List.map (avL 1 (avI .i64)) vin_14.1))) rfl ?_
                refine E_mv (v' := (.int .i64 (i_18 : Int))) rfl ?_
                obtain ⟨y_23, hy_23, h⟩ := bd_some h
                refine E_iadF rfl rfl hy_23 ?_
                refine E_op0 (v' := (.sl false 1 (List.map (avI .i64) y_23))) rfl rfl ?_
                refine E_len rfl ?_
                refine E_op0 (v' := (.bool ((List.length y_23 : Int) == 1))) rfl rfl ?_
                refine E_mv (v' := (.bool s_22)) rfl ?_
                refine E_op0 (v' := (.bool (!(((List.length y_23 : Int) == 1) == s_22)))) rfl rfl ?_
                refine E_nil ?_
                refine E_nx ?_
                refine E_cs (t := (!(((List.length y_23 : Int) == 1) == s_22))) rfl (fun hb => ?_) (fun hb => ?_)
                · rw [ite_t hb] at h
                  refine E_sq ?_
                  refine E_reg ?_
                  refine E_mv (v' := (.bool false)) rfl ?_
                  refine E_nil ?_
                  refine E_nx ?_
                  refine E_ret ?_
                  cases h
                  refine L_rrO rfl (fun h => ?_)
                  refine E_thr ?_
                  cases h
                  exact ⟨trivial, _, rfl, (fz_b rfl (.refl _))⟩
                · rw [ite_f hb] at h
                  refine E_skip ?_
                  cases h
                  exact L_nn rfl (wk_aw ⟨(.refl _), (.refl _), (.refl _), (.refl _), (.refl _), (.refl _), trivial⟩)
            · refine X_nx hw ?_
              refine E_sq ?_
              refine E_reg ?_
              refine E_mv (v' := (.bool true)) rfl ?_
              refine E_nil ?_
              refine E_nx ?_
              refine E_ret ?_
              cases h
              exact ⟨trivial, _, rfl, (fz_b rfl (.refl _))⟩
end Go.Proofs.YtgoejecjmodjiaaDoor
