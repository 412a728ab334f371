/- What the functions compute, and that they do (printed by wip/gen/gen.py), part 1. -/
import Derived.Test.YtgoejecjmodjiaaDoorWlH2
import Derived.Test.YtgoejecjmodjiaaDoorRows
import Derived.Test.YtgoejecjmodjiaaDoorLvS4
namespace Go.Proofs.YtgoejecjmodjiaaDoor
open Go Go.Ab
set_option maxRecDepth 20000
set_option maxHeartbeats 2000000
set_option linter.unusedVariables false
set_option linter.unusedSimpArgs false
def fc10 : FC := (.seq (.reg [oO 2 (.box (.t 0)), oO 4 (.mv (.v .nils)), oO 5 (.mv (.v (.int .i64 0)))] []) (.seq (.seq (.reg [oO 9 (.load (some 1) (.t 2)), oO 10 (.mv (.t 1)), ⟨(some 11), none, .call 28 [(.t 9), (.t 10)]⟩, oO 6 (.mv (.t 11))] []) (.seq (.reg [oO 12 (.mv (.t 6)), oO 13 (.bin .none .neq (.t 12) (.v (.int .i64 0)))] []) (.cond (.t 13) (.seq (.reg [oO 14 (.mv (.t 6)), oO 4 (.mv (.v .nils)), oO 5 (.mv (.t 14))] []) .ret) .skip))) (.seq (.reg [oO 16 (.fad 0 (.t 2)), oO 17 (.load none (.t 16)), oO 18 (.mv (.t 1)), oO 19 (.iad none (some 8) (.t 17) (.t 18)), ⟨(some 20), none, .call 29 [(.t 19)]⟩, oO 15 (.mv (.t 20)), oO 21 (.ext 0 (.t 15)), oO 22 (.ext 1 (.t 15)), oO 7 (.mv (.t 21)), oO 8 (.mv (.t 22))] []) (.seq (.reg [oO 23 (.mv (.t 7)), ⟨(some 24), none, .call 30 [(.t 23)]⟩, oO 4 (.mv (.t 24)), oO 5 (.mv (.v (.int .i64 0)))] []) .ret))))
theorem fn10 : Fn3 Tryd.prog 10 25 [(4, none), (5, none)] fc10 := ⟨_, _, Tryd.func10, rfl, rfl, rfl, by kernel_rfl⟩
def live_In_s (fuel : Nat) (g_00 : Graphs) (f_01 : Int) : Option ((List (List Int)) × Int) :=
  ((live_check_s g_00 f_01).bind fun che_1 => (if (che_1 != 0) then (some ([], che_1)) else ((getI g_00.Funcs f_01).bind fun y_2 => ((live_solve_s fuel y_2).bind fun sol_3 => ((live_lists_s fuel sol_3.1).bind fun lis_4 => (some (lis_4, 0)))))))
theorem live_In_ev {fuel : Nat} {g_00 : Graphs} {f_01 : Int} {r : ((List (List Int)) × Int)} (h : live_In_s fuel g_00 f_01 = some r) : PureEv Tryd.prog 10 [(Graphs.av g_00), (.int .i64 f_01)] (.tup [(.sl false 1 (List.map (avL 1 (avI .i64)) r.1)), (.int .i64 r.2)]) := by
 unfold live_In_s at h
 refine PureEv_end mixed fn10 (by simp) [] 6 ?_
 unfold fc10
 refine E_sq (E_reg (E_op0 (v' := (.cptr (Graphs.av g_00).cells 0)) rfl rfl (E_mv (v' := .nils) rfl (E_mv (v' := .int .i64 0) rfl (E_nil (E_nx (E_as (E_sq (E_reg (E_op0 (v' := (Graphs.av g_00)) rfl rfl (E_mv (v' := .int .i64 f_01) rfl ?_)))))))))))
 obtain ⟨che_1, hche_1, h⟩ := bd_some h
 refine E_callW (live_check_ev  hche_1) rfl ⟨(.refl _), (.refl _), trivial⟩ (blwL_of ⟨(Graphs.enc.blw _ 0), rfl, trivial⟩) rfl (E_mv (v' := .int .i64 che_1) rfl (E_nil (E_nx (E_as (E_sq (E_reg (E_mv (v' := .int .i64 che_1) rfl (E_op0 (v' := .bool (che_1 != 0)) rfl rfl (E_nil (E_nx (E_sq ?_)))))))))))
 refine E_cs (t := (che_1 != 0)) rfl (fun hb => ?_) (fun hb => ?_)
 {
 rw [ite_t hb] at h
 refine E_sq (E_reg (E_mv (v' := .int .i64 che_1) rfl (E_mv (v' := .nils) rfl (E_mv (v' := .int .i64 che_1) rfl (E_nil (E_nx (E_ret (E_thr ?_))))))))
 cases h
 exact ⟨trivial, _, rfl, (fz_tup ⟨(fz_b rfl .nil), (fz_b rfl (.refl _)), trivial⟩)⟩
 }
 {
 rw [ite_f hb] at h
 refine E_skip (E_nx (E_sq (E_reg (E_op0 (v' := (.cptr (Graphs.av g_00).cells 0)) rfl rfl (E_op0 (v' := .sl false 8 (List.map Graph.av g_00.Funcs)) rfl rfl (E_mv (v' := .int .i64 f_01) rfl ?_))))))
 obtain ⟨y_2, hy_2, h⟩ := bd_some h
 refine E_iadF rfl rfl hy_2 ?_
 obtain ⟨sol_3, hsol_3, h⟩ := bd_some h
 refine E_callW (live_solve_ev (fuel := fuel)  hsol_3) rfl ⟨(.refl _), trivial⟩ (blwL_of ⟨(cp_blw (Graph.enc.blw _ 0)), trivial⟩) (tup_blw ⟨((encP Bits_Set.enc).blws 0), ((encP Bits_Set.enc).blws 0), trivial⟩) (E_mv (v' := (.tup [(.sl false 1 (List.map (avP Bits_Set.av) sol_3.1)), (.sl false 1 (List.map (avP Bits_Set.av) sol_3.2))])) rfl (E_op0 (v' := (.sl false 1 (List.map (avP Bits_Set.av) sol_3.1))) rfl rfl (E_op0 (v' := (.sl false 1 (List.map (avP Bits_Set.av) sol_3.2))) rfl rfl (E_mv (v' := (.sl false 1 (List.map (avP Bits_Set.av) sol_3.1))) rfl (E_mv (v' := (.sl false 1 (List.map (avP Bits_Set.av) sol_3.2))) rfl (E_nil (E_nx (E_sq (E_reg (E_mv (v' := (.sl false 1 (List.map (avP Bits_Set.av) sol_3.1))) rfl ?_))))))))))
 obtain ⟨lis_4, hlis_4, h⟩ := bd_some h
 refine E_callW (live_lists_ev (fuel := fuel)  hlis_4) rfl ⟨(.refl _), trivial⟩ (blwL_of ⟨((encP Bits_Set.enc).blws 0), trivial⟩) ((encL (encI .i64) 1).blws 0) (E_mv (v' := (.sl false 1 (List.map (avL 1 (avI .i64)) lis_4))) rfl (E_mv (v' := .int .i64 0) rfl (E_nil (E_nx (E_ret ?_)))))
 cases h
 exact ⟨trivial, _, rfl, (fz_tup ⟨(fz_b ((encL (encI .i64) 1).blws 0) (.refl _)), (fz_b rfl (.refl _)), trivial⟩)⟩
 }
def fc11 : FC := (.seq (.reg [oO 2 (.box (.t 0)), oO 4 (.mv (.v .nils)), oO 5 (.mv (.v (.int .i64 0)))] []) (.seq (.seq (.reg [oO 9 (.load (some 1) (.t 2)), oO 10 (.mv (.t 1)), ⟨(some 11), none, .call 28 [(.t 9), (.t 10)]⟩, oO 6 (.mv (.t 11))] []) (.seq (.reg [oO 12 (.mv (.t 6)), oO 13 (.bin .none .neq (.t 12) (.v (.int .i64 0)))] []) (.cond (.t 13) (.seq (.reg [oO 14 (.mv (.t 6)), oO 4 (.mv (.v .nils)), oO 5 (.mv (.t 14))] []) .ret) .skip))) (.seq (.reg [oO 16 (.fad 0 (.t 2)), oO 17 (.load none (.t 16)), oO 18 (.mv (.t 1)), oO 19 (.iad none (some 8) (.t 17) (.t 18)), ⟨(some 20), none, .call 29 [(.t 19)]⟩, oO 15 (.mv (.t 20)), oO 21 (.ext 0 (.t 15)), oO 22 (.ext 1 (.t 15)), oO 7 (.mv (.t 21)), oO 8 (.mv (.t 22))] []) (.seq (.reg [oO 23 (.mv (.t 8)), ⟨(some 24), none, .call 30 [(.t 23)]⟩, oO 4 (.mv (.t 24)), oO 5 (.mv (.v (.int .i64 0)))] []) .ret))))
theorem fn11 : Fn3 Tryd.prog 11 25 [(4, none), (5, none)] fc11 := ⟨_, _, Tryd.func11, rfl, rfl, rfl, by kernel_rfl⟩
def live_Out_s (fuel : Nat) (g_00 : Graphs) (f_01 : Int) : Option ((List (List Int)) × Int) :=
  ((live_check_s g_00 f_01).bind fun che_1 => (if (che_1 != 0) then (some ([], che_1)) else ((getI g_00.Funcs f_01).bind fun y_2 => ((live_solve_s fuel y_2).bind fun sol_3 => ((live_lists_s fuel sol_3.2).bind fun lis_4 => (some (lis_4, 0)))))))
theorem live_Out_ev {fuel : Nat} {g_00 : Graphs} {f_01 : Int} {r : ((List (List Int)) × Int)} (h : live_Out_s fuel g_00 f_01 = some r) : PureEv Tryd.prog 11 [(Graphs.av g_00), (.int .i64 f_01)] (.tup [(.sl false 1 (List.map (avL 1 (avI .i64)) r.1)), (.int .i64 r.2)]) := by
 unfold live_Out_s at h
 refine PureEv_end mixed fn11 (by simp) [] 6 ?_
 unfold fc11
 refine E_sq (E_reg (E_op0 (v' := (.cptr (Graphs.av g_00).cells 0)) rfl rfl (E_mv (v' := .nils) rfl (E_mv (v' := .int .i64 0) rfl (E_nil (E_nx (E_as (E_sq (E_reg (E_op0 (v' := (Graphs.av g_00)) rfl rfl (E_mv (v' := .int .i64 f_01) rfl ?_)))))))))))
 obtain ⟨che_1, hche_1, h⟩ := bd_some h
 refine E_callW (live_check_ev  hche_1) rfl ⟨(.refl _), (.refl _), trivial⟩ (blwL_of ⟨(Graphs.enc.blw _ 0), rfl, trivial⟩) rfl (E_mv (v' := .int .i64 che_1) rfl (E_nil (E_nx (E_as (E_sq (E_reg (E_mv (v' := .int .i64 che_1) rfl (E_op0 (v' := .bool (che_1 != 0)) rfl rfl (E_nil (E_nx (E_sq ?_)))))))))))
 refine E_cs (t := (che_1 != 0)) rfl (fun hb => ?_) (fun hb => ?_)
 {
 rw [ite_t hb] at h
 refine E_sq (E_reg (E_mv (v' := .int .i64 che_1) rfl (E_mv (v' := .nils) rfl (E_mv (v' := .int .i64 che_1) rfl (E_nil (E_nx (E_ret (E_thr ?_))))))))
 cases h
 exact ⟨trivial, _, rfl, (fz_tup ⟨(fz_b rfl .nil), (fz_b rfl (.refl _)), trivial⟩)⟩
 }
 {
 rw [ite_f hb] at h
 refine E_skip (E_nx (E_sq (E_reg (E_op0 (v' := (.cptr (Graphs.av g_00).cells 0)) rfl rfl (E_op0 (v' := .sl false 8 (List.map Graph.av g_00.Funcs)) rfl rfl (E_mv (v' := .int .i64 f_01) rfl ?_))))))
 obtain ⟨y_2, hy_2, h⟩ := bd_some h
 refine E_iadF rfl rfl hy_2 ?_
 obtain ⟨sol_3, hsol_3, h⟩ := bd_some h
 refine E_callW (live_solve_ev (fuel := fuel)  hsol_3) rfl ⟨(.refl _), trivial⟩ (blwL_of ⟨(cp_blw (Graph.enc.blw _ 0)), trivial⟩) (tup_blw ⟨((encP Bits_Set.enc).blws 0), ((encP Bits_Set.enc).blws 0), trivial⟩) (E_mv (v' := (.tup [(.sl false 1 (List.map (avP Bits_Set.av) sol_3.1)), (.sl false 1 (List.map (avP Bits_Set.av) sol_3.2))])) rfl (E_op0 (v' := (.sl false 1 (List.map (avP Bits_Set.av) sol_3.1))) rfl rfl (E_op0 (v' := (.sl false 1 (List.map (avP Bits_Set.av) sol_3.2))) rfl rfl (E_mv (v' := (.sl false 1 (List.map (avP Bits_Set.av) sol_3.1))) rfl (E_mv (v' := (.sl false 1 (List.map (avP Bits_Set.av) sol_3.2))) rfl (E_nil (E_nx (E_sq (E_reg (E_mv (v' := (.sl false 1 (List.map (avP Bits_Set.av) sol_3.2))) rfl ?_))))))))))
 obtain ⟨lis_4, hlis_4, h⟩ := bd_some h
 refine E_callW (live_lists_ev (fuel := fuel)  hlis_4) rfl ⟨(.refl _), trivial⟩ (blwL_of ⟨((encP Bits_Set.enc).blws 0), trivial⟩) ((encL (encI .i64) 1).blws 0) (E_mv (v' := (.sl false 1 (List.map (avL 1 (avI .i64)) lis_4))) rfl (E_mv (v' := .int .i64 0) rfl (E_nil (E_nx (E_ret ?_)))))
 cases h
 exact ⟨trivial, _, rfl, (fz_tup ⟨(fz_b ((encL (encI .i64) 1).blws 0) (.refl _)), (fz_b rfl (.refl _)), trivial⟩)⟩
 }
def fc9 : FC := (.seq (.reg [oO 0 (.mv (.v (.bool false)))] []) (.seq (.reg [oO 6 (.bsl none [(.int .u8 0)] 1 [(0, 1, (.v (.int .u8 0)))]), oO 7 (.build [(.int .u8 0), (.int .u8 0), (.int .i64 0), (.int .i64 0), (.int .i64 0), (.int .i64 0), (.int .i64 0), (.int .i64 0), (.int .u64 0), .nils, (.int .i64 0), (.int .i64 0)] [(0, 1, (.v (.int .u8 1))), (10, 1, (.v (.int .i64 1)))]), oO 8 (.build [(.int .u8 0), (.int .u8 0), (.int .i64 0), (.int .i64 0), (.int .i64 0), (.int .i64 0), (.int .i64 0), (.int .i64 0), (.int .u64 0), .nils, (.int .i64 0), (.int .i64 0)] [(0, 1, (.v (.int .u8 17))), (10, 1, (.v (.int .i64 2)))]), oO 9 (.build [(.int .u8 0), (.int .u8 0), (.int .i64 0), (.int .i64 0), (.int .i64 0), (.int .i64 0), (.int .i64 0), (.int .i64 0), (.int .u64 0), .nils, (.int .i64 0), (.int .i64 0)] [(0, 1, (.v (.int .u8 12))), (4, 1, (.v (.int .i64 (-1))))]), oO 10 (.bsl (some 12) [(.int .u8 0), (.int .u8 0), (.int .i64 0), (.int .i64 0), (.int .i64 0), (.int .i64 0), (.int .i64 0), (.int .i64 0), (.int .u64 0), .nils, (.int .i64 0), (.int .i64 0)] 3 [(0, 12, (.t 7)), (12, 12, (.t 8)), (24, 12, (.t 9))]), oO 11 (.build [.nils, .nils, (.int .i64 0), .nils, (.bool false), (.int .i64 0), .nils, (.int .i64 0)] [(1, 1, (.t 6)), (5, 1, (.v (.int .i64 (-1)))), (6, 1, (.t 10))]), oO 12 (.bsl (some 8) [.nils, .nils, (.int .i64 0), .nils, (.bool false), (.int .i64 0), .nils, (.int .i64 0)] 1 [(0, 8, (.t 11))]), oO 13 (.build [.nils] [(0, 1, (.t 12))]), oO 1 (.new [.nils]), ⟨none, none, .op (.store 1 (.t 1) (.t 13))⟩] []) (.seq (.reg [oO 15 (.load (some 1) (.t 1)), ⟨(some 16), none, .call 10 [(.t 15), (.v (.int .i64 0))]⟩, oO 14 (.mv (.t 16)), oO 17 (.ext 0 (.t 14)), oO 18 (.ext 1 (.t 14)), oO 2 (.mv (.t 17)), oO 3 (.mv (.t 18))] []) (.seq (.reg [oO 20 (.load (some 1) (.t 1)), ⟨(some 21), none, .call 11 [(.t 20), (.v (.int .i64 0))]⟩, oO 19 (.mv (.t 21)), oO 22 (.ext 0 (.t 19)), oO 23 (.ext 1 (.t 19)), oO 4 (.mv (.t 22)), oO 5 (.mv (.t 23))] []) (.seq (.reg [oO 24 (.mv (.t 3)), oO 25 (.bin .none .eql (.t 24) (.v (.int .i64 0))), oO 26 (.mv (.t 25)), ⟨(some 27), some (26, true), .op (.mv (.t 5))⟩, ⟨(some 28), some (26, true), .op (.bin .none .eql (.t 27) (.v (.int .i64 0)))⟩, oO 29 (.pick (.t 26) (.t 28) (.v (.bool false))), oO 30 (.mv (.t 29)), ⟨(some 31), some (30, true), .op (.mv (.t 2))⟩, ⟨(some 32), some (30, true), .op (.len .sl (.t 31))⟩, ⟨(some 33), some (30, true), .op (.bin .none .eql (.t 32) (.v (.int .i64 3)))⟩, oO 34 (.pick (.t 30) (.t 33) (.v (.bool false))), oO 35 (.mv (.t 34)), ⟨(some 36), some (35, true), .op (.mv (.t 2))⟩, ⟨(some 37), some (35, true), .op (.iad none none (.t 36) (.v (.int .i64 0)))⟩, ⟨(some 38), some (35, true), .op (.load none (.t 37))⟩, ⟨(some 39), some (35, true), .op (.len .sl (.t 38))⟩, ⟨(some 40), some (35, true), .op (.bin .none .eql (.t 39) (.v (.int .i64 0)))⟩, oO 41 (.pick (.t 35) (.t 40) (.v (.bool false))), oO 42 (.mv (.t 41)), ⟨(some 43), some (42, true), .op (.mv (.t 2))⟩, ⟨(some 44), some (42, true), .op (.iad none none (.t 43) (.v (.int .i64 1)))⟩, ⟨(some 45), some (42, true), .op (.load none (.t 44))⟩, ⟨(some 46), some (42, true), .op (.len .sl (.t 45))⟩, ⟨(some 47), some (42, true), .op (.bin .none .eql (.t 46) (.v (.int .i64 1)))⟩, oO 48 (.pick (.t 42) (.t 47) (.v (.bool false))), oO 49 (.mv (.t 48)), ⟨(some 50), some (49, true), .op (.mv (.t 4))⟩, ⟨(some 51), some (49, true), .op (.len .sl (.t 50))⟩, ⟨(some 52), some (49, true), .op (.bin .none .eql (.t 51) (.v (.int .i64 3)))⟩, oO 53 (.pick (.t 49) (.t 52) (.v (.bool false))), oO 54 (.mv (.t 53)), ⟨(some 55), some (54, true), .op (.mv (.t 4))⟩, ⟨(some 56), some (54, true), .op (.iad none none (.t 55) (.v (.int .i64 0)))⟩, ⟨(some 57), some (54, true), .op (.load none (.t 56))⟩, ⟨(some 58), some (54, true), .op (.len .sl (.t 57))⟩, ⟨(some 59), some (54, true), .op (.bin .none .eql (.t 58) (.v (.int .i64 1)))⟩, oO 60 (.pick (.t 54) (.t 59) (.v (.bool false))), oO 61 (.mv (.t 60)), ⟨(some 62), some (61, true), .op (.mv (.t 4))⟩, ⟨(some 63), some (61, true), .op (.iad none none (.t 62) (.v (.int .i64 1)))⟩, ⟨(some 64), some (61, true), .op (.load none (.t 63))⟩, ⟨(some 65), some (61, true), .op (.len .sl (.t 64))⟩, ⟨(some 66), some (61, true), .op (.bin .none .eql (.t 65) (.v (.int .i64 0)))⟩, oO 67 (.pick (.t 61) (.t 66) (.v (.bool false))), oO 0 (.mv (.t 67))] []) .ret)))))
theorem fn9 : Fn3 Tryd.prog 9 68 [(0, none)] fc9 := ⟨_, _, Tryd.func9, rfl, rfl, rfl, by kernel_rfl⟩
def windlasslaw11_first_s (fuel : Nat)  : Option Bool :=
  ((live_In_s fuel (Graphs.mk ([(Graph.mk [] ([0]) 0 [] false (-1) ([(Node.mk 1 0 0 0 0 0 0 0 0 [] 1 0), (Node.mk 17 0 0 0 0 0 0 0 0 [] 2 0), (Node.mk 12 0 0 0 (-1) 0 0 0 0 [] 0 0)]) 0)])) 0).bind fun vin_1 => ((live_Out_s fuel (Graphs.mk ([(Graph.mk [] ([0]) 0 [] false (-1) ([(Node.mk 1 0 0 0 0 0 0 0 0 [] 1 0), (Node.mk 17 0 0 0 0 0 0 0 0 [] 2 0), (Node.mk 12 0 0 0 (-1) 0 0 0 0 [] 0 0)]) 0)])) 0).bind fun out_2 => (jp (fun (s_4 : Bool) => (some s_4)) (fun k_3 => (if (vin_1.2 == 0) then (if (out_2.2 == 0) then (if ((List.length vin_1.1 : Int) == 3) then ((getI vin_1.1 0).bind fun y_5 => (if ((List.length y_5 : Int) == 0) then ((getI vin_1.1 1).bind fun y_6 => (if ((List.length y_6 : Int) == 1) then (if ((List.length out_2.1 : Int) == 3) then ((getI out_2.1 0).bind fun y_7 => (if ((List.length y_7 : Int) == 1) then ((getI out_2.1 1).bind fun y_8 => (k_3 ((List.length y_8 : Int) == 0))) else (k_3 false))) else (k_3 false)) else (k_3 false))) else (k_3 false))) else (k_3 false)) else (k_3 false)) else (k_3 false))))))
theorem windlasslaw11_first_ev {fuel : Nat}  {r : Bool} (h : windlasslaw11_first_s fuel  = some r) : PureEv Tryd.prog 9 [] (.bool r) := by
 unfold windlasslaw11_first_s at h
 refine PureEv_end mixed fn9 (by simp) [1] 6 ?_
 unfold fc9
 refine E_sq (E_reg (E_mv (v' := .bool false) rfl (E_nil (E_nx (E_sq (E_reg (E_opw (v' := (.sl true 1 (List.map (avI .u8) [0]))) rfl (.refl _) rfl (E_opw (v' := (Node.av (Node.mk 1 0 0 0 0 0 0 0 0 [] 1 0))) rfl (.aggL ⟨(.refl _), (.refl _), (.refl _), (.refl _), (.refl _), (.refl _), (.refl _), (.refl _), (.refl _), .nil, (.refl _), (.refl _), trivial⟩) rfl (E_opw (v' := (Node.av (Node.mk 17 0 0 0 0 0 0 0 0 [] 2 0))) rfl (.aggL ⟨(.refl _), (.refl _), (.refl _), (.refl _), (.refl _), (.refl _), (.refl _), (.refl _), (.refl _), .nil, (.refl _), (.refl _), trivial⟩) rfl (E_opw (v' := (Node.av (Node.mk 12 0 0 0 (-1) 0 0 0 0 [] 0 0))) rfl (.aggL ⟨(.refl _), (.refl _), (.refl _), (.refl _), (.refl _), (.refl _), (.refl _), (.refl _), (.refl _), .nil, (.refl _), (.refl _), trivial⟩) rfl ?_))))))))))
 refine E_opw (v := (.sl true 12 (List.map Node.av [(Node.mk 1 0 0 0 0 0 0 0 0 [] 1 0), (Node.mk 17 0 0 0 0 0 0 0 0 [] 2 0), (Node.mk 12 0 0 0 (-1) 0 0 0 0 [] 0 0)]))) (v' := (.sl true 12 (List.map Node.av [(Node.mk 1 0 0 0 0 0 0 0 0 [] 1 0), (Node.mk 17 0 0 0 0 0 0 0 0 [] 2 0), (Node.mk 12 0 0 0 (-1) 0 0 0 0 [] 0 0)]))) (rd := []) (δ := none) (by kernel_rfl) (.refl _) rfl ?_
 refine E_opw (v' := (Graph.av (Graph.mk [] ([0]) 0 [] false (-1) ([(Node.mk 1 0 0 0 0 0 0 0 0 [] 1 0), (Node.mk 17 0 0 0 0 0 0 0 0 [] 2 0), (Node.mk 12 0 0 0 (-1) 0 0 0 0 [] 0 0)]) 0))) rfl (.aggL ⟨.nil, .ex, (.refl _), .nil, (.refl _), (.refl _), .ex, (.refl _), trivial⟩) rfl (E_opw (v' := (.sl true 8 (List.map Graph.av [(Graph.mk [] ([0]) 0 [] false (-1) ([(Node.mk 1 0 0 0 0 0 0 0 0 [] 1 0), (Node.mk 17 0 0 0 0 0 0 0 0 [] 2 0), (Node.mk 12 0 0 0 (-1) 0 0 0 0 [] 0 0)]) 0)]))) rfl (.refl _) rfl (E_opw (v' := (Graphs.av (Graphs.mk ([(Graph.mk [] ([0]) 0 [] false (-1) ([(Node.mk 1 0 0 0 0 0 0 0 0 [] 1 0), (Node.mk 17 0 0 0 0 0 0 0 0 [] 2 0), (Node.mk 12 0 0 0 (-1) 0 0 0 0 [] 0 0)]) 0)])))) rfl (.aggL ⟨.ex, trivial⟩) rfl (E_op (v' := .ptr 0 0 0) (S' := [.arr 0 [.nils]]) rfl rfl rfl (E_do (S' := [.arr 0 [(.sl false 8 (List.map Graph.av ([(Graph.mk [] ([0]) 0 [] false (-1) ([(Node.mk 1 0 0 0 0 0 0 0 0 [] 1 0), (Node.mk 17 0 0 0 0 0 0 0 0 [] 2 0), (Node.mk 12 0 0 0 (-1) 0 0 0 0 [] 0 0)]) 0)])))]]) rfl rfl (E_nil (E_nx (E_sq (E_reg (E_opw (v' := (Graphs.av (Graphs.mk ([(Graph.mk [] ([0]) 0 [] false (-1) ([(Node.mk 1 0 0 0 0 0 0 0 0 [] 1 0), (Node.mk 17 0 0 0 0 0 0 0 0 [] 2 0), (Node.mk 12 0 0 0 (-1) 0 0 0 0 [] 0 0)]) 0)])))) rfl (.aggL ⟨(.refl _), trivial⟩) rfl ?_)))))))))
 obtain ⟨vin_1, hvin_1, h⟩ := bd_some h
 refine E_callW (live_In_ev (fuel := fuel)  hvin_1) rfl ⟨(.refl _), (.refl _), trivial⟩ (blwL_of ⟨(Graphs.enc.blw _ 0), rfl, trivial⟩) (tup_blw ⟨((encL (encI .i64) 1).blws 0), rfl, trivial⟩) (E_mv (v' := (.tup [(.sl false 1 (List.map (avL 1 (avI .i64)) vin_1.1)), (.int .i64 vin_1.2)])) rfl (E_op0 (v' := (.sl false 1 (List.map (avL 1 (avI .i64)) vin_1.1))) rfl rfl (E_op0 (v' := .int .i64 vin_1.2) rfl rfl (E_mv (v' := (.sl false 1 (List.map (avL 1 (avI .i64)) vin_1.1))) rfl (E_mv (v' := .int .i64 vin_1.2) rfl (E_nil (E_nx (E_sq (E_reg (E_opw (v' := (Graphs.av (Graphs.mk ([(Graph.mk [] ([0]) 0 [] false (-1) ([(Node.mk 1 0 0 0 0 0 0 0 0 [] 1 0), (Node.mk 17 0 0 0 0 0 0 0 0 [] 2 0), (Node.mk 12 0 0 0 (-1) 0 0 0 0 [] 0 0)]) 0)])))) rfl (.aggL ⟨(.refl _), trivial⟩) rfl ?_))))))))))
 obtain ⟨out_2, hout_2, h⟩ := bd_some h
 refine E_callW (live_Out_ev (fuel := fuel)  hout_2) rfl ⟨(.refl _), (.refl _), trivial⟩ (blwL_of ⟨(Graphs.enc.blw _ 0), rfl, trivial⟩) (tup_blw ⟨((encL (encI .i64) 1).blws 0), rfl, trivial⟩) (E_mv (v' := (.tup [(.sl false 1 (List.map (avL 1 (avI .i64)) out_2.1)), (.int .i64 out_2.2)])) rfl (E_op0 (v' := (.sl false 1 (List.map (avL 1 (avI .i64)) out_2.1))) rfl rfl (E_op0 (v' := .int .i64 out_2.2) rfl rfl (E_mv (v' := (.sl false 1 (List.map (avL 1 (avI .i64)) out_2.1))) rfl (E_mv (v' := .int .i64 out_2.2) rfl (E_nil (E_nx ?_)))))))
 refine E_jp h (fun s_4 => [(0, (.bool s_4))]) (fun s_4 => []) (fun k_3 h => ?_) (fun s_4 h => ?_)
 {
 refine E_reg (E_mv (v' := .int .i64 vin_1.2) rfl (E_op0 (v' := .bool (vin_1.2 == 0)) rfl rfl (E_mv (v' := .bool (vin_1.2 == 0)) rfl ?_)))
 refine E_gsT (b := (vin_1.2 == 0)) rfl rfl rfl (fun hb => ?_) (fun hb => ?_)
 {
 rw [ite_t hb] at h
 refine E_mv (v' := .int .i64 out_2.2) rfl (E_gh rfl (E_op0 (v' := .bool (out_2.2 == 0)) rfl rfl (E_pt rfl rfl (E_mv (v' := .bool (out_2.2 == 0)) rfl ?_))))
 refine E_gsT (b := (out_2.2 == 0)) rfl rfl rfl (fun hb => ?_) (fun hb => ?_)
 {
 rw [ite_t hb] at h
 refine E_mv (v' := (.sl false 1 (List.map (avL 1 (avI .i64)) vin_1.1))) rfl (E_gh rfl (E_len rfl (E_gh rfl (E_op0 (v' := (.bool ((List.length vin_1.1 : Int) == 3))) rfl rfl (E_pt rfl rfl (E_mv (v' := (.bool ((List.length vin_1.1 : Int) == 3))) rfl ?_))))))
 refine E_gsT (b := ((List.length vin_1.1 : Int) == 3)) rfl rfl rfl (fun hb => ?_) (fun hb => ?_)
 {
 rw [ite_t hb] at h
 refine E_mv (v' := (.sl false 1 (List.map (avL 1 (avI .i64)) vin_1.1))) rfl (E_gh rfl ?_)
 obtain ⟨y_5, hy_5, h⟩ := bd_some h
 refine E_iadF rfl rfl hy_5 (E_gh rfl (E_op0 (v' := (.sl false 1 (List.map (avI .i64) y_5))) rfl rfl (E_gh rfl (E_len rfl (E_gh rfl (E_op0 (v' := (.bool ((List.length y_5 : Int) == 0))) rfl rfl (E_pt rfl rfl (E_mv (v' := (.bool ((List.length y_5 : Int) == 0))) rfl ?_))))))))
 refine E_gsT (b := ((List.length y_5 : Int) == 0)) rfl rfl rfl (fun hb => ?_) (fun hb => ?_)
 {
 rw [ite_t hb] at h
 refine E_mv (v' := (.sl false 1 (List.map (avL 1 (avI .i64)) vin_1.1))) rfl (E_gh rfl ?_)
 obtain ⟨y_6, hy_6, h⟩ := bd_some h
 refine E_iadF rfl rfl hy_6 (E_gh rfl (E_op0 (v' := (.sl false 1 (List.map (avI .i64) y_6))) rfl rfl (E_gh rfl (E_len rfl (E_gh rfl (E_op0 (v' := (.bool ((List.length y_6 : Int) == 1))) rfl rfl (E_pt rfl rfl (E_mv (v' := (.bool ((List.length y_6 : Int) == 1))) rfl ?_))))))))
 refine E_gsT (b := ((List.length y_6 : Int) == 1)) rfl rfl rfl (fun hb => ?_) (fun hb => ?_)
 {
 rw [ite_t hb] at h
 refine E_mv (v' := (.sl false 1 (List.map (avL 1 (avI .i64)) out_2.1))) rfl (E_gh rfl (E_len rfl (E_gh rfl (E_op0 (v' := (.bool ((List.length out_2.1 : Int) == 3))) rfl rfl (E_pt rfl rfl (E_mv (v' := (.bool ((List.length out_2.1 : Int) == 3))) rfl ?_))))))
 refine E_gsT (b := ((List.length out_2.1 : Int) == 3)) rfl rfl rfl (fun hb => ?_) (fun hb => ?_)
 {
 rw [ite_t hb] at h
 refine E_mv (v' := (.sl false 1 (List.map (avL 1 (avI .i64)) out_2.1))) rfl (E_gh rfl ?_)
 obtain ⟨y_7, hy_7, h⟩ := bd_some h
 refine E_iadF rfl rfl hy_7 (E_gh rfl (E_op0 (v' := (.sl false 1 (List.map (avI .i64) y_7))) rfl rfl (E_gh rfl (E_len rfl (E_gh rfl (E_op0 (v' := (.bool ((List.length y_7 : Int) == 1))) rfl rfl (E_pt rfl rfl (E_mv (v' := (.bool ((List.length y_7 : Int) == 1))) rfl ?_))))))))
 refine E_gsT (b := ((List.length y_7 : Int) == 1)) rfl rfl rfl (fun hb => ?_) (fun hb => ?_)
 {
 rw [ite_t hb] at h
 refine E_mv (v' := (.sl false 1 (List.map (avL 1 (avI .i64)) out_2.1))) rfl (E_gh rfl ?_)
 obtain ⟨y_8, hy_8, h⟩ := bd_some h
 refine E_iadF rfl rfl hy_8 (E_gh rfl (E_op0 (v' := (.sl false 1 (List.map (avI .i64) y_8))) rfl rfl (E_gh rfl (E_len rfl (E_gh rfl (E_op0 (v' := (.bool ((List.length y_8 : Int) == 0))) rfl rfl (E_pt rfl rfl (E_mv (v' := (.bool ((List.length y_8 : Int) == 0))) rfl (E_nil ?_)))))))))
 exact E_jx _ h (wk_rn [] rfl (Nat.le_of_ble_eq_true rfl) trivial ⟨(rn_b rfl), trivial⟩)
 }
 {
 rw [ite_f hb] at h
 refine E_gm rfl (E_gm rfl (E_gm rfl (E_gm rfl (E_pf rfl rfl (E_mv (v' := .bool false) rfl (E_nil ?_))))))
 exact E_jx _ h (wk_rn [] rfl (Nat.le_of_ble_eq_true rfl) trivial ⟨(rn_b rfl), trivial⟩)
 }
 }
 {
 rw [ite_f hb] at h
 refine E_gm rfl (E_gm rfl (E_gm rfl (E_gm rfl (E_pf rfl rfl (E_mv (v' := .bool false) rfl (E_gm rfl (E_gm rfl (E_gm rfl (E_gm rfl (E_gm rfl (E_pf rfl rfl (E_mv (v' := .bool false) rfl (E_nil ?_)))))))))))))
 exact E_jx _ h (wk_rn [] rfl (Nat.le_of_ble_eq_true rfl) trivial ⟨(rn_b rfl), trivial⟩)
 }
 }
 {
 rw [ite_f hb] at h
 refine E_gm rfl (E_gm rfl (E_pf rfl rfl (E_mv (v' := .bool false) rfl (E_gm rfl (E_gm rfl (E_gm rfl (E_gm rfl (E_gm rfl (E_pf rfl rfl (E_mv (v' := .bool false) rfl (E_gm rfl (E_gm rfl (E_gm rfl (E_gm rfl (E_gm rfl ?_)))))))))))))))
 refine E_pf rfl rfl (E_mv (v' := .bool false) rfl (E_nil ?_))
 exact E_jx _ h (wk_rn [] rfl (Nat.le_of_ble_eq_true rfl) trivial ⟨(rn_b rfl), trivial⟩)
 }
 }
 {
 rw [ite_f hb] at h
 refine E_gm rfl (E_gm rfl (E_gm rfl (E_gm rfl (E_pf rfl rfl (E_mv (v' := .bool false) rfl (E_gm rfl (E_gm rfl (E_gm rfl (E_pf rfl rfl (E_mv (v' := .bool false) rfl (E_gm rfl (E_gm rfl (E_gm rfl (E_gm rfl (E_gm rfl ?_)))))))))))))))
 refine E_pf rfl rfl (E_mv (v' := .bool false) rfl (E_gm rfl (E_gm rfl (E_gm rfl (E_gm rfl (E_gm rfl (E_pf rfl rfl (E_mv (v' := .bool false) rfl (E_nil ?_)))))))))
 exact E_jx _ h (wk_rn [] rfl (Nat.le_of_ble_eq_true rfl) trivial ⟨(rn_b rfl), trivial⟩)
 }
 }
 {
 rw [ite_f hb] at h
 refine E_gm rfl (E_gm rfl (E_gm rfl (E_gm rfl (E_pf rfl rfl (E_mv (v' := .bool false) rfl (E_gm rfl (E_gm rfl (E_gm rfl (E_gm rfl (E_gm rfl (E_pf rfl rfl (E_mv (v' := .bool false) rfl (E_gm rfl (E_gm rfl (E_gm rfl ?_)))))))))))))))
 refine E_pf rfl rfl (E_mv (v' := .bool false) rfl (E_gm rfl (E_gm rfl (E_gm rfl (E_gm rfl (E_gm rfl (E_pf rfl rfl (E_mv (v' := .bool false) rfl (E_gm rfl (E_gm rfl (E_gm rfl (E_gm rfl (E_gm rfl (E_pf rfl rfl (E_mv (v' := .bool false) rfl ?_)))))))))))))))
 refine E_nil ?_
 exact E_jx _ h (wk_rn [] rfl (Nat.le_of_ble_eq_true rfl) trivial ⟨(rn_b rfl), trivial⟩)
 }
 }
 {
 rw [ite_f hb] at h
 refine E_gm rfl (E_gm rfl (E_pf rfl rfl (E_mv (v' := .bool false) rfl (E_gm rfl (E_gm rfl (E_gm rfl (E_gm rfl (E_gm rfl (E_pf rfl rfl (E_mv (v' := .bool false) rfl (E_gm rfl (E_gm rfl (E_gm rfl (E_gm rfl (E_gm rfl ?_)))))))))))))))
 refine E_pf rfl rfl (E_mv (v' := .bool false) rfl (E_gm rfl (E_gm rfl (E_gm rfl (E_pf rfl rfl (E_mv (v' := .bool false) rfl (E_gm rfl (E_gm rfl (E_gm rfl (E_gm rfl (E_gm rfl (E_pf rfl rfl (E_mv (v' := .bool false) rfl (E_gm rfl (E_gm rfl ?_)))))))))))))))
 refine E_gm rfl (E_gm rfl (E_gm rfl (E_pf rfl rfl (E_mv (v' := .bool false) rfl (E_nil ?_)))))
 exact E_jx _ h (wk_rn [] rfl (Nat.le_of_ble_eq_true rfl) trivial ⟨(rn_b rfl), trivial⟩)
 }
 }
 {
 rw [ite_f hb] at h
 refine E_gm rfl (E_pf rfl rfl (E_mv (v' := .bool false) rfl (E_gm rfl (E_gm rfl (E_gm rfl (E_pf rfl rfl (E_mv (v' := .bool false) rfl (E_gm rfl (E_gm rfl (E_gm rfl (E_gm rfl (E_gm rfl (E_pf rfl rfl (E_mv (v' := .bool false) rfl (E_gm rfl ?_)))))))))))))))
 refine E_gm rfl (E_gm rfl (E_gm rfl (E_gm rfl (E_pf rfl rfl (E_mv (v' := .bool false) rfl (E_gm rfl (E_gm rfl (E_gm rfl (E_pf rfl rfl (E_mv (v' := .bool false) rfl (E_gm rfl (E_gm rfl (E_gm rfl (E_gm rfl (E_gm rfl ?_)))))))))))))))
 refine E_pf rfl rfl (E_mv (v' := .bool false) rfl (E_gm rfl (E_gm rfl (E_gm rfl (E_gm rfl (E_gm rfl (E_pf rfl rfl (E_mv (v' := .bool false) rfl (E_nil ?_)))))))))
 exact E_jx _ h (wk_rn [] rfl (Nat.le_of_ble_eq_true rfl) trivial ⟨(rn_b rfl), trivial⟩)
 }
 }
 {
 refine E_ret ?_
 cases h
 exact ⟨trivial, _, rfl, (fz_b rfl (.refl _))⟩
 }
end Go.Proofs.YtgoejecjmodjiaaDoor

