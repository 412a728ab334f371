/- What the functions compute, and that they do (printed by wip/gen/gen.py), part 1. -/
import Derived.Test.YtgoejecjmodjiaaDoorWlH2
import Derived.Test.YtgoejecjmodjiaaDoorRows
import Derived.Test.YtgoejecjmodjiaaDoorOrW3
import Derived.Test.YtgoejecjmodjiaaDoorGenR
namespace Go.Proofs.YtgoejecjmodjiaaDoor
open Go Go.Ab
noncomputable section
set_option maxRecDepth 20000
set_option maxHeartbeats 2000000
set_option linter.unusedVariables false
set_option linter.unusedSimpArgs false
def fc22 : FC := (.seq (.reg [oO 2 (.box (.t 0)), oO 4 (.mv (.v .nils)), oO 5 (.mv (.v (.int .i64 0)))] []) (.seq (.seq (.reg [oO 9 (.load (some 1) (.t 2)), oO 10 (.mv (.t 1)), ⟨(some 11), none, .call 10 [(.t 9), (.t 10)]⟩, oO 8 (.mv (.t 11)), oO 12 (.ext 0 (.t 8)), oO 13 (.ext 1 (.t 8)), oO 6 (.mv (.t 12)), oO 7 (.mv (.t 13))] []) (.seq (.reg [oO 14 (.mv (.t 7)), oO 15 (.bin .none .neq (.t 14) (.v (.int .i64 0)))] []) (.cond (.t 15) (.seq (.reg [oO 16 (.mv (.t 7)), oO 4 (.mv (.v .nils)), oO 5 (.mv (.t 16))] []) .ret) .skip))) (.seq (.reg [oO 17 (.fad 0 (.t 2)), oO 18 (.load none (.t 17)), oO 19 (.mv (.t 1)), oO 20 (.iad none (some 8) (.t 18) (.t 19)), ⟨(some 21), none, .call 45 [(.t 20)]⟩, oO 4 (.mv (.t 21)), oO 5 (.mv (.v (.int .i64 0)))] []) .ret)))
theorem fn22 : Fn3 Tryd.prog 22 22 [(4, none), (5, none)] fc22 := ⟨_, _, Tryd.func22, rfl, rfl, rfl, by kernel_rfl⟩
def order_Line_s (fuel : Nat) (g_00 : Graphs) (f_01 : Int) : Option ((List Int) × Int) :=
  ((live_In_s fuel g_00 f_01).bind fun vin_1 => (if (vin_1.2 != 0) then (some ([], vin_1.2)) else ((getI g_00.Funcs f_01).bind fun y_2 => ((order_line_s y_2).bind fun lin_3 => (some (lin_3, 0))))))
theorem order_Line_ev {fuel : Nat} {g_00 : Graphs} {f_01 : Int} {r : ((List Int) × Int)} (h : order_Line_s fuel g_00 f_01 = some r) : PureEv Tryd.prog 22 [(Graphs.av g_00), (.int .i64 f_01)] (.tup [(.sl false 1 (List.map (avI .i64) r.1)), (.int .i64 r.2)]) := by
 unfold order_Line_s at h
 refine PureEv_end mixed fn22 (by simp) [] 6 ?_
 unfold fc22
 refine E_sq (E_reg (E_op0 (v' := (.cptr (Graphs.av g_00).cells 0)) rfl rfl (E_mv (v' := .nils) rfl (E_mv (v' := .int .i64 0) rfl (E_nil (E_nx (E_as (E_sq (E_reg (E_op0 (v' := (Graphs.av g_00)) rfl rfl (E_mv (v' := .int .i64 f_01) rfl ?_)))))))))))
 obtain ⟨vin_1, hvin_1, h⟩ := bd_some h
 refine E_callW (live_In_ev (fuel := fuel)  hvin_1) rfl ⟨(.refl _), (.refl _), trivial⟩ (blwL_of ⟨(Graphs.enc.blw _ 0), rfl, trivial⟩) (tup_blw ⟨((encL (encI .i64) 1).blws 0), rfl, trivial⟩) (E_mv (v' := (.tup [(.sl false 1 (List.map (avL 1 (avI .i64)) vin_1.1)), (.int .i64 vin_1.2)])) rfl (E_op0 (v' := (.sl false 1 (List.map (avL 1 (avI .i64)) vin_1.1))) rfl rfl (E_op0 (v' := .int .i64 vin_1.2) rfl rfl (E_mv (v' := (.sl false 1 (List.map (avL 1 (avI .i64)) vin_1.1))) rfl (E_mv (v' := .int .i64 vin_1.2) rfl (E_nil (E_nx (E_as (E_sq (E_reg (E_mv (v' := .int .i64 vin_1.2) rfl (E_op0 (v' := .bool (vin_1.2 != 0)) rfl rfl (E_nil (E_nx (E_sq ?_)))))))))))))))
 refine E_cs (t := (vin_1.2 != 0)) rfl (fun hb => ?_) (fun hb => ?_)
 {
 rw [ite_t hb] at h
 refine E_sq (E_reg (E_mv (v' := .int .i64 vin_1.2) rfl (E_mv (v' := .nils) rfl (E_mv (v' := .int .i64 vin_1.2) rfl (E_nil (E_nx (E_ret (E_thr ?_))))))))
 cases h
 exact ⟨trivial, _, rfl, (fz_tup ⟨(fz_b rfl .nil), (fz_b rfl (.refl _)), trivial⟩)⟩
 }
 {
 rw [ite_f hb] at h
 refine E_skip (E_nx (E_sq (E_reg (E_op0 (v' := (.cptr (Graphs.av g_00).cells 0)) rfl rfl (E_op0 (v' := .sl false 8 (List.map Graph.av g_00.Funcs)) rfl rfl (E_mv (v' := .int .i64 f_01) rfl ?_))))))
 obtain ⟨y_2, hy_2, h⟩ := bd_some h
 refine E_iadF rfl rfl hy_2 ?_
 obtain ⟨lin_3, hlin_3, h⟩ := bd_some h
 refine E_callW (order_line_ev  hlin_3) rfl ⟨(.refl _), trivial⟩ (blwL_of ⟨(cp_blw (Graph.enc.blw _ 0)), trivial⟩) ((encI .i64).blws 0) (E_mv (v' := (.sl false 1 (List.map (avI .i64) lin_3))) rfl (E_mv (v' := .int .i64 0) rfl (E_nil (E_nx (E_ret ?_)))))
 cases h
 exact ⟨trivial, _, rfl, (fz_tup ⟨(fz_b ((encI .i64).blws 0) (.refl _)), (fz_b rfl (.refl _)), trivial⟩)⟩
 }
def fc21 : FC := (.seq (.reg [oO 0 (.mv (.v (.bool false)))] []) (.seq (.reg [oO 6 (.bsl none [(.int .u8 0)] 1 [(0, 1, (.v (.int .u8 0)))]), oO 7 (.build [(.int .u8 0), (.int .u8 0), (.int .i64 0), (.int .i64 0), (.int .i64 0), (.int .i64 0), (.int .i64 0), (.int .i64 0), (.int .u64 0), .nils, (.int .i64 0), (.int .i64 0)] [(0, 1, (.v (.int .u8 1))), (10, 1, (.v (.int .i64 2)))]), oO 8 (.build [(.int .u8 0), (.int .u8 0), (.int .i64 0), (.int .i64 0), (.int .i64 0), (.int .i64 0), (.int .i64 0), (.int .i64 0), (.int .u64 0), .nils, (.int .i64 0), (.int .i64 0)] [(0, 1, (.v (.int .u8 12))), (4, 1, (.v (.int .i64 (-1))))]), oO 9 (.build [(.int .u8 0), (.int .u8 0), (.int .i64 0), (.int .i64 0), (.int .i64 0), (.int .i64 0), (.int .i64 0), (.int .i64 0), (.int .u64 0), .nils, (.int .i64 0), (.int .i64 0)] [(0, 1, (.v (.int .u8 17))), (10, 1, (.v (.int .i64 1)))]), oO 10 (.bsl (some 12) [(.int .u8 0), (.int .u8 0), (.int .i64 0), (.int .i64 0), (.int .i64 0), (.int .i64 0), (.int .i64 0), (.int .i64 0), (.int .u64 0), .nils, (.int .i64 0), (.int .i64 0)] 3 [(0, 12, (.t 7)), (12, 12, (.t 8)), (24, 12, (.t 9))]), oO 11 (.build [.nils, .nils, (.int .i64 0), .nils, (.bool false), (.int .i64 0), .nils, (.int .i64 0)] [(1, 1, (.t 6)), (5, 1, (.v (.int .i64 (-1)))), (6, 1, (.t 10))]), oO 12 (.bsl (some 8) [.nils, .nils, (.int .i64 0), .nils, (.bool false), (.int .i64 0), .nils, (.int .i64 0)] 1 [(0, 8, (.t 11))]), oO 13 (.build [.nils] [(0, 1, (.t 12))]), oO 1 (.new [.nils]), ⟨none, none, .op (.store 1 (.t 1) (.t 13))⟩] []) (.seq (.reg [oO 15 (.load (some 1) (.t 1)), ⟨(some 16), none, .call 22 [(.t 15), (.v (.int .i64 0))]⟩, oO 14 (.mv (.t 16)), oO 17 (.ext 0 (.t 14)), oO 18 (.ext 1 (.t 14)), oO 2 (.mv (.t 17)), oO 3 (.mv (.t 18))] []) (.seq (.reg [oO 20 (.load (some 1) (.t 1)), ⟨(some 21), none, .call 24 [(.t 20), (.v (.int .i64 0))]⟩, oO 19 (.mv (.t 21)), oO 22 (.ext 0 (.t 19)), oO 23 (.ext 1 (.t 19)), oO 4 (.mv (.t 22)), oO 5 (.mv (.t 23))] []) (.seq (.reg [oO 24 (.mv (.t 3)), oO 25 (.bin .none .eql (.t 24) (.v (.int .i64 0))), oO 26 (.mv (.t 25)), ⟨(some 27), some (26, true), .op (.mv (.t 5))⟩, ⟨(some 28), some (26, true), .op (.bin .none .eql (.t 27) (.v (.int .i64 0)))⟩, oO 29 (.pick (.t 26) (.t 28) (.v (.bool false))), oO 30 (.mv (.t 29)), ⟨(some 31), some (30, true), .op (.mv (.t 2))⟩, ⟨(some 32), some (30, true), .op (.len .sl (.t 31))⟩, ⟨(some 33), some (30, true), .op (.bin .none .eql (.t 32) (.v (.int .i64 3)))⟩, oO 34 (.pick (.t 30) (.t 33) (.v (.bool false))), oO 35 (.mv (.t 34)), ⟨(some 36), some (35, true), .op (.mv (.t 2))⟩, ⟨(some 37), some (35, true), .op (.iad none none (.t 36) (.v (.int .i64 1)))⟩, ⟨(some 38), some (35, true), .op (.load none (.t 37))⟩, ⟨(some 39), some (35, true), .op (.bin .none .eql (.t 38) (.v (.int .i64 2)))⟩, oO 40 (.pick (.t 35) (.t 39) (.v (.bool false))), oO 41 (.mv (.t 40)), ⟨(some 42), some (41, true), .op (.mv (.t 4))⟩, ⟨(some 43), some (41, true), .op (.len .sl (.t 42))⟩, ⟨(some 44), some (41, true), .op (.bin .none .eql (.t 43) (.v (.int .i64 1)))⟩, oO 45 (.pick (.t 41) (.t 44) (.v (.bool false))), oO 46 (.mv (.t 45)), ⟨(some 47), some (46, true), .op (.mv (.t 4))⟩, ⟨(some 48), some (46, true), .op (.iad none (some 4) (.t 47) (.v (.int .i64 0)))⟩, ⟨(some 49), some (46, true), .op (.load (some 4) (.t 48))⟩, ⟨(some 50), some (46, true), .op (.build [(.int .i64 0), (.int .i64 0), (.int .i64 0), (.bool false)] [(2, 1, (.v (.int .i64 1)))])⟩, ⟨(some 51), some (46, true), .op (.eqs [.int, .int, .int, .bool] .eql (.t 49) (.t 50))⟩, oO 52 (.pick (.t 46) (.t 51) (.v (.bool false))), oO 0 (.mv (.t 52))] []) .ret)))))
theorem fn21 : Fn3 Tryd.prog 21 53 [(0, none)] fc21 := ⟨_, _, Tryd.func21, rfl, rfl, rfl, by kernel_rfl⟩
def windlasslaw12_first_s (fuel : Nat)  : Option Bool :=
  ((order_Line_s fuel (Graphs.mk ([(Graph.mk [] ([0]) 0 [] false (-1) ([(Node.mk 1 0 0 0 0 0 0 0 0 [] 2 0), (Node.mk 12 0 0 0 (-1) 0 0 0 0 [] 0 0), (Node.mk 17 0 0 0 0 0 0 0 0 [] 1 0)]) 0)])) 0).bind fun lin_1 => ((order_Spans_s fuel (Graphs.mk ([(Graph.mk [] ([0]) 0 [] false (-1) ([(Node.mk 1 0 0 0 0 0 0 0 0 [] 2 0), (Node.mk 12 0 0 0 (-1) 0 0 0 0 [] 0 0), (Node.mk 17 0 0 0 0 0 0 0 0 [] 1 0)]) 0)])) 0).bind fun spa_2 => (jp (fun (s_4 : Bool) => (some s_4)) (fun k_3 => (if (lin_1.2 == 0) then (if (spa_2.2 == 0) then (if ((List.length lin_1.1 : Int) == 3) then ((getI lin_1.1 1).bind fun y_5 => (if (y_5 == 2) then (if ((List.length spa_2.1 : Int) == 1) then ((getI spa_2.1 0).bind fun y_6 => (k_3 ((y_6.Place == 0) && ((y_6.From == 0) && ((y_6.To == 1) && ((y_6.Held == false) && true)))))) else (k_3 false)) else (k_3 false))) else (k_3 false)) else (k_3 false)) else (k_3 false))))))
theorem windlasslaw12_first_ev {fuel : Nat}  {r : Bool} (h : windlasslaw12_first_s fuel  = some r) : PureEv Tryd.prog 21 [] (.bool r) := by
 unfold windlasslaw12_first_s at h
 refine PureEv_end mixed fn21 (by simp) [1] 6 ?_
 unfold fc21
 refine E_sq (E_reg (E_mv (v' := .bool false) rfl (E_nil (E_nx (E_sq (E_reg (E_opw (v' := (.sl true 1 (List.map (avI .u8) [0]))) rfl (.refl _) rfl (E_opw (v' := (Node.av (Node.mk 1 0 0 0 0 0 0 0 0 [] 2 0))) rfl (.aggL ⟨(.refl _), (.refl _), (.refl _), (.refl _), (.refl _), (.refl _), (.refl _), (.refl _), (.refl _), .nil, (.refl _), (.refl _), trivial⟩) rfl (E_opw (v' := (Node.av (Node.mk 12 0 0 0 (-1) 0 0 0 0 [] 0 0))) rfl (.aggL ⟨(.refl _), (.refl _), (.refl _), (.refl _), (.refl _), (.refl _), (.refl _), (.refl _), (.refl _), .nil, (.refl _), (.refl _), trivial⟩) rfl (E_opw (v' := (Node.av (Node.mk 17 0 0 0 0 0 0 0 0 [] 1 0))) rfl (.aggL ⟨(.refl _), (.refl _), (.refl _), (.refl _), (.refl _), (.refl _), (.refl _), (.refl _), (.refl _), .nil, (.refl _), (.refl _), trivial⟩) rfl ?_))))))))))
 refine E_opw (v := (.sl true 12 (List.map Node.av [(Node.mk 1 0 0 0 0 0 0 0 0 [] 2 0), (Node.mk 12 0 0 0 (-1) 0 0 0 0 [] 0 0), (Node.mk 17 0 0 0 0 0 0 0 0 [] 1 0)]))) (v' := (.sl true 12 (List.map Node.av [(Node.mk 1 0 0 0 0 0 0 0 0 [] 2 0), (Node.mk 12 0 0 0 (-1) 0 0 0 0 [] 0 0), (Node.mk 17 0 0 0 0 0 0 0 0 [] 1 0)]))) (rd := []) (δ := none) (by kernel_rfl) (.refl _) rfl ?_
 refine E_opw (v' := (Graph.av (Graph.mk [] ([0]) 0 [] false (-1) ([(Node.mk 1 0 0 0 0 0 0 0 0 [] 2 0), (Node.mk 12 0 0 0 (-1) 0 0 0 0 [] 0 0), (Node.mk 17 0 0 0 0 0 0 0 0 [] 1 0)]) 0))) rfl (.aggL ⟨.nil, .ex, (.refl _), .nil, (.refl _), (.refl _), .ex, (.refl _), trivial⟩) rfl (E_opw (v' := (.sl true 8 (List.map Graph.av [(Graph.mk [] ([0]) 0 [] false (-1) ([(Node.mk 1 0 0 0 0 0 0 0 0 [] 2 0), (Node.mk 12 0 0 0 (-1) 0 0 0 0 [] 0 0), (Node.mk 17 0 0 0 0 0 0 0 0 [] 1 0)]) 0)]))) rfl (.refl _) rfl (E_opw (v' := (Graphs.av (Graphs.mk ([(Graph.mk [] ([0]) 0 [] false (-1) ([(Node.mk 1 0 0 0 0 0 0 0 0 [] 2 0), (Node.mk 12 0 0 0 (-1) 0 0 0 0 [] 0 0), (Node.mk 17 0 0 0 0 0 0 0 0 [] 1 0)]) 0)])))) rfl (.aggL ⟨.ex, trivial⟩) rfl (E_op (v' := .ptr 0 0 0) (S' := [.arr 0 [.nils]]) rfl rfl rfl (E_do (S' := [.arr 0 [(.sl false 8 (List.map Graph.av ([(Graph.mk [] ([0]) 0 [] false (-1) ([(Node.mk 1 0 0 0 0 0 0 0 0 [] 2 0), (Node.mk 12 0 0 0 (-1) 0 0 0 0 [] 0 0), (Node.mk 17 0 0 0 0 0 0 0 0 [] 1 0)]) 0)])))]]) rfl rfl (E_nil (E_nx (E_sq (E_reg (E_opw (v' := (Graphs.av (Graphs.mk ([(Graph.mk [] ([0]) 0 [] false (-1) ([(Node.mk 1 0 0 0 0 0 0 0 0 [] 2 0), (Node.mk 12 0 0 0 (-1) 0 0 0 0 [] 0 0), (Node.mk 17 0 0 0 0 0 0 0 0 [] 1 0)]) 0)])))) rfl (.aggL ⟨(.refl _), trivial⟩) rfl ?_)))))))))
 obtain ⟨lin_1, hlin_1, h⟩ := bd_some h
 refine E_callW (order_Line_ev (fuel := fuel)  hlin_1) rfl ⟨(.refl _), (.refl _), trivial⟩ (blwL_of ⟨(Graphs.enc.blw _ 0), rfl, trivial⟩) (tup_blw ⟨((encI .i64).blws 0), rfl, trivial⟩) (E_mv (v' := (.tup [(.sl false 1 (List.map (avI .i64) lin_1.1)), (.int .i64 lin_1.2)])) rfl (E_op0 (v' := (.sl false 1 (List.map (avI .i64) lin_1.1))) rfl rfl (E_op0 (v' := .int .i64 lin_1.2) rfl rfl (E_mv (v' := (.sl false 1 (List.map (avI .i64) lin_1.1))) rfl (E_mv (v' := .int .i64 lin_1.2) rfl (E_nil (E_nx (E_sq (E_reg (E_opw (v' := (Graphs.av (Graphs.mk ([(Graph.mk [] ([0]) 0 [] false (-1) ([(Node.mk 1 0 0 0 0 0 0 0 0 [] 2 0), (Node.mk 12 0 0 0 (-1) 0 0 0 0 [] 0 0), (Node.mk 17 0 0 0 0 0 0 0 0 [] 1 0)]) 0)])))) rfl (.aggL ⟨(.refl _), trivial⟩) rfl ?_))))))))))
 obtain ⟨spa_2, hspa_2, h⟩ := bd_some h
 refine E_callW (order_Spans_ev (fuel := fuel)  hspa_2) rfl ⟨(.refl _), (.refl _), trivial⟩ (blwL_of ⟨(Graphs.enc.blw _ 0), rfl, trivial⟩) (tup_blw ⟨(Interval.enc.blws 0), rfl, trivial⟩) (E_mv (v' := (.tup [(.sl false 4 (List.map Interval.av spa_2.1)), (.int .i64 spa_2.2)])) rfl (E_op0 (v' := .sl false 4 (List.map Interval.av spa_2.1)) rfl rfl (E_op0 (v' := .int .i64 spa_2.2) rfl rfl (E_mv (v' := .sl false 4 (List.map Interval.av spa_2.1)) rfl (E_mv (v' := .int .i64 spa_2.2) rfl (E_nil (E_nx ?_)))))))
 refine E_jp h (fun s_4 => [(0, (.bool s_4))]) (fun s_4 => []) (fun k_3 h => ?_) (fun s_4 h => ?_)
 {
 refine E_reg (E_mv (v' := .int .i64 lin_1.2) rfl (E_op0 (v' := .bool (lin_1.2 == 0)) rfl rfl (E_mv (v' := .bool (lin_1.2 == 0)) rfl ?_)))
 refine E_gsT (b := (lin_1.2 == 0)) rfl rfl rfl (fun hb => ?_) (fun hb => ?_)
 {
 rw [ite_t hb] at h
 refine E_mv (v' := .int .i64 spa_2.2) rfl (E_gh rfl (E_op0 (v' := .bool (spa_2.2 == 0)) rfl rfl (E_pt rfl rfl (E_mv (v' := .bool (spa_2.2 == 0)) rfl ?_))))
 refine E_gsT (b := (spa_2.2 == 0)) rfl rfl rfl (fun hb => ?_) (fun hb => ?_)
 {
 rw [ite_t hb] at h
 refine E_mv (v' := (.sl false 1 (List.map (avI .i64) lin_1.1))) rfl (E_gh rfl (E_len rfl (E_gh rfl (E_op0 (v' := (.bool ((List.length lin_1.1 : Int) == 3))) rfl rfl (E_pt rfl rfl (E_mv (v' := (.bool ((List.length lin_1.1 : Int) == 3))) rfl ?_))))))
 refine E_gsT (b := ((List.length lin_1.1 : Int) == 3)) rfl rfl rfl (fun hb => ?_) (fun hb => ?_)
 {
 rw [ite_t hb] at h
 refine E_mv (v' := (.sl false 1 (List.map (avI .i64) lin_1.1))) rfl (E_gh rfl ?_)
 obtain ⟨y_5, hy_5, h⟩ := bd_some h
 refine E_iadF rfl rfl hy_5 (E_gh rfl (E_op0 (v' := .int .i64 y_5) rfl rfl (E_gh rfl (E_op0 (v' := .bool (y_5 == 2)) rfl rfl (E_pt rfl rfl (E_mv (v' := .bool (y_5 == 2)) rfl ?_))))))
 refine E_gsT (b := (y_5 == 2)) rfl rfl rfl (fun hb => ?_) (fun hb => ?_)
 {
 rw [ite_t hb] at h
 refine E_mv (v' := .sl false 4 (List.map Interval.av spa_2.1)) rfl (E_gh rfl (E_len rfl (E_gh rfl (E_op0 (v' := (.bool ((List.length spa_2.1 : Int) == 1))) rfl rfl (E_pt rfl rfl (E_mv (v' := (.bool ((List.length spa_2.1 : Int) == 1))) rfl ?_))))))
 refine E_gsT (b := ((List.length spa_2.1 : Int) == 1)) rfl rfl rfl (fun hb => ?_) (fun hb => ?_)
 {
 rw [ite_t hb] at h
 refine E_mv (v' := .sl false 4 (List.map Interval.av spa_2.1)) rfl (E_gh rfl ?_)
 obtain ⟨y_6, hy_6, h⟩ := bd_some h
 refine E_iadF rfl rfl hy_6 (E_gh rfl (E_op0 (v' := (Interval.av y_6)) rfl rfl (E_gh rfl (E_opw (v' := (Interval.av (Interval.mk 0 0 1 false))) rfl (.aggL ⟨(.refl _), (.refl _), (.refl _), (.refl _), trivial⟩) rfl (E_gh rfl (E_op0 (v' := (.bool ((y_6.Place == 0) && ((y_6.From == 0) && ((y_6.To == 1) && ((y_6.Held == false) && true)))))) rfl rfl (E_pt rfl rfl (E_mv (v' := (.bool ((y_6.Place == 0) && ((y_6.From == 0) && ((y_6.To == 1) && ((y_6.Held == false) && true)))))) rfl (E_nil ?_)))))))))
 exact E_jx _ h (wk_rn [] rfl (Nat.le_of_ble_eq_true rfl) trivial ⟨(rn_b rfl), trivial⟩)
 }
 {
 rw [ite_f hb] at h
 refine E_gm rfl (E_gm rfl (E_gm rfl (E_gm rfl (E_pf rfl rfl (E_mv (v' := .bool false) rfl (E_nil ?_))))))
 exact E_jx _ h (wk_rn [] rfl (Nat.le_of_ble_eq_true rfl) trivial ⟨(rn_b rfl), trivial⟩)
 }
 }
 {
 rw [ite_f hb] at h
 refine E_gm rfl (E_gm rfl (E_pf rfl rfl (E_mv (v' := .bool false) rfl (E_gm rfl (E_gm rfl (E_gm rfl (E_gm rfl (E_gm rfl (E_pf rfl rfl (E_mv (v' := .bool false) rfl (E_nil ?_)))))))))))
 exact E_jx _ h (wk_rn [] rfl (Nat.le_of_ble_eq_true rfl) trivial ⟨(rn_b rfl), trivial⟩)
 }
 }
 {
 rw [ite_f hb] at h
 refine E_gm rfl (E_gm rfl (E_gm rfl (E_pf rfl rfl (E_mv (v' := .bool false) rfl (E_gm rfl (E_gm rfl (E_gm rfl (E_pf rfl rfl (E_mv (v' := .bool false) rfl (E_gm rfl (E_gm rfl (E_gm rfl (E_gm rfl (E_gm rfl (E_pf rfl rfl ?_)))))))))))))))
 refine E_mv (v' := .bool false) rfl (E_nil ?_)
 exact E_jx _ h (wk_rn [] rfl (Nat.le_of_ble_eq_true rfl) trivial ⟨(rn_b rfl), trivial⟩)
 }
 }
 {
 rw [ite_f hb] at h
 refine E_gm rfl (E_gm rfl (E_pf rfl rfl (E_mv (v' := .bool false) rfl (E_gm rfl (E_gm rfl (E_gm rfl (E_gm rfl (E_pf rfl rfl (E_mv (v' := .bool false) rfl (E_gm rfl (E_gm rfl (E_gm rfl (E_pf rfl rfl (E_mv (v' := .bool false) rfl (E_gm rfl ?_)))))))))))))))
 refine E_gm rfl (E_gm rfl (E_gm rfl (E_gm rfl (E_pf rfl rfl (E_mv (v' := .bool false) rfl (E_nil ?_))))))
 exact E_jx _ h (wk_rn [] rfl (Nat.le_of_ble_eq_true rfl) trivial ⟨(rn_b rfl), trivial⟩)
 }
 }
 {
 rw [ite_f hb] at h
 refine E_gm rfl (E_pf rfl rfl (E_mv (v' := .bool false) rfl (E_gm rfl (E_gm rfl (E_gm rfl (E_pf rfl rfl (E_mv (v' := .bool false) rfl (E_gm rfl (E_gm rfl (E_gm rfl (E_gm rfl (E_pf rfl rfl (E_mv (v' := .bool false) rfl (E_gm rfl (E_gm rfl ?_)))))))))))))))
 refine E_gm rfl (E_pf rfl rfl (E_mv (v' := .bool false) rfl (E_gm rfl (E_gm rfl (E_gm rfl (E_gm rfl (E_gm rfl (E_pf rfl rfl (E_mv (v' := .bool false) rfl (E_nil ?_))))))))))
 exact E_jx _ h (wk_rn [] rfl (Nat.le_of_ble_eq_true rfl) trivial ⟨(rn_b rfl), trivial⟩)
 }
 }
 {
 refine E_ret ?_
 cases h
 exact ⟨trivial, _, rfl, (fz_b rfl (.refl _))⟩
 }
def fc6 : FC := (.seq (.reg [oO 2 (.box (.t 0)), oO 4 (.mv (.v (.bool false)))] []) (.seq (.seq (.reg [⟨(some 20), none, .call 21 []⟩, oO 21 (.un .not (.t 20))] []) (.cond (.t 21) (.seq (.reg [oO 4 (.mv (.v (.bool false)))] []) .ret) .skip)) (.seq (.reg [oO 23 (.load (some 1) (.t 2)), oO 24 (.mv (.t 1)), ⟨(some 25), none, .call 22 [(.t 23), (.t 24)]⟩, oO 22 (.mv (.t 25)), oO 26 (.ext 0 (.t 22)), oO 27 (.ext 1 (.t 22)), oO 5 (.mv (.t 26)), oO 6 (.mv (.t 27))] []) (.seq (.seq (.reg [oO 28 (.mv (.t 6)), oO 29 (.bin .none .neq (.t 28) (.v (.int .i64 0)))] []) (.cond (.t 29) (.seq (.reg [oO 30 (.mv (.t 5)), oO 31 (.len .sl (.t 30)), oO 32 (.bin .none .eql (.t 31) (.v (.int .i64 0))), oO 4 (.mv (.t 32))] []) .ret) .skip)) (.seq (.reg [oO 33 (.fad 0 (.t 2)), oO 34 (.load none (.t 33)), oO 35 (.mv (.t 1)), oO 36 (.iad none (some 8) (.t 34) (.t 35)), oO 37 (.load (some 8) (.t 36)), oO 7 (.new [.nils, .nils, (.int .i64 0), .nils, (.bool false), (.int .i64 0), .nils, (.int .i64 0)]), ⟨none, none, .op (.store 8 (.t 7) (.t 37))⟩] []) (.seq (.reg [oO 38 (.fad 6 (.t 7)), oO 39 (.load none (.t 38)), oO 40 (.len .sl (.t 39)), oO 41 (.mksl none 8 [(.int .i64 0)] (.t 40) (.t 40)), oO 8 (.mv (.t 41))] []) (.seq (.seq (.reg [oO 42 (.mv (.t 5)), oO 43 (.len .sl (.t 42)), oO 44 (.mv (.v (.int .i64 0)))] []) (.block 0 (.loop (.seq (.reg [oO 45 (.bin .none .lss (.t 44) (.t 43))] []) (.seq (.cond (.t 45) .skip (.exit 0)) (.seq (.block 1 (.seq (.reg [oO 46 (.iad none none (.t 42) (.t 44)), oO 47 (.load none (.t 46)), oO 10 (.mv (.t 47))] []) (.seq (.seq (.reg [oO 48 (.mv (.t 10)), oO 49 (.bin .none .lss (.t 48) (.v (.int .i64 0))), oO 50 (.mv (.t 49)), ⟨(some 51), some (50, false), .op (.mv (.t 10))⟩, ⟨(some 52), some (50, false), .op (.mv (.t 8))⟩, ⟨(some 53), some (50, false), .op (.len .sl (.t 52))⟩, ⟨(some 54), some (50, false), .op (.bin .none .geq (.t 51) (.t 53))⟩, oO 55 (.pick (.t 50) (.v (.bool true)) (.t 54))] []) (.cond (.t 55) (.seq (.reg [oO 4 (.mv (.v (.bool false)))] []) .ret) .skip)) (.reg [oO 56 (.mv (.t 8)), oO 57 (.mv (.t 10)), oO 58 (.iad none none (.t 56) (.t 57)), oO 59 (.load none (.t 58)), oO 60 (.bin .none .add (.t 59) (.v (.int .i64 1))), oO 61 (.iad none none (.t 56) (.t 57)), ⟨none, none, .op (.store 1 (.t 61) (.t 60))⟩] [])))) (.reg [oO 62 (.bin .none .add (.t 44) (.v (.int .i64 1))), oO 44 (.mv (.t 62))] []))))))) (.seq (.seq (.reg [oO 63 (.mv (.t 5)), oO 64 (.len .sl (.t 63)), oO 65 (.bin .none .eql (.t 64) (.v (.int .i64 0))), oO 66 (.mv (.t 65)), ⟨(some 67), some (66, false), .op (.mv (.t 5))⟩, ⟨(some 68), some (66, false), .op (.iad none none (.t 67) (.v (.int .i64 0)))⟩, ⟨(some 69), some (66, false), .op (.load none (.t 68))⟩, ⟨(some 70), some (66, false), .op (.fad 7 (.t 7))⟩, ⟨(some 71), some (66, false), .op (.load none (.t 70))⟩, ⟨(some 72), some (66, false), .op (.bin .none .neq (.t 69) (.t 71))⟩, oO 73 (.pick (.t 66) (.v (.bool true)) (.t 72))] []) (.cond (.t 73) (.seq (.reg [oO 4 (.mv (.v (.bool false)))] []) .ret) .skip)) (.seq (.seq (.reg [oO 74 (.fad 6 (.t 7)), oO 75 (.load none (.t 74)), oO 76 (.len .sl (.t 75)), oO 77 (.mv (.v (.int .i64 0)))] []) (.block 2 (.loop (.seq (.reg [oO 78 (.bin .none .lss (.t 77) (.t 76))] []) (.seq (.cond (.t 78) .skip (.exit 2)) (.seq (.block 3 (.seq (.reg [oO 79 (.mv (.t 77)), oO 80 (.iad none (some 12) (.t 75) (.t 77)), oO 81 (.load (some 12) (.t 80)), oO 12 (.new [(.int .u8 0), (.int .u8 0), (.int .i64 0), (.int .i64 0), (.int .i64 0), (.int .i64 0), (.int .i64 0), (.int .i64 0), (.int .u64 0), .nils, (.int .i64 0), (.int .i64 0)]), oO 11 (.mv (.t 79)), ⟨none, none, .op (.store 12 (.t 12) (.t 81))⟩] []) (.seq (.seq (.reg [oO 82 (.mv (.t 8)), oO 83 (.mv (.t 11)), oO 84 (.iad none none (.t 82) (.t 83)), oO 85 (.load none (.t 84)), oO 86 (.bin .none .gtr (.t 85) (.v (.int .i64 1)))] []) (.cond (.t 86) (.seq (.reg [oO 4 (.mv (.v (.bool false)))] []) .ret) .skip)) (.seq (.reg [oO 87 (.load (some 12) (.t 12)), ⟨(some 88), none, .call 23 [(.t 87)]⟩, oO 89 (.len .sl (.t 88)), oO 90 (.mv (.v (.int .i64 0)))] []) (.block 4 (.loop (.seq (.reg [oO 91 (.bin .none .lss (.t 90) (.t 89))] []) (.seq (.cond (.t 91) .skip (.exit 4)) (.seq (.block 5 (.seq (.reg [oO 92 (.iad none none (.t 88) (.t 90)), oO 93 (.load none (.t 92)), oO 14 (.mv (.t 93))] []) (.seq (.reg [oO 94 (.mv (.t 8)), oO 95 (.mv (.t 11)), oO 96 (.iad none none (.t 94) (.t 95)), oO 97 (.load none (.t 96)), oO 98 (.bin .none .eql (.t 97) (.v (.int .i64 1))), oO 99 (.mv (.t 98)), ⟨(some 100), some (99, true), .op (.mv (.t 8))⟩, ⟨(some 101), some (99, true), .op (.mv (.t 14))⟩, ⟨(some 102), some (99, true), .op (.iad none none (.t 100) (.t 101))⟩, ⟨(some 103), some (99, true), .op (.load none (.t 102))⟩, ⟨(some 104), some (99, true), .op (.bin .none .neq (.t 103) (.v (.int .i64 1)))⟩, oO 105 (.pick (.t 99) (.t 104) (.v (.bool false)))] []) (.cond (.t 105) (.seq (.reg [oO 4 (.mv (.v (.bool false)))] []) .ret) .skip)))) (.reg [oO 106 (.bin .none .add (.t 90) (.v (.int .i64 1))), oO 90 (.mv (.t 106))] [])))))))))) (.reg [oO 107 (.bin .none .add (.t 77) (.v (.int .i64 1))), oO 77 (.mv (.t 107))] []))))))) (.seq (.seq (.reg [oO 108 (.mv (.t 5)), oO 109 (.slc none (.t 108) (some (.v (.int .i64 1))) none none), oO 110 (.len .sl (.t 109)), oO 111 (.mv (.v (.int .i64 0)))] []) (.block 6 (.loop (.seq (.reg [oO 112 (.bin .none .lss (.t 111) (.t 110))] []) (.seq (.cond (.t 112) .skip (.exit 6)) (.seq (.block 7 (.seq (.reg [oO 113 (.iad none none (.t 109) (.t 111)), oO 114 (.load none (.t 113)), oO 16 (.mv (.t 114))] []) (.seq (.reg [oO 17 (.mv (.v (.bool false)))] []) (.seq (.seq (.reg [oO 115 (.mv (.t 5)), oO 116 (.len .sl (.t 115)), oO 117 (.mv (.v (.int .i64 0)))] []) (.block 8 (.loop (.seq (.reg [oO 118 (.bin .none .lss (.t 117) (.t 116))] []) (.seq (.cond (.t 118) .skip (.exit 8)) (.seq (.block 9 (.seq (.reg [oO 119 (.iad none none (.t 115) (.t 117)), oO 120 (.load none (.t 119)), oO 19 (.mv (.t 120))] []) (.reg [oO 121 (.mv (.t 17)), oO 122 (.mv (.t 121)), ⟨(some 123), some (122, false), .op (.mv (.t 19))⟩, ⟨(some 124), some (122, false), .op (.mv (.t 16))⟩, ⟨(some 125), some (122, false), .op (.bin .none .neq (.t 123) (.t 124))⟩, ⟨(some 126), some (122, false), .op (.mv (.t 125))⟩, ⟨(some 127), some (126, true), .op (.fad 6 (.t 7))⟩, ⟨(some 128), some (126, true), .op (.load none (.t 127))⟩, ⟨(some 129), some (126, true), .op (.mv (.t 19))⟩, ⟨(some 130), some (126, true), .op (.iad none (some 12) (.t 128) (.t 129))⟩, ⟨(some 131), some (126, true), .op (.load (some 12) (.t 130))⟩, ⟨(some 132), some (126, true), .call 23 [(.t 131)]⟩, ⟨(some 133), some (126, true), .op (.mv (.t 16))⟩, ⟨(some 134), some (126, true), .call 18 [(.t 132), (.t 133)]⟩, ⟨(some 135), some (122, false), .op (.pick (.t 126) (.t 134) (.v (.bool false)))⟩, oO 136 (.pick (.t 122) (.v (.bool true)) (.t 135)), oO 17 (.mv (.t 136))] []))) (.reg [oO 137 (.bin .none .add (.t 117) (.v (.int .i64 1))), oO 117 (.mv (.t 137))] []))))))) (.seq (.reg [oO 138 (.mv (.t 17)), oO 139 (.un .not (.t 138))] []) (.cond (.t 139) (.seq (.reg [oO 4 (.mv (.v (.bool false)))] []) .ret) .skip)))))) (.reg [oO 140 (.bin .none .add (.t 111) (.v (.int .i64 1))), oO 111 (.mv (.t 140))] []))))))) (.seq (.reg [oO 4 (.mv (.v (.bool true)))] []) .ret)))))))))))
theorem fn6 : Fn3 Tryd.prog 6 141 [(4, none)] fc6 := ⟨_, _, Tryd.func6, rfl, rfl, rfl, by kernel_rfl⟩
def windlasslaw12_OrderAll_s (fuel : Nat) (g_00 : Graphs) (f_01 : Int) : Option Bool :=
  ((windlasslaw12_first_s fuel).bind fun fir_1 => (if (!fir_1) then (some false) else ((order_Line_s fuel g_00 f_01).bind fun lin_2 => (if (lin_2.2 != 0) then (some ((List.length lin_2.1 : Int) == 0)) else ((getI g_00.Funcs f_01).bind fun y_3 => ((mkL 8 (List.length y_3.Nodes : Int) (List.length y_3.Nodes : Int) 0).bind fun m_4 => ((rng (fun (i_6 : Nat) (i_7 : Int) (s_5 : (List Int)) => ((jp (fun (s_10 : Bool) => (if s_10 then (some (.ret (some false))) else ((getI s_5 i_7).bind fun y_11 => ((getI s_5 i_7).bind fun y_12 => (some (.nxt (List.set s_5 (Int.toNat i_7) (I64 (y_11 + 1))))))))) (fun k_9 => (if (decide (i_7 < 0)) then (k_9 true) else (k_9 (decide (i_7 ≥ (List.length s_5 : Int))))))) : Option (Stp (List Int) (Option Bool)))) lin_2.1 m_4).bind (oc (fun (s_5 : (List Int)) => (jp (fun (s_15 : Bool) => (if s_15 then (some false) else ((rng (fun (i_18 : Nat) (n_19 : Node) (s_17 : Unit) => (((getI s_5 (i_18 : Int)).bind fun y_21 => (if (decide (y_21 > 1)) then (some (.ret (some false))) else ((windlassref07_Next_s n_19).bind fun nex_22 => ((rng (fun (i_24 : Nat) (vto_25 : Int) (s_23 : Unit) => ((jp (fun (s_28 : Bool) => (if s_28 then (some (.ret (some (.ret (some false))))) else (some (.nxt ())))) (fun k_27 => ((getI s_5 (i_18 : Int)).bind fun y_29 => (if (y_29 == 1) then ((getI s_5 vto_25).bind fun y_30 => (k_27 (y_30 != 1))) else (k_27 false))))) : Option (Stp Unit (Option (Stp Unit (Option Bool)))))) nex_22 ()).bind (oc (fun (s_23 : Unit) => (some (.nxt ())))))))) : Option (Stp Unit (Option Bool)))) y_3.Nodes ()).bind (oc (fun (s_17 : Unit) => ((subL lin_2.1 1 (List.length lin_2.1 : Int)).bind fun l_31 => ((rng (fun (i_33 : Nat) (i_34 : Int) (s_32 : Unit) => (((rng (fun (i_37 : Nat) (j_38 : Int) (s_36 : Bool) => ((if s_36 then (some (.nxt true)) else (if (j_38 != i_34) then ((getI y_3.Nodes j_38).bind fun y_40 => ((windlassref07_Next_s y_40).bind fun nex_41 => ((windlassref07_In_s nex_41 i_34).bind fun vin_42 => (some (.nxt vin_42))))) else (some (.nxt false)))) : Option (Stp Bool (Option (Stp Unit (Option Bool)))))) lin_2.1 false).bind (oc (fun (s_36 : Bool) => (if (!s_36) then (some (.ret (some false))) else (some (.nxt ())))))) : Option (Stp Unit (Option Bool)))) l_31 ()).bind (oc (fun (s_32 : Unit) => (some true)))))))))) (fun k_14 => (if ((List.length lin_2.1 : Int) == 0) then (k_14 true) else ((getI lin_2.1 0).bind fun y_16 => (k_14 (y_16 != y_3.Entry)))))))))))))))
theorem windlasslaw12_OrderAll_ev {fuel : Nat} {g_00 : Graphs} {f_01 : Int} {r : Bool} (h : windlasslaw12_OrderAll_s fuel g_00 f_01 = some r) : PureEv Tryd.prog 6 [(Graphs.av g_00), (.int .i64 f_01)] (.bool r) := by
 unfold windlasslaw12_OrderAll_s at h
 refine PureEv_end mixed fn6 (by simp) [7, 12, 41] 6 ?_
 unfold fc6
 refine E_sq (E_reg (E_op0 (v' := (.cptr (Graphs.av g_00).cells 0)) rfl rfl (E_mv (v' := .bool false) rfl (E_nil (E_nx (E_as (E_sq (E_reg ?_))))))))
 obtain ⟨fir_1, hfir_1, h⟩ := bd_some h
 refine E_callW (windlasslaw12_first_ev (fuel := fuel)  hfir_1) rfl trivial (blwL_of trivial) rfl (E_op0 (v' := .bool (!fir_1)) rfl rfl (E_nil (E_nx (E_sq ?_))))
 refine E_cs (t := (!fir_1)) rfl (fun hb => ?_) (fun hb => ?_)
 {
 rw [ite_t hb] at h
 refine E_sq (E_reg (E_mv (v' := .bool false) rfl (E_nil (E_nx (E_ret (E_thr ?_))))))
 cases h
 exact ⟨trivial, _, rfl, (fz_b rfl (.refl _))⟩
 }
 {
 rw [ite_f hb] at h
 refine E_skip (E_nx (E_sq (E_reg (E_op0 (v' := (Graphs.av g_00)) rfl rfl (E_mv (v' := .int .i64 f_01) rfl ?_)))))
 obtain ⟨lin_2, hlin_2, h⟩ := bd_some h
 refine E_callW (order_Line_ev (fuel := fuel)  hlin_2) rfl ⟨(.refl _), (.refl _), trivial⟩ (blwL_of ⟨(Graphs.enc.blw _ 0), rfl, trivial⟩) (tup_blw ⟨((encI .i64).blws 0), rfl, trivial⟩) (E_mv (v' := (.tup [(.sl false 1 (List.map (avI .i64) lin_2.1)), (.int .i64 lin_2.2)])) rfl (E_op0 (v' := (.sl false 1 (List.map (avI .i64) lin_2.1))) rfl rfl (E_op0 (v' := .int .i64 lin_2.2) rfl rfl (E_mv (v' := (.sl false 1 (List.map (avI .i64) lin_2.1))) rfl (E_mv (v' := .int .i64 lin_2.2) rfl (E_nil (E_nx (E_as (E_sq (E_reg (E_mv (v' := .int .i64 lin_2.2) rfl (E_op0 (v' := .bool (lin_2.2 != 0)) rfl rfl (E_nil (E_nx (E_sq ?_)))))))))))))))
 refine E_cs (t := (lin_2.2 != 0)) rfl (fun hb => ?_) (fun hb => ?_)
 {
 rw [ite_t hb] at h
 refine E_sq (E_reg (E_mv (v' := (.sl false 1 (List.map (avI .i64) lin_2.1))) rfl (E_len rfl (E_op0 (v' := (.bool ((List.length lin_2.1 : Int) == 0))) rfl rfl (E_mv (v' := (.bool ((List.length lin_2.1 : Int) == 0))) rfl (E_nil (E_nx (E_ret (E_thr ?_)))))))))
 cases h
 exact ⟨trivial, _, rfl, (fz_b rfl (.refl _))⟩
 }
 {
 rw [ite_f hb] at h
 refine E_skip (E_nx (E_sq (E_reg (E_op0 (v' := (.cptr (Graphs.av g_00).cells 0)) rfl rfl (E_op0 (v' := .sl false 8 (List.map Graph.av g_00.Funcs)) rfl rfl (E_mv (v' := .int .i64 f_01) rfl ?_))))))
 obtain ⟨y_3, hy_3, h⟩ := bd_some h
 refine E_iadF rfl rfl hy_3 (E_op0 (v' := (Graph.av y_3)) rfl rfl (E_op (v' := .ptr 0 0 0) (S' := [.arr 0 [.nils, .nils, (.int .i64 0), .nils, (.bool false), (.int .i64 0), .nils, (.int .i64 0)]]) rfl rfl rfl (E_do (S' := [.arr 0 [(.sl false 1 (List.map (avI .i64) y_3.Params)), (.sl false 1 (List.map (avI .u8) y_3.Kinds)), (.int .i64 y_3.Cells), (.sl false 1 (List.map (avI .i64) y_3.Init)), (.bool y_3.Result), (.int .i64 y_3.Keep), (.sl false 12 (List.map Node.av y_3.Nodes)), (.int .i64 y_3.Entry)]]) rfl rfl (E_nil (E_nx (E_sq (E_reg (E_op0 (v' := .ptr 0 0 6) rfl rfl (E_op (v' := .sl false 12 (List.map Node.av y_3.Nodes)) (S' := [.arr 0 [(.sl false 1 (List.map (avI .i64) y_3.Params)), (.sl false 1 (List.map (avI .u8) y_3.Kinds)), (.int .i64 y_3.Cells), (.sl false 1 (List.map (avI .i64) y_3.Init)), (.bool y_3.Result), (.int .i64 y_3.Keep), (.sl false 12 (List.map Node.av y_3.Nodes)), (.int .i64 y_3.Entry)]]) rfl rfl rfl (E_len rfl ?_))))))))))
 obtain ⟨m_4, hm_4, h⟩ := bd_some h
 refine E_mkL (x := 0) (S' := [.arr 0 [(.sl false 1 (List.map (avI .i64) y_3.Params)), (.sl false 1 (List.map (avI .u8) y_3.Kinds)), (.int .i64 y_3.Cells), (.sl false 1 (List.map (avI .i64) y_3.Init)), (.bool y_3.Result), (.int .i64 y_3.Keep), (.sl false 12 (List.map Node.av y_3.Nodes)), (.int .i64 y_3.Entry)], .arr 0 (flat (avI .i64) m_4)]) (encI .i64) rfl rfl rfl rfl hm_4 rfl (E_mv (v' := (.ref 1 0 0 (List.length m_4) none)) rfl (E_nil (E_nx (E_as (E_sq (E_reg (E_mv (v' := (.sl false 1 (List.map (avI .i64) lin_2.1))) rfl (E_len rfl (E_mv (v' := .int .i64 0) rfl (E_nil (E_nx (E_sq ?_))))))))))))
 refine E_rngO (fun s_5 => [(5, (.sl false 1 (List.map (avI .i64) lin_2.1))), (7, (.ptr 0 0 0)), (8, (.ref 1 1 0 (List.length s_5) none)), (42, (.sl false 1 (List.map (avI .i64) lin_2.1)))]) (fun s_5 => [.arr 0 [(.sl false 1 (List.map (avI .i64) y_3.Params)), (.sl false 1 (List.map (avI .u8) y_3.Kinds)), (.int .i64 y_3.Cells), (.sl false 1 (List.map (avI .i64) y_3.Init)), (.bool y_3.Result), (.int .i64 y_3.Keep), (.sl false 12 (List.map Node.av y_3.Nodes)), (.int .i64 y_3.Entry)], .arr 1 (flat (avI .i64) s_5)]) h (by decide) (by decide) (fun _ => ⟨rfl, rfl, rfl, rfl⟩) (wk_rn [some (0, 0), some (1, 0)] rfl (Nat.le_of_ble_eq_true rfl) ⟨(rn_ob rfl rfl (.cons (rn_b ((encI .i64).blws 0)) (.cons (rn_b ((encI .u8).blws 0)) (.cons (rn_b rfl) (.cons (rn_b ((encI .i64).blws 0)) (.cons (rn_b rfl) (.cons (rn_b rfl) (.cons (rn_b (Node.enc.blws 0)) (.cons (rn_b rfl) (.nil (Nat.zero_le _)))))))))) rfl), (rn_ob rfl rfl (.refl ((encI .i64).blwf 0 _)) rfl), trivial⟩ ⟨(rn_b rfl), (rn_b rfl), (rn_b ((encI .i64).blws 0)), (rn_ptr rfl rfl rfl rfl), (rn_refL (encI .i64) rfl rfl rfl), (rn_b ((encI .i64).blws 0)), trivial⟩) (fun i_6 i_7 s_5 c hx_8 hlt h => ?_) (fun s_5 fr' S' h hw => ?_)
 {
 refine E_sq (E_reg (E_iadF rfl rfl (getI_of hx_8) (E_op0 (v' := .int .i64 i_7) rfl rfl (E_mv (v' := .int .i64 i_7) rfl (E_nil (E_nx (E_as ?_)))))))
 refine E_jp h (fun s_10 => [(5, (.sl false 1 (List.map (avI .i64) lin_2.1))), (7, (.ptr 0 0 0)), (8, (.ref 1 1 0 (List.length s_5) none)), (10, (.int .i64 i_7)), (42, (.sl false 1 (List.map (avI .i64) lin_2.1))), (43, (.int .i64 (List.length lin_2.1 : Int))), (44, (.int .i64 (i_6 : Int))), (55, (.bool s_10))]) (fun s_10 => [.arr 0 [(.sl false 1 (List.map (avI .i64) y_3.Params)), (.sl false 1 (List.map (avI .u8) y_3.Kinds)), (.int .i64 y_3.Cells), (.sl false 1 (List.map (avI .i64) y_3.Init)), (.bool y_3.Result), (.int .i64 y_3.Keep), (.sl false 12 (List.map Node.av y_3.Nodes)), (.int .i64 y_3.Entry)], .arr 1 (flat (avI .i64) s_5)]) (fun k_9 h => ?_) (fun s_10 h => ?_)
 {
 refine E_reg (E_mv (v' := .int .i64 i_7) rfl (E_op0 (v' := (.bool (decide (i_7 < 0)))) rfl rfl (E_mv (v' := (.bool (decide (i_7 < 0)))) rfl ?_)))
 refine E_gsT (b := (decide (i_7 < 0))) rfl rfl rfl (fun hb => ?_) (fun hb => ?_)
 {
 rw [ite_f hb] at h
 refine E_mv (v' := .int .i64 i_7) rfl (E_gh rfl (E_mv (v' := (.ref 1 1 0 (List.length s_5) none)) rfl (E_gh rfl (E_lenR rfl (E_gh rfl (E_op0 (v' := (.bool (decide (i_7 ≥ (List.length s_5 : Int))))) rfl rfl (E_pf rfl rfl (E_nil ?_))))))))
 exact E_jx _ h (wk_rn [some (0, 0), some (1, 0)] rfl (Nat.le_of_ble_eq_true rfl) ⟨(rn_ob rfl rfl (.cons (rn_b ((encI .i64).blws 0)) (.cons (rn_b ((encI .u8).blws 0)) (.cons (rn_b rfl) (.cons (rn_b ((encI .i64).blws 0)) (.cons (rn_b rfl) (.cons (rn_b rfl) (.cons (rn_b (Node.enc.blws 0)) (.cons (rn_b rfl) (.nil (Nat.zero_le _)))))))))) rfl), (rn_ob rfl rfl (.refl ((encI .i64).blwf 0 _)) rfl), trivial⟩ ⟨(rn_b ((encI .i64).blws 0)), (rn_ptr rfl rfl rfl rfl), (rn_refL (encI .i64) rfl rfl rfl), (rn_b rfl), (rn_b ((encI .i64).blws 0)), (rn_b rfl), (rn_b rfl), (rn_b rfl), trivial⟩)
 }
 {
 rw [ite_t hb] at h
 refine E_gm rfl (E_gm rfl (E_gm rfl (E_pt rfl rfl (E_nil ?_))))
 exact E_jx _ h (wk_rn [some (0, 0), some (1, 0)] rfl (Nat.le_of_ble_eq_true rfl) ⟨(rn_ob rfl rfl (.cons (rn_b ((encI .i64).blws 0)) (.cons (rn_b ((encI .u8).blws 0)) (.cons (rn_b rfl) (.cons (rn_b ((encI .i64).blws 0)) (.cons (rn_b rfl) (.cons (rn_b rfl) (.cons (rn_b (Node.enc.blws 0)) (.cons (rn_b rfl) (.nil (Nat.zero_le _)))))))))) rfl), (rn_ob rfl rfl (.refl ((encI .i64).blwf 0 _)) rfl), trivial⟩ ⟨(rn_b ((encI .i64).blws 0)), (rn_ptr rfl rfl rfl rfl), (rn_refL (encI .i64) rfl rfl rfl), (rn_b rfl), (rn_b ((encI .i64).blws 0)), (rn_b rfl), (rn_b rfl), (rn_b rfl), trivial⟩)
 }
 }
 {
 refine E_sq ?_
 refine E_cs (t := s_10) rfl (fun hb => ?_) (fun hb => ?_)
 {
 rw [ite_t hb] at h
 refine E_sq (E_reg (E_mv (v' := .bool false) rfl (E_nil (E_nx (E_ret (E_thr ?_))))))
 cases h
 refine L_rrO rfl (fun h => ?_)
 refine E_thr ?_
 cases h
 exact ⟨trivial, _, rfl, (fz_b rfl (.refl _))⟩
 }
 {
 rw [ite_f hb] at h
 refine E_skip (E_nx (E_reg (E_mv (v' := (.ref 1 1 0 (List.length s_5) none)) rfl (E_mv (v' := .int .i64 i_7) rfl ?_))))
 obtain ⟨y_11, hy_11, h⟩ := bd_some h
 refine E_iadR rfl rfl ⟨(getI_some hy_11).1, (getI_some hy_11).2.1⟩ ?_
 refine E_ldR (encI .i64) rfl rfl (by first | rfl | exact (Nat.add_zero _).symm | (simp only [Nat.zero_add]; exact (Nat.add_zero _).symm) | (simp only [Nat.zero_add, Nat.add_zero])) (getI_some hy_11).2.2 rfl (.refl _) ?_
 refine E_op0 (v' := (.int .i64 (I64 (y_11 + 1)))) rfl rfl ?_
 obtain ⟨y_12, hy_12, h⟩ := bd_some h
 refine E_iadR rfl rfl ⟨(getI_some hy_12).1, (getI_some hy_12).2.1⟩ ?_
 refine E_stR (y := y_12) (y' := (I64 (y_11 + 1))) (S' := [.arr 0 [(.sl false 1 (List.map (avI .i64) y_3.Params)), (.sl false 1 (List.map (avI .u8) y_3.Kinds)), (.int .i64 y_3.Cells), (.sl false 1 (List.map (avI .i64) y_3.Init)), (.bool y_3.Result), (.int .i64 y_3.Keep), (.sl false 12 (List.map Node.av y_3.Nodes)), (.int .i64 y_3.Entry)], .arr 1 (flat (avI .i64) (List.set s_5 (Int.toNat i_7) (I64 (y_11 + 1))))]) (encI .i64) rfl rfl rfl (by first | rfl | exact (Nat.add_zero _).symm | (simp only [Nat.zero_add]; exact (Nat.add_zero _).symm) | (simp only [Nat.zero_add, Nat.add_zero])) (getI_some hy_12).2.2 rfl rfl (Nat.le_of_ble_eq_true rfl) rfl rfl ?_
 try rw [show List.length s_5 = List.length (List.set s_5 (Int.toNat i_7) (I64 (y_11 + 1))) by simp only [List.length_set]]
 refine E_nil ?_
 cases h
 exact L_nn rfl (wk_rn [some (0, 0), some (1, 0)] rfl (Nat.le_of_ble_eq_true rfl) ⟨(rn_ob rfl rfl (.cons (rn_b ((encI .i64).blws 0)) (.cons (rn_b ((encI .u8).blws 0)) (.cons (rn_b rfl) (.cons (rn_b ((encI .i64).blws 0)) (.cons (rn_b rfl) (.cons (rn_b rfl) (.cons (rn_b (Node.enc.blws 0)) (.cons (rn_b rfl) (.nil (Nat.zero_le _)))))))))) rfl), (rn_ob rfl rfl (.refl ((encI .i64).blwf 0 _)) rfl), trivial⟩ ⟨(rn_b rfl), (rn_b rfl), (rn_b ((encI .i64).blws 0)), (rn_ptr rfl rfl rfl rfl), (rn_refL (encI .i64) rfl rfl rfl), (rn_b ((encI .i64).blws 0)), trivial⟩)
 }
 }
 }
 {
 refine X_nx hw (E_as ?_)
 refine E_jp h (fun s_15 => [(5, (.sl false 1 (List.map (avI .i64) lin_2.1))), (7, (.ptr 0 0 0)), (8, (.ref 1 1 0 (List.length s_5) none)), (73, (.bool s_15))]) (fun s_15 => [.arr 0 [(.sl false 1 (List.map (avI .i64) y_3.Params)), (.sl false 1 (List.map (avI .u8) y_3.Kinds)), (.int .i64 y_3.Cells), (.sl false 1 (List.map (avI .i64) y_3.Init)), (.bool y_3.Result), (.int .i64 y_3.Keep), (.sl false 12 (List.map Node.av y_3.Nodes)), (.int .i64 y_3.Entry)], .arr 1 (flat (avI .i64) s_5)]) (fun k_14 h => ?_) (fun s_15 h => ?_)
 {
 refine E_reg (E_mv (v' := (.sl false 1 (List.map (avI .i64) lin_2.1))) rfl (E_len rfl (E_op0 (v' := (.bool ((List.length lin_2.1 : Int) == 0))) rfl rfl (E_mv (v' := (.bool ((List.length lin_2.1 : Int) == 0))) rfl ?_))))
 refine E_gsT (b := ((List.length lin_2.1 : Int) == 0)) rfl rfl rfl (fun hb => ?_) (fun hb => ?_)
 {
 rw [ite_f hb] at h
 refine E_mv (v' := (.sl false 1 (List.map (avI .i64) lin_2.1))) rfl (E_gh rfl ?_)
 obtain ⟨y_16, hy_16, h⟩ := bd_some h
 refine E_iadF rfl rfl hy_16 (E_gh rfl (E_op0 (v' := .int .i64 y_16) rfl rfl (E_gh rfl (E_op0 (v' := .ptr 0 0 7) rfl rfl (E_gh rfl (E_op (v' := .int .i64 y_3.Entry) (S' := [.arr 0 [(.sl false 1 (List.map (avI .i64) y_3.Params)), (.sl false 1 (List.map (avI .u8) y_3.Kinds)), (.int .i64 y_3.Cells), (.sl false 1 (List.map (avI .i64) y_3.Init)), (.bool y_3.Result), (.int .i64 y_3.Keep), (.sl false 12 (List.map Node.av y_3.Nodes)), (.int .i64 y_3.Entry)], .arr 1 (flat (avI .i64) s_5)]) rfl rfl rfl (E_gh rfl (E_op0 (v' := .bool (y_16 != y_3.Entry)) rfl rfl (E_pf rfl rfl (E_nil ?_))))))))))
 exact E_jx _ h (wk_rn [some (0, 0), some (1, 0)] rfl (Nat.le_of_ble_eq_true rfl) ⟨(rn_ob rfl rfl (.cons (rn_b ((encI .i64).blws 0)) (.cons (rn_b ((encI .u8).blws 0)) (.cons (rn_b rfl) (.cons (rn_b ((encI .i64).blws 0)) (.cons (rn_b rfl) (.cons (rn_b rfl) (.cons (rn_b (Node.enc.blws 0)) (.cons (rn_b rfl) (.nil (Nat.zero_le _)))))))))) rfl), (rn_ob rfl rfl (.refl ((encI .i64).blwf 0 _)) rfl), trivial⟩ ⟨(rn_b ((encI .i64).blws 0)), (rn_ptr rfl rfl rfl rfl), (rn_refL (encI .i64) rfl rfl rfl), (rn_b rfl), trivial⟩)
 }
 {
 rw [ite_t hb] at h
 refine E_gm rfl (E_gm rfl (E_gm rfl (E_gm rfl (E_gm rfl (E_pt rfl rfl (E_nil ?_))))))
 exact E_jx _ h (wk_rn [some (0, 0), some (1, 0)] rfl (Nat.le_of_ble_eq_true rfl) ⟨(rn_ob rfl rfl (.cons (rn_b ((encI .i64).blws 0)) (.cons (rn_b ((encI .u8).blws 0)) (.cons (rn_b rfl) (.cons (rn_b ((encI .i64).blws 0)) (.cons (rn_b rfl) (.cons (rn_b rfl) (.cons (rn_b (Node.enc.blws 0)) (.cons (rn_b rfl) (.nil (Nat.zero_le _)))))))))) rfl), (rn_ob rfl rfl (.refl ((encI .i64).blwf 0 _)) rfl), trivial⟩ ⟨(rn_b ((encI .i64).blws 0)), (rn_ptr rfl rfl rfl rfl), (rn_refL (encI .i64) rfl rfl rfl), (rn_b rfl), trivial⟩)
 }
 }
 {
 refine E_sq ?_
 refine E_cs (t := s_15) rfl (fun hb => ?_) (fun hb => ?_)
 {
 rw [ite_t hb] at h
 refine E_sq (E_reg (E_mv (v' := .bool false) rfl (E_nil (E_nx (E_ret (E_thr ?_))))))
 cases h
 exact ⟨trivial, _, rfl, (fz_b rfl (.refl _))⟩
 }
 {
 rw [ite_f hb] at h
 refine E_skip (E_nx (E_as (E_sq (E_reg (E_op0 (v' := .ptr 0 0 6) rfl rfl (E_op (v' := .sl false 12 (List.map Node.av y_3.Nodes)) (S' := [.arr 0 [(.sl false 1 (List.map (avI .i64) y_3.Params)), (.sl false 1 (List.map (avI .u8) y_3.Kinds)), (.int .i64 y_3.Cells), (.sl false 1 (List.map (avI .i64) y_3.Init)), (.bool y_3.Result), (.int .i64 y_3.Keep), (.sl false 12 (List.map Node.av y_3.Nodes)), (.int .i64 y_3.Entry)], .arr 1 (flat (avI .i64) s_5)]) rfl rfl rfl (E_len rfl (E_mv (v' := .int .i64 0) rfl (E_nil (E_nx (E_sq ?_)))))))))))
 refine E_rngO (fun s_17 => [(5, (.sl false 1 (List.map (avI .i64) lin_2.1))), (7, (.ptr 0 0 0)), (8, (.ref 1 1 0 (List.length s_5) none)), (75, (.sl false 12 (List.map Node.av y_3.Nodes)))]) (fun s_17 => [.arr 0 [(.sl false 1 (List.map (avI .i64) y_3.Params)), (.sl false 1 (List.map (avI .u8) y_3.Kinds)), (.int .i64 y_3.Cells), (.sl false 1 (List.map (avI .i64) y_3.Init)), (.bool y_3.Result), (.int .i64 y_3.Keep), (.sl false 12 (List.map Node.av y_3.Nodes)), (.int .i64 y_3.Entry)], .arr 1 (flat (avI .i64) s_5)]) h (by decide) (by decide) (fun _ => ⟨rfl, rfl, rfl, rfl⟩) (wk_rn [some (0, 0), some (1, 0)] rfl (Nat.le_of_ble_eq_true rfl) ⟨(rn_ob rfl rfl (.cons (rn_b ((encI .i64).blws 0)) (.cons (rn_b ((encI .u8).blws 0)) (.cons (rn_b rfl) (.cons (rn_b ((encI .i64).blws 0)) (.cons (rn_b rfl) (.cons (rn_b rfl) (.cons (rn_b (Node.enc.blws 0)) (.cons (rn_b rfl) (.nil (Nat.zero_le _)))))))))) rfl), (rn_ob rfl rfl (.refl ((encI .i64).blwf 0 _)) rfl), trivial⟩ ⟨(rn_b rfl), (rn_b rfl), (rn_b ((encI .i64).blws 0)), (rn_ptr rfl rfl rfl rfl), (rn_refL (encI .i64) rfl rfl rfl), (rn_b (Node.enc.blws 0)), trivial⟩) (fun i_18 n_19 s_17 c hx_20 hlt h => ?_) (fun s_17 fr' S' h hw => ?_)
 {
 refine E_sq (E_reg (E_mv (v' := .int .i64 (i_18 : Int)) rfl (E_iadF rfl rfl (getI_of hx_20) (E_op0 (v' := (Node.av n_19)) rfl rfl (E_op (v' := .ptr 2 0 0) (S' := [.arr 0 [(.sl false 1 (List.map (avI .i64) y_3.Params)), (.sl false 1 (List.map (avI .u8) y_3.Kinds)), (.int .i64 y_3.Cells), (.sl false 1 (List.map (avI .i64) y_3.Init)), (.bool y_3.Result), (.int .i64 y_3.Keep), (.sl false 12 (List.map Node.av y_3.Nodes)), (.int .i64 y_3.Entry)], .arr 1 (flat (avI .i64) s_5), .arr 0 [(.int .u8 0), (.int .u8 0), (.int .i64 0), (.int .i64 0), (.int .i64 0), (.int .i64 0), (.int .i64 0), (.int .i64 0), (.int .u64 0), .nils, (.int .i64 0), (.int .i64 0)]]) rfl rfl rfl (E_mv (v' := .int .i64 (i_18 : Int)) rfl (E_do (S' := [.arr 0 [(.sl false 1 (List.map (avI .i64) y_3.Params)), (.sl false 1 (List.map (avI .u8) y_3.Kinds)), (.int .i64 y_3.Cells), (.sl false 1 (List.map (avI .i64) y_3.Init)), (.bool y_3.Result), (.int .i64 y_3.Keep), (.sl false 12 (List.map Node.av y_3.Nodes)), (.int .i64 y_3.Entry)], .arr 1 (flat (avI .i64) s_5), .arr 0 [(.int .u8 n_19.Op), (.int .u8 n_19.By), (.int .i64 n_19.D), (.int .i64 n_19.E), (.int .i64 n_19.A), (.int .i64 n_19.B), (.int .i64 n_19.F), (.int .i64 n_19.Cell), (.int .u64 n_19.Imm), (.sl false 1 (List.map (avI .i64) n_19.Args)), (.int .i64 n_19.Next), (.int .i64 n_19.Else)]]) rfl rfl (E_nil (E_nx (E_as (E_sq (E_reg (E_mv (v' := (.ref 1 1 0 (List.length s_5) none)) rfl (E_mv (v' := .int .i64 (i_18 : Int)) rfl ?_))))))))))))))
 obtain ⟨y_21, hy_21, h⟩ := bd_some h
 refine E_iadR rfl rfl ⟨(getI_some hy_21).1, (getI_some hy_21).2.1⟩ ?_
 refine E_ldR (encI .i64) rfl rfl (by first | rfl | exact (Nat.add_zero _).symm | (simp only [Nat.zero_add]; exact (Nat.add_zero _).symm) | (simp only [Nat.zero_add, Nat.add_zero])) (getI_some hy_21).2.2 rfl (.refl _) ?_
 refine E_op0 (v' := (.bool (decide (y_21 > 1)))) rfl rfl (E_nil (E_nx (E_sq ?_)))
 refine E_cs (t := (decide (y_21 > 1))) rfl (fun hb => ?_) (fun hb => ?_)
 {
 rw [ite_t hb] at h
 refine E_sq (E_reg (E_mv (v' := .bool false) rfl (E_nil (E_nx (E_ret (E_thr ?_))))))
 cases h
 refine L_rrO rfl (fun h => ?_)
 refine E_thr ?_
 cases h
 exact ⟨trivial, _, rfl, (fz_b rfl (.refl _))⟩
 }
 {
 rw [ite_f hb] at h
 refine E_skip (E_nx (E_sq (E_reg (E_opw (v' := (Node.av n_19)) rfl (.aggL ⟨(.refl _), (.refl _), (.refl _), (.refl _), (.refl _), (.refl _), (.refl _), (.refl _), (.refl _), (.refl _), (.refl _), (.refl _), trivial⟩) rfl ?_))))
 obtain ⟨nex_22, hnex_22, h⟩ := bd_some h
 refine E_callW (windlassref07_Next_ev  hnex_22) rfl ⟨(.refl _), trivial⟩ (blwL_of ⟨(Node.enc.blw _ 0), trivial⟩) ((encI .i64).blws 0) (E_len rfl (E_mv (v' := .int .i64 0) rfl (E_nil (E_nx ?_))))
 refine E_rngO (fun s_23 => [(5, (.sl false 1 (List.map (avI .i64) lin_2.1))), (7, (.ptr 0 0 0)), (8, (.ref 1 1 0 (List.length s_5) none)), (11, (.int .i64 (i_18 : Int))), (75, (.sl false 12 (List.map Node.av y_3.Nodes))), (76, (.int .i64 (List.length y_3.Nodes : Int))), (77, (.int .i64 (i_18 : Int))), (88, (.sl false 1 (List.map (avI .i64) nex_22)))]) (fun s_23 => [.arr 0 [(.sl false 1 (List.map (avI .i64) y_3.Params)), (.sl false 1 (List.map (avI .u8) y_3.Kinds)), (.int .i64 y_3.Cells), (.sl false 1 (List.map (avI .i64) y_3.Init)), (.bool y_3.Result), (.int .i64 y_3.Keep), (.sl false 12 (List.map Node.av y_3.Nodes)), (.int .i64 y_3.Entry)], .arr 1 (flat (avI .i64) s_5)]) h (by decide) (by decide) (fun _ => ⟨rfl, rfl, rfl, rfl⟩) (wk_rn [some (0, 0), some (1, 0)] rfl (Nat.le_of_ble_eq_true rfl) ⟨(rn_ob rfl rfl (.cons (rn_b ((encI .i64).blws 0)) (.cons (rn_b ((encI .u8).blws 0)) (.cons (rn_b rfl) (.cons (rn_b ((encI .i64).blws 0)) (.cons (rn_b rfl) (.cons (rn_b rfl) (.cons (rn_b (Node.enc.blws 0)) (.cons (rn_b rfl) (.nil (Nat.zero_le _)))))))))) rfl), (rn_ob rfl rfl (.refl ((encI .i64).blwf 0 _)) rfl), trivial⟩ ⟨(rn_b rfl), (rn_b rfl), (rn_b ((encI .i64).blws 0)), (rn_ptr rfl rfl rfl rfl), (rn_refL (encI .i64) rfl rfl rfl), (rn_b rfl), (rn_b (Node.enc.blws 0)), (rn_b rfl), (rn_b rfl), (rn_b ((encI .i64).blws 0)), trivial⟩) (fun i_24 vto_25 s_23 c hx_26 hlt h => ?_) (fun s_23 fr' S' h hw => ?_)
 {
 refine E_sq (E_reg (E_iadF rfl rfl (getI_of hx_26) (E_op0 (v' := .int .i64 vto_25) rfl rfl (E_mv (v' := .int .i64 vto_25) rfl (E_nil (E_nx ?_))))))
 refine E_jp h (fun s_28 => [(5, (.sl false 1 (List.map (avI .i64) lin_2.1))), (7, (.ptr 0 0 0)), (8, (.ref 1 1 0 (List.length s_5) none)), (11, (.int .i64 (i_18 : Int))), (75, (.sl false 12 (List.map Node.av y_3.Nodes))), (76, (.int .i64 (List.length y_3.Nodes : Int))), (77, (.int .i64 (i_18 : Int))), (88, (.sl false 1 (List.map (avI .i64) nex_22))), (89, (.int .i64 (List.length nex_22 : Int))), (90, (.int .i64 (i_24 : Int))), (105, (.bool s_28))]) (fun s_28 => [.arr 0 [(.sl false 1 (List.map (avI .i64) y_3.Params)), (.sl false 1 (List.map (avI .u8) y_3.Kinds)), (.int .i64 y_3.Cells), (.sl false 1 (List.map (avI .i64) y_3.Init)), (.bool y_3.Result), (.int .i64 y_3.Keep), (.sl false 12 (List.map Node.av y_3.Nodes)), (.int .i64 y_3.Entry)], .arr 1 (flat (avI .i64) s_5)]) (fun k_27 h => ?_) (fun s_28 h => ?_)
 {
 refine E_reg (E_mv (v' := (.ref 1 1 0 (List.length s_5) none)) rfl (E_mv (v' := .int .i64 (i_18 : Int)) rfl ?_))
 obtain ⟨y_29, hy_29, h⟩ := bd_some h
 refine E_iadR rfl rfl ⟨(getI_some hy_29).1, (getI_some hy_29).2.1⟩ ?_
 refine E_ldR (encI .i64) rfl rfl (by first | rfl | exact (Nat.add_zero _).symm | (simp only [Nat.zero_add]; exact (Nat.add_zero _).symm) | (simp only [Nat.zero_add, Nat.add_zero])) (getI_some hy_29).2.2 rfl (.refl _) ?_
 refine E_op0 (v' := .bool (y_29 == 1)) rfl rfl (E_mv (v' := .bool (y_29 == 1)) rfl ?_)
 refine E_gsT (b := (y_29 == 1)) rfl rfl rfl (fun hb => ?_) (fun hb => ?_)
 {
 rw [ite_t hb] at h
 refine E_mv (v' := (.ref 1 1 0 (List.length s_5) none)) rfl (E_gh rfl (E_mv (v' := .int .i64 vto_25) rfl (E_gh rfl ?_)))
 obtain ⟨y_30, hy_30, h⟩ := bd_some h
 refine E_iadR rfl rfl ⟨(getI_some hy_30).1, (getI_some hy_30).2.1⟩ (E_gh rfl ?_)
 refine E_ldR (encI .i64) rfl rfl (by first | rfl | exact (Nat.add_zero _).symm | (simp only [Nat.zero_add]; exact (Nat.add_zero _).symm) | (simp only [Nat.zero_add, Nat.add_zero])) (getI_some hy_30).2.2 rfl (.refl _) ?_
 refine E_gh rfl (E_op0 (v' := .bool (y_30 != 1)) rfl rfl (E_pt rfl rfl (E_nil ?_)))
 exact E_jx _ h (wk_rn [some (0, 0), some (1, 0)] rfl (Nat.le_of_ble_eq_true rfl) ⟨(rn_ob rfl rfl (.cons (rn_b ((encI .i64).blws 0)) (.cons (rn_b ((encI .u8).blws 0)) (.cons (rn_b rfl) (.cons (rn_b ((encI .i64).blws 0)) (.cons (rn_b rfl) (.cons (rn_b rfl) (.cons (rn_b (Node.enc.blws 0)) (.cons (rn_b rfl) (.nil (Nat.zero_le _)))))))))) rfl), (rn_ob rfl rfl (.refl ((encI .i64).blwf 0 _)) rfl), trivial⟩ ⟨(rn_b ((encI .i64).blws 0)), (rn_ptr rfl rfl rfl rfl), (rn_refL (encI .i64) rfl rfl rfl), (rn_b rfl), (rn_b (Node.enc.blws 0)), (rn_b rfl), (rn_b rfl), (rn_b ((encI .i64).blws 0)), (rn_b rfl), (rn_b rfl), (rn_b rfl), trivial⟩)
 }
 {
 rw [ite_f hb] at h
 refine E_gm rfl (E_gm rfl (E_gm rfl (E_gm rfl (E_pf rfl rfl (E_nil ?_)))))
 exact E_jx _ h (wk_rn [some (0, 0), some (1, 0)] rfl (Nat.le_of_ble_eq_true rfl) ⟨(rn_ob rfl rfl (.cons (rn_b ((encI .i64).blws 0)) (.cons (rn_b ((encI .u8).blws 0)) (.cons (rn_b rfl) (.cons (rn_b ((encI .i64).blws 0)) (.cons (rn_b rfl) (.cons (rn_b rfl) (.cons (rn_b (Node.enc.blws 0)) (.cons (rn_b rfl) (.nil (Nat.zero_le _)))))))))) rfl), (rn_ob rfl rfl (.refl ((encI .i64).blwf 0 _)) rfl), trivial⟩ ⟨(rn_b ((encI .i64).blws 0)), (rn_ptr rfl rfl rfl rfl), (rn_refL (encI .i64) rfl rfl rfl), (rn_b rfl), (rn_b (Node.enc.blws 0)), (rn_b rfl), (rn_b rfl), (rn_b ((encI .i64).blws 0)), (rn_b rfl), (rn_b rfl), (rn_b rfl), trivial⟩)
 }
 }
 {
 refine E_cs (t := s_28) rfl (fun hb => ?_) (fun hb => ?_)
 {
 rw [ite_t hb] at h
 refine E_sq (E_reg (E_mv (v' := .bool false) rfl (E_nil (E_nx (E_ret ?_)))))
 cases h
 refine L_rrO rfl (fun h => ?_)
 cases h
 refine L_rrO rfl (fun h => ?_)
 refine E_thr ?_
 cases h
 exact ⟨trivial, _, rfl, (fz_b rfl (.refl _))⟩
 }
 {
 rw [ite_f hb] at h
 refine E_skip ?_
 cases h
 exact L_nn rfl (wk_rn [some (0, 0), some (1, 0)] rfl (Nat.le_of_ble_eq_true rfl) ⟨(rn_ob rfl rfl (.cons (rn_b ((encI .i64).blws 0)) (.cons (rn_b ((encI .u8).blws 0)) (.cons (rn_b rfl) (.cons (rn_b ((encI .i64).blws 0)) (.cons (rn_b rfl) (.cons (rn_b rfl) (.cons (rn_b (Node.enc.blws 0)) (.cons (rn_b rfl) (.nil (Nat.zero_le _)))))))))) rfl), (rn_ob rfl rfl (.refl ((encI .i64).blwf 0 _)) rfl), trivial⟩ ⟨(rn_b rfl), (rn_b rfl), (rn_b ((encI .i64).blws 0)), (rn_ptr rfl rfl rfl rfl), (rn_refL (encI .i64) rfl rfl rfl), (rn_b rfl), (rn_b (Node.enc.blws 0)), (rn_b rfl), (rn_b rfl), (rn_b ((encI .i64).blws 0)), trivial⟩)
 }
 }
 }
 {
 cases h
 exact X_nn rfl hw (wk_rn [some (0, 0), some (1, 0)] rfl (Nat.le_of_ble_eq_true rfl) ⟨(rn_ob rfl rfl (.cons (rn_b ((encI .i64).blws 0)) (.cons (rn_b ((encI .u8).blws 0)) (.cons (rn_b rfl) (.cons (rn_b ((encI .i64).blws 0)) (.cons (rn_b rfl) (.cons (rn_b rfl) (.cons (rn_b (Node.enc.blws 0)) (.cons (rn_b rfl) (.nil (Nat.zero_le _)))))))))) rfl), (rn_ob rfl rfl (.refl ((encI .i64).blwf 0 _)) rfl), trivial⟩ ⟨(rn_b rfl), (rn_b rfl), (rn_b ((encI .i64).blws 0)), (rn_ptr rfl rfl rfl rfl), (rn_refL (encI .i64) rfl rfl rfl), (rn_b (Node.enc.blws 0)), trivial⟩)
 }
 }
 }
 {
 refine X_nx hw (E_as (E_sq (E_reg (E_mv (v' := (.sl false 1 (List.map (avI .i64) lin_2.1))) rfl ?_))))
 obtain ⟨l_31, hl_31, h⟩ := bd_some h
 refine E_slcL rfl (fun h0 => loN_int h0) (fun _ => by simp [evO, hiN]) hl_31 ?_
 refine E_len rfl (E_mv (v' := .int .i64 0) rfl (E_nil (E_nx (E_sq ?_))))
 refine E_rngO (fun s_32 => [(5, (.sl false 1 (List.map (avI .i64) lin_2.1))), (7, (.ptr 0 0 0)), (109, (.sl false 1 (List.map (avI .i64) l_31)))]) (fun s_32 => [.arr 0 [(.sl false 1 (List.map (avI .i64) y_3.Params)), (.sl false 1 (List.map (avI .u8) y_3.Kinds)), (.int .i64 y_3.Cells), (.sl false 1 (List.map (avI .i64) y_3.Init)), (.bool y_3.Result), (.int .i64 y_3.Keep), (.sl false 12 (List.map Node.av y_3.Nodes)), (.int .i64 y_3.Entry)]]) h (by decide) (by decide) (fun _ => ⟨rfl, rfl, rfl, rfl⟩) (wk_rn [some (0, 0)] rfl (Nat.le_of_ble_eq_true rfl) ⟨(rn_ob rfl rfl (.cons (rn_b ((encI .i64).blws 0)) (.cons (rn_b ((encI .u8).blws 0)) (.cons (rn_b rfl) (.cons (rn_b ((encI .i64).blws 0)) (.cons (rn_b rfl) (.cons (rn_b rfl) (.cons (rn_b (Node.enc.blws 0)) (.cons (rn_b rfl) (.nil (Nat.zero_le _)))))))))) rfl), trivial⟩ ⟨(rn_b rfl), (rn_b rfl), (rn_b ((encI .i64).blws 0)), (rn_ptr rfl rfl rfl rfl), (rn_b ((encI .i64).blws 0)), trivial⟩) (fun i_33 i_34 s_32 c hx_35 hlt h => ?_) (fun s_32 fr' S' h hw => ?_)
 {
 refine E_sq (E_reg (E_iadF rfl rfl (getI_of hx_35) (E_op0 (v' := .int .i64 i_34) rfl rfl (E_mv (v' := .int .i64 i_34) rfl (E_nil (E_nx (E_sq (E_reg (E_mv (v' := .bool false) rfl (E_nil (E_nx (E_as (E_sq (E_reg (E_mv (v' := (.sl false 1 (List.map (avI .i64) lin_2.1))) rfl ?_)))))))))))))))
 refine E_len rfl (E_mv (v' := .int .i64 0) rfl (E_nil (E_nx (E_sq ?_))))
 refine E_rngO (fun s_36 => [(5, (.sl false 1 (List.map (avI .i64) lin_2.1))), (7, (.ptr 0 0 0)), (16, (.int .i64 i_34)), (17, (.bool s_36)), (109, (.sl false 1 (List.map (avI .i64) l_31))), (110, (.int .i64 (List.length l_31 : Int))), (111, (.int .i64 (i_33 : Int))), (115, (.sl false 1 (List.map (avI .i64) lin_2.1)))]) (fun s_36 => [.arr 0 [(.sl false 1 (List.map (avI .i64) y_3.Params)), (.sl false 1 (List.map (avI .u8) y_3.Kinds)), (.int .i64 y_3.Cells), (.sl false 1 (List.map (avI .i64) y_3.Init)), (.bool y_3.Result), (.int .i64 y_3.Keep), (.sl false 12 (List.map Node.av y_3.Nodes)), (.int .i64 y_3.Entry)]]) h (by decide) (by decide) (fun _ => ⟨rfl, rfl, rfl, rfl⟩) (wk_rn [some (0, 0)] rfl (Nat.le_of_ble_eq_true rfl) ⟨(rn_ob rfl rfl (.cons (rn_b ((encI .i64).blws 0)) (.cons (rn_b ((encI .u8).blws 0)) (.cons (rn_b rfl) (.cons (rn_b ((encI .i64).blws 0)) (.cons (rn_b rfl) (.cons (rn_b rfl) (.cons (rn_b (Node.enc.blws 0)) (.cons (rn_b rfl) (.nil (Nat.zero_le _)))))))))) rfl), trivial⟩ ⟨(rn_b rfl), (rn_b rfl), (rn_b ((encI .i64).blws 0)), (rn_ptr rfl rfl rfl rfl), (rn_b rfl), (rn_b rfl), (rn_b ((encI .i64).blws 0)), (rn_b rfl), (rn_b rfl), (rn_b ((encI .i64).blws 0)), trivial⟩) (fun i_37 j_38 s_36 c hx_39 hlt h => ?_) (fun s_36 fr' S' h hw => ?_)
 {
 refine E_sq (E_reg (E_iadF rfl rfl (getI_of hx_39) (E_op0 (v' := .int .i64 j_38) rfl rfl (E_mv (v' := .int .i64 j_38) rfl (E_nil (E_nx (E_reg (E_mv (v' := .bool s_36) rfl (E_mv (v' := .bool s_36) rfl ?_)))))))))
 refine E_gsT (b := s_36) rfl rfl rfl (fun hb => ?_) (fun hb => ?_)
 {
 rw [ite_f hb] at h
 refine E_mv (v' := .int .i64 j_38) rfl (E_gh rfl (E_mv (v' := .int .i64 i_34) rfl (E_gh rfl (E_op0 (v' := .bool (j_38 != i_34)) rfl rfl (E_gh rfl (E_mv (v' := .bool (j_38 != i_34)) rfl ?_))))))
 refine E_gsT (b := (j_38 != i_34)) rfl rfl rfl (fun hb => ?_) (fun hb => ?_)
 {
 rw [ite_t hb] at h
 refine E_op0 (v' := .ptr 0 0 6) rfl rfl (E_gh rfl (E_op (v' := .sl false 12 (List.map Node.av y_3.Nodes)) (S' := [.arr 0 [(.sl false 1 (List.map (avI .i64) y_3.Params)), (.sl false 1 (List.map (avI .u8) y_3.Kinds)), (.int .i64 y_3.Cells), (.sl false 1 (List.map (avI .i64) y_3.Init)), (.bool y_3.Result), (.int .i64 y_3.Keep), (.sl false 12 (List.map Node.av y_3.Nodes)), (.int .i64 y_3.Entry)]]) rfl rfl rfl (E_gh rfl (E_mv (v' := .int .i64 j_38) rfl (E_gh rfl ?_)))))
 obtain ⟨y_40, hy_40, h⟩ := bd_some h
 refine E_iadF rfl rfl hy_40 (E_gh rfl (E_op0 (v' := (Node.av y_40)) rfl rfl (E_gh rfl ?_)))
 obtain ⟨nex_41, hnex_41, h⟩ := bd_some h
 refine E_callW (windlassref07_Next_ev  hnex_41) rfl ⟨(.refl _), trivial⟩ (blwL_of ⟨(Node.enc.blw _ 0), trivial⟩) ((encI .i64).blws 0) (E_gh rfl (E_mv (v' := .int .i64 i_34) rfl (E_gh rfl ?_)))
 obtain ⟨vin_42, hvin_42, h⟩ := bd_some h
 refine E_callW (windlassref07_In_ev  hvin_42) rfl ⟨(.refl _), (.refl _), trivial⟩ (blwL_of ⟨((encI .i64).blws 0), rfl, trivial⟩) rfl (E_gh rfl (E_pt rfl rfl (E_pf rfl rfl (E_mv (v' := .bool vin_42) rfl (E_nil ?_)))))
 cases h
 exact L_nn rfl (wk_rn [some (0, 0)] rfl (Nat.le_of_ble_eq_true rfl) ⟨(rn_ob rfl rfl (.cons (rn_b ((encI .i64).blws 0)) (.cons (rn_b ((encI .u8).blws 0)) (.cons (rn_b rfl) (.cons (rn_b ((encI .i64).blws 0)) (.cons (rn_b rfl) (.cons (rn_b rfl) (.cons (rn_b (Node.enc.blws 0)) (.cons (rn_b rfl) (.nil (Nat.zero_le _)))))))))) rfl), trivial⟩ ⟨(rn_b rfl), (rn_b rfl), (rn_b ((encI .i64).blws 0)), (rn_ptr rfl rfl rfl rfl), (rn_b rfl), (rn_b rfl), (rn_b ((encI .i64).blws 0)), (rn_b rfl), (rn_b rfl), (rn_b ((encI .i64).blws 0)), trivial⟩)
 }
 {
 rw [ite_f hb] at h
 refine E_gm rfl (E_gm rfl (E_gm rfl (E_gm rfl (E_gm rfl (E_gm rfl (E_gm rfl (E_gh rfl (E_pf rfl rfl (E_pf rfl rfl (E_mv (v' := .bool false) rfl (E_nil ?_)))))))))))
 cases h
 exact L_nn rfl (wk_rn [some (0, 0)] rfl (Nat.le_of_ble_eq_true rfl) ⟨(rn_ob rfl rfl (.cons (rn_b ((encI .i64).blws 0)) (.cons (rn_b ((encI .u8).blws 0)) (.cons (rn_b rfl) (.cons (rn_b ((encI .i64).blws 0)) (.cons (rn_b rfl) (.cons (rn_b rfl) (.cons (rn_b (Node.enc.blws 0)) (.cons (rn_b rfl) (.nil (Nat.zero_le _)))))))))) rfl), trivial⟩ ⟨(rn_b rfl), (rn_b rfl), (rn_b ((encI .i64).blws 0)), (rn_ptr rfl rfl rfl rfl), (rn_b rfl), (rn_b rfl), (rn_b ((encI .i64).blws 0)), (rn_b rfl), (rn_b rfl), (rn_b ((encI .i64).blws 0)), trivial⟩)
 }
 }
 {
 rw [ite_t hb] at h
 refine E_gm rfl (E_gm rfl (E_gm rfl (E_gz rfl (E_gz rfl (E_gz rfl (E_gz rfl (E_gz rfl (E_gz rfl (E_gz rfl (E_gz rfl (E_gm rfl (E_pt rfl rfl (E_mv (v' := .bool true) rfl (E_nil ?_))))))))))))))
 cases h
 exact L_nn rfl (wk_rn [some (0, 0)] rfl (Nat.le_of_ble_eq_true rfl) ⟨(rn_ob rfl rfl (.cons (rn_b ((encI .i64).blws 0)) (.cons (rn_b ((encI .u8).blws 0)) (.cons (rn_b rfl) (.cons (rn_b ((encI .i64).blws 0)) (.cons (rn_b rfl) (.cons (rn_b rfl) (.cons (rn_b (Node.enc.blws 0)) (.cons (rn_b rfl) (.nil (Nat.zero_le _)))))))))) rfl), trivial⟩ ⟨(rn_b rfl), (rn_b rfl), (rn_b ((encI .i64).blws 0)), (rn_ptr rfl rfl rfl rfl), (rn_b rfl), (rn_b rfl), (rn_b ((encI .i64).blws 0)), (rn_b rfl), (rn_b rfl), (rn_b ((encI .i64).blws 0)), trivial⟩)
 }
 }
 {
 refine X_nx hw (E_sq (E_reg (E_mv (v' := .bool s_36) rfl (E_op0 (v' := .bool (!s_36)) rfl rfl (E_nil (E_nx ?_))))))
 refine E_cs (t := (!s_36)) rfl (fun hb => ?_) (fun hb => ?_)
 {
 rw [ite_t hb] at h
 refine E_sq (E_reg (E_mv (v' := .bool false) rfl (E_nil (E_nx (E_ret ?_)))))
 cases h
 refine L_rrO rfl (fun h => ?_)
 refine E_thr ?_
 cases h
 exact ⟨trivial, _, rfl, (fz_b rfl (.refl _))⟩
 }
 {
 rw [ite_f hb] at h
 refine E_skip ?_
 cases h
 exact L_nn rfl (wk_rn [some (0, 0)] rfl (Nat.le_of_ble_eq_true rfl) ⟨(rn_ob rfl rfl (.cons (rn_b ((encI .i64).blws 0)) (.cons (rn_b ((encI .u8).blws 0)) (.cons (rn_b rfl) (.cons (rn_b ((encI .i64).blws 0)) (.cons (rn_b rfl) (.cons (rn_b rfl) (.cons (rn_b (Node.enc.blws 0)) (.cons (rn_b rfl) (.nil (Nat.zero_le _)))))))))) rfl), trivial⟩ ⟨(rn_b rfl), (rn_b rfl), (rn_b ((encI .i64).blws 0)), (rn_ptr rfl rfl rfl rfl), (rn_b ((encI .i64).blws 0)), trivial⟩)
 }
 }
 }
 {
 refine X_nx hw (E_sq (E_reg (E_mv (v' := .bool true) rfl (E_nil (E_nx (E_ret ?_))))))
 cases h
 exact ⟨trivial, _, rfl, (fz_b rfl (.refl _))⟩
 }
 }
 }
 }
 }
 }
 }
end
end Go.Proofs.YtgoejecjmodjiaaDoor

