/- What the functions compute, and that they do (printed by wip/gen/gen.py), part 1. -/
import Derived.Test.YtgoejecjmodjiaaDoorWlH2
import Derived.Test.YtgoejecjmodjiaaDoorRows
import Derived.Test.YtgoejecjmodjiaaDoorOrW3
import Derived.Test.YtgoejecjmodjiaaDoorGenR
namespace Go.Proofs.YtgoejecjmodjiaaDoor
open Go Go.Ab
noncomputable section
set_option maxRecDepth 20000
set_option maxHeartbeats 2000000
set_option linter.unusedVariables false
set_option linter.unusedSimpArgs false
def fc22 : FC := (.seq (.reg [oO 2 (.box (.t 0)), oO 4 (.mv (.v .nils)), oO 5 (.mv (.v (.int .i64 0)))] []) (.seq (.seq (.reg [oO 9 (.load (some 1) (.t 2)), oO 10 (.mv (.t 1)), ⟨(some 11), none, .call 10 [(.t 9), (.t 10)]⟩, oO 8 (.mv (.t 11)), oO 12 (.ext 0 (.t 8)), oO 13 (.ext 1 (.t 8)), oO 6 (.mv (.t 12)), oO 7 (.mv (.t 13))] []) (.seq (.reg [oO 14 (.mv (.t 7)), oO 15 (.bin .none .neq (.t 14) (.v (.int .i64 0)))] []) (.cond (.t 15) (.seq (.reg [oO 16 (.mv (.t 7)), oO 4 (.mv (.v .nils)), oO 5 (.mv (.t 16))] []) .ret) .skip))) (.seq (.reg [oO 17 (.fad 0 (.t 2)), oO 18 (.load none (.t 17)), oO 19 (.mv (.t 1)), oO 20 (.iad none (some 8) (.t 18) (.t 19)), ⟨(some 21), none, .call 45 [(.t 20)]⟩, oO 4 (.mv (.t 21)), oO 5 (.mv (.v (.int .i64 0)))] []) .ret)))
theorem fn22 : Fn3 Tryd.prog 22 22 [(4, none), (5, none)] fc22 := ⟨_, _, Tryd.func22, rfl, rfl, rfl, by kernel_rfl⟩
def order_Line_s (fuel : Nat) (g_00 : Graphs) (f_01 : Int) : Option ((List Int) × Int) :=
  ((live_In_s fuel g_00 f_01).bind fun vin_1 => (if (vin_1.2 != 0) then (some ([], vin_1.2)) else ((getI g_00.Funcs f_01).bind fun y_2 => ((order_line_s y_2).bind fun lin_3 => (some (lin_3, 0))))))
theorem order_Line_ev {fuel : Nat} {g_00 : Graphs} {f_01 : Int} {r : ((List Int) × Int)} (h : order_Line_s fuel g_00 f_01 = some r) : PureEv Tryd.prog 22 [(Graphs.av g_00), (.int .i64 f_01)] (.tup [(.sl false 1 (List.map (avI .i64) r.1)), (.int .i64 r.2)]) := by
 unfold order_Line_s at h
 refine PureEv_end mixed fn22 (by simp) [] 6 ?_
 unfold fc22
 refine E_sq (E_reg (E_op0 (v' := (.cptr (Graphs.av g_00).cells 0)) rfl rfl (E_mv (v' := .nils) rfl (E_mv (v' := .int .i64 0) rfl (E_nil (E_nx (E_as (E_sq (E_reg (E_op0 (v' := (Graphs.av g_00)) rfl rfl (E_mv (v' := .int .i64 f_01) rfl ?_)))))))))))
 obtain ⟨vin_1, hvin_1, h⟩ := bd_some h
 refine E_callW (live_In_ev (fuel := fuel)  hvin_1) rfl ⟨(.refl _), (.refl _), trivial⟩ (blwL_of ⟨(Graphs.enc.blw _ 0), rfl, trivial⟩) (tup_blw ⟨((encL (encI .i64) 1).blws 0), rfl, trivial⟩) (E_mv (v' := (.tup [(.sl false 1 (List.map (avL 1 (avI .i64)) vin_1.1)), (.int .i64 vin_1.2)])) rfl (E_op0 (v' := (.sl false 1 (List.map (avL 1 (avI .i64)) vin_1.1))) rfl rfl (E_op0 (v' := .int .i64 vin_1.2) rfl rfl (E_mv (v' := (.sl false 1 (List.map (avL 1 (avI .i64)) vin_1.1))) rfl (E_mv (v' := .int .i64 vin_1.2) rfl (E_nil (E_nx (E_as (E_sq (E_reg (E_mv (v' := .int .i64 vin_1.2) rfl (E_op0 (v' := .bool (vin_1.2 != 0)) rfl rfl (E_nil (E_nx (E_sq ?_)))))))))))))))
 refine E_cs (t := (vin_1.2 != 0)) rfl (fun hb => ?_) (fun hb => ?_)
 {
 rw [ite_t hb] at h
 refine E_sq (E_reg (E_mv (v' := .int .i64 vin_1.2) rfl (E_mv (v' := .nils) rfl (E_mv (v' := .int .i64 vin_1.2) rfl (E_nil (E_nx (E_ret (E_thr ?_))))))))
 cases h
 exact ⟨trivial, _, rfl, (fz_tup ⟨(fz_b rfl .nil), (fz_b rfl (.refl _)), trivial⟩)⟩
 }
 {
 rw [ite_f hb] at h
 refine E_skip (E_nx (E_sq (E_reg (E_op0 (v' := (.cptr (Graphs.av g_00).cells 0)) rfl rfl (E_op0 (v' := .sl false 8 (List.map Graph.av g_00.Funcs)) rfl rfl (E_mv (v' := .int .i64 f_01) rfl ?_))))))
 obtain ⟨y_2, hy_2, h⟩ := bd_some h
 refine E_iadF rfl rfl hy_2 ?_
 obtain ⟨lin_3, hlin_3, h⟩ := bd_some h
 refine E_callW (order_line_ev  hlin_3) rfl ⟨(.refl _), trivial⟩ (blwL_of ⟨(cp_blw (Graph.enc.blw _ 0)), trivial⟩) ((encI .i64).blws 0) (E_mv (v' := (.sl false 1 (List.map (avI .i64) lin_3))) rfl (E_mv (v' := .int .i64 0) rfl (E_nil (E_nx (E_ret ?_)))))
 cases h
 exact ⟨trivial, _, rfl, (fz_tup ⟨(fz_b ((encI .i64).blws 0) (.refl _)), (fz_b rfl (.refl _)), trivial⟩)⟩
 }
def fc21 : FC := (.seq (.reg [oO 0 (.mv (.v (.bool false)))] []) (.seq (.reg [oO 6 (.bsl none [(.int .u8 0)] 1 [(0, 1, (.v (.int .u8 0)))]), oO 7 (.build [(.int .u8 0), (.int .u8 0), (.int .i64 0), (.int .i64 0), (.int .i64 0), (.int .i64 0), (.int .i64 0), (.int .i64 0), (.int .u64 0), .nils, (.int .i64 0), (.int .i64 0)] [(0, 1, (.v (.int .u8 1))), (10, 1, (.v (.int .i64 2)))]), oO 8 (.build [(.int .u8 0), (.int .u8 0), (.int .i64 0), (.int .i64 0), (.int .i64 0), (.int .i64 0), (.int .i64 0), (.int .i64 0), (.int .u64 0), .nils, (.int .i64 0), (.int .i64 0)] [(0, 1, (.v (.int .u8 12))), (4, 1, (.v (.int .i64 (-1))))]), oO 9 (.build [(.int .u8 0), (.int .u8 0), (.int .i64 0), (.int .i64 0), (.int .i64 0), (.int .i64 0), (.int .i64 0), (.int .i64 0), (.int .u64 0), .nils, (.int .i64 0), (.int .i64 0)] [(0, 1, (.v (.int .u8 17))), (10, 1, (.v (.int .i64 1)))]), oO 10 (.bsl (some 12) [(.int .u8 0), (.int .u8 0), (.int .i64 0), (.int .i64 0), (.int .i64 0), (.int .i64 0), (.int .i64 0), (.int .i64 0), (.int .u64 0), .nils, (.int .i64 0), (.int .i64 0)] 3 [(0, 12, (.t 7)), (12, 12, (.t 8)), (24, 12, (.t 9))]), oO 11 (.build [.nils, .nils, (.int .i64 0), .nils, (.bool false), (.int .i64 0), .nils, (.int .i64 0)] [(1, 1, (.t 6)), (5, 1, (.v (.int .i64 (-1)))), (6, 1, (.t 10))]), oO 12 (.bsl (some 8) [.nils, .nils, (.int .i64 0), .nils, (.bool false), (.int .i64 0), .nils, (.int .i64 0)] 1 [(0, 8, (.t 11))]), oO 13 (.build [.nils] [(0, 1, (.t 12))]), oO 1 (.new [.nils]), ⟨none, none, .op (.store 1 (.t 1) (.t 13))⟩] []) (.seq (.reg [oO 15 (.load (some 1) (.t 1)), ⟨(some 16), none, .call 22 [(.t 15), (.v (.int .i64 0))]⟩, oO 14 (.mv (.t 16)), oO 17 (.ext 0 (.t 14)), oO 18 (.ext 1 (.t 14)), oO 2 (.mv (.t 17)), oO 3 (.mv (.t 18))] []) (.seq (.reg [oO 20 (.load (some 1) (.t 1)), ⟨(some 21), none, .call 24 [(.t 20), (.v (.int .i64 0))]⟩, oO 19 (.mv (.t 21)), oO 22 (.ext 0 (.t 19)), oO 23 (.ext 1 (.t 19)), oO 4 (.mv (.t 22)), oO 5 (.mv (.t 23))] []) (.seq (.reg [oO 24 (.mv (.t 3)), oO 25 (.bin .none .eql (.t 24) (.v (.int .i64 0))), oO 26 (.mv (.t 25)), ⟨(some 27), some (26, true), .op (.mv (.t 5))⟩, ⟨(some 28), some (26, true), .op (.bin .none .eql (.t 27) (.v (.int .i64 0)))⟩, oO 29 (.pick (.t 26) (.t 28) (.v (.bool false))), oO 30 (.mv (.t 29)), ⟨(some 31), some (30, true), .op (.mv (.t 2))⟩, ⟨(some 32), some (30, true), .op (.len .sl (.t 31))⟩, ⟨(some 33), some (30, true), .op (.bin .none .eql (.t 32) (.v (.int .i64 3)))⟩, oO 34 (.pick (.t 30) (.t 33) (.v (.bool false))), oO 35 (.mv (.t 34)), ⟨(some 36), some (35, true), .op (.mv (.t 2))⟩, ⟨(some 37), some (35, true), .op (.iad none none (.t 36) (.v (.int .i64 1)))⟩, ⟨(some 38), some (35, true), .op (.load none (.t 37))⟩, ⟨(some 39), some (35, true), .op (.bin .none .eql (.t 38) (.v (.int .i64 2)))⟩, oO 40 (.pick (.t 35) (.t 39) (.v (.bool false))), oO 41 (.mv (.t 40)), ⟨(some 42), some (41, true), .op (.mv (.t 4))⟩, ⟨(some 43), some (41, true), .op (.len .sl (.t 42))⟩, ⟨(some 44), some (41, true), .op (.bin .none .eql (.t 43) (.v (.int .i64 1)))⟩, oO 45 (.pick (.t 41) (.t 44) (.v (.bool false))), oO 46 (.mv (.t 45)), ⟨(some 47), some (46, true), .op (.mv (.t 4))⟩, ⟨(some 48), some (46, true), .op (.iad none (some 4) (.t 47) (.v (.int .i64 0)))⟩, ⟨(some 49), some (46, true), .op (.load (some 4) (.t 48))⟩, ⟨(some 50), some (46, true), .op (.build [(.int .i64 0), (.int .i64 0), (.int .i64 0), (.bool false)] [(2, 1, (.v (.int .i64 1)))])⟩, ⟨(some 51), some (46, true), .op (.eqs [.int, .int, .int, .bool] .eql (.t 49) (.t 50))⟩, oO 52 (.pick (.t 46) (.t 51) (.v (.bool false))), oO 0 (.mv (.t 52))] []) .ret)))))
theorem fn21 : Fn3 Tryd.prog 21 53 [(0, none)] fc21 := ⟨_, _, Tryd.func21, rfl, rfl, rfl, by kernel_rfl⟩
def windlasslaw12_first_s (fuel : Nat)  : Option Bool :=
  ((order_Line_s fuel (Graphs.mk ([(Graph.mk [] ([0]) 0 [] false (-1) ([(Node.mk 1 0 0 0 0 0 0 0 0 [] 2 0), (Node.mk 12 0 0 0 (-1) 0 0 0 0 [] 0 0), (Node.mk 17 0 0 0 0 0 0 0 0 [] 1 0)]) 0)])) 0).bind fun lin_1 => ((order_Spans_s fuel (Graphs.mk ([(Graph.mk [] ([0]) 0 [] false (-1) ([(Node.mk 1 0 0 0 0 0 0 0 0 [] 2 0), (Node.mk 12 0 0 0 (-1) 0 0 0 0 [] 0 0), (Node.mk 17 0 0 0 0 0 0 0 0 [] 1 0)]) 0)])) 0).bind fun spa_2 => (jp (fun (s_4 : Bool) => (some s_4)) (fun k_3 => (if (lin_1.2 == 0) then (if (spa_2.2 == 0) then (if ((List.length lin_1.1 : Int) == 3) then ((getI lin_1.1 1).bind fun y_5 => (if (y_5 == 2) then (if ((List.length spa_2.1 : Int) == 1) then ((getI spa_2.1 0).bind fun y_6 => (k_3 ((y_6.Place == 0) && ((y_6.From == 0) && ((y_6.To == 1) && ((y_6.Held == false) && true)))))) else (k_3 false)) else (k_3 false))) else (k_3 false)) else (k_3 false)) else (k_3 false))))))
theorem windlasslaw12_first_ev {fuel : Nat}  {r : Bool} (h : windlasslaw12_first_s fuel  = some r) : PureEv Tryd.prog 21 [] (.bool r) := by
 unfold windlasslaw12_first_s at h
 refine PureEv_end mixed fn21 (by simp) [1] 6 ?_
 unfold fc21
 refine E_sq (E_reg (E_mv (v' := .bool false) rfl (E_nil (E_nx (E_sq (E_reg (E_opw (v' := (.sl true 1 (List.map (avI .u8) [0]))) rfl (.refl _) rfl (E_opw (v' := (Node.av (Node.mk 1 0 0 0 0 0 0 0 0 [] 2 0))) rfl (.aggL ⟨(.refl _), (.refl _), (.refl _), (.refl _), (.refl _), (.refl _), (.refl _), (.refl _), (.refl _), .nil, (.refl _), (.refl _), trivial⟩) rfl (E_opw (v' := (Node.av (Node.mk 12 0 0 0 (-1) 0 0 0 0 [] 0 0))) rfl (.aggL ⟨(.refl _), (.refl _), (.refl _), (.refl _), (.refl _), (.refl _), (.refl _), (.refl _), (.refl _), .nil, (.refl _), (.refl _), trivial⟩) rfl (E_opw (v' := (Node.av (Node.mk 17 0 0 0 0 0 0 0 0 [] 1 0))) rfl (.aggL ⟨(.refl _), (.refl _), (.refl _), (.refl _), (.refl _), (.refl _), (.refl _), (.refl _), (.refl _), .nil, (.refl _), (.refl _), trivial⟩) rfl ?_))))))))))
 refine E_opw (v := (.sl true 12 (List.map Node.av [(Node.mk 1 0 0 0 0 0 0 0 0 [] 2 0), (Node.mk 12 0 0 0 (-1) 0 0 0 0 [] 0 0), (Node.mk 17 0 0 0 0 0 0 0 0 [] 1 0)]))) (v' := (.sl true 12 (List.map Node.av [(Node.mk 1 0 0 0 0 0 0 0 0 [] 2 0), (Node.mk 12 0 0 0 (-1) 0 0 0 0 [] 0 0), (Node.mk 17 0 0 0 0 0 0 0 0 [] 1 0)]))) (rd := []) (δ := none) (by kernel_rfl) (.refl _) rfl ?_
 refine E_opw (v' := (Graph.av (Graph.mk [] ([0]) 0 [] false (-1) ([(Node.mk 1 0 0 0 0 0 0 0 0 [] 2 0), (Node.mk 12 0 0 0 (-1) 0 0 0 0 [] 0 0), (Node.mk 17 0 0 0 0 0 0 0 0 [] 1 0)]) 0))) rfl (.aggL ⟨.nil, .ex, (.refl _), .nil, (.refl _), (.refl _), .ex, (.refl _), trivial⟩) rfl (E_opw (v' := (.sl true 8 (List.map Graph.av [(Graph.mk [] ([0]) 0 [] false (-1) ([(Node.mk 1 0 0 0 0 0 0 0 0 [] 2 0), (Node.mk 12 0 0 0 (-1) 0 0 0 0 [] 0 0), (Node.mk 17 0 0 0 0 0 0 0 0 [] 1 0)]) 0)]))) rfl (.refl _) rfl (E_opw (v' := (Graphs.av (Graphs.mk ([(Graph.mk [] ([0]) 0 [] false (-1) ([(Node.mk 1 0 0 0 0 0 0 0 0 [] 2 0), (Node.mk 12 0 0 0 (-1) 0 0 0 0 [] 0 0), (Node.mk 17 0 0 0 0 0 0 0 0 [] 1 0)]) 0)])))) rfl (.aggL ⟨.ex, trivial⟩) rfl (E_op (v' := .ptr 0 0 0) (S' := [.arr 0 [.nils]]) rfl rfl rfl (E_do (S' := [.arr 0 [(.sl false 8 (List.map Graph.av ([(Graph.mk [] ([0]) 0 [] false (-1) ([(Node.mk 1 0 0 0 0 0 0 0 0 [] 2 0), (Node.mk 12 0 0 0 (-1) 0 0 0 0 [] 0 0), (Node.mk 17 0 0 0 0 0 0 0 0 [] 1 0)]) 0)])))]]) rfl rfl (E_nil (E_nx (E_sq (E_reg (E_opw (v' := (Graphs.av (Graphs.mk ([(Graph.mk [] ([0]) 0 [] false (-1) ([(Node.mk 1 0 0 0 0 0 0 0 0 [] 2 0), (Node.mk 12 0 0 0 (-1) 0 0 0 0 [] 0 0), (Node.mk 17 0 0 0 0 0 0 0 0 [] 1 0)]) 0)])))) rfl (.aggL ⟨(.refl _), trivial⟩) rfl ?_)))))))))
 obtain ⟨lin_1, hlin_1, h⟩ := bd_some h
 refine E_callW (order_Line_ev (fuel := fuel)  hlin_1) rfl ⟨(.refl _), (.refl _), trivial⟩ (blwL_of ⟨(Graphs.enc.blw _ 0), rfl, trivial⟩) (tup_blw ⟨((encI .i64).blws 0), rfl, trivial⟩) (E_mv (v' := (.tup [(.sl false 1 (List.map (avI .i64) lin_1.1)), (.int .i64 lin_1.2)])) rfl (E_op0 (v' := (.sl false 1 (List.map (avI .i64) lin_1.1))) rfl rfl (E_op0 (v' := .int .i64 lin_1.2) rfl rfl (E_mv (v' := (.sl false 1 (List.map (avI .i64) lin_1.1))) rfl (E_mv (v' := .int .i64 lin_1.2) rfl (E_nil (E_nx (E_sq (E_reg (E_opw (v' := (Graphs.av (Graphs.mk ([(Graph.mk [] ([0]) 0 [] false (-1) ([(Node.mk 1 0 0 0 0 0 0 0 0 [] 2 0), (Node.mk 12 0 0 0 (-1) 0 0 0 0 [] 0 0), (Node.mk 17 0 0 0 0 0 0 0 0 [] 1 0)]) 0)])))) rfl (.aggL ⟨(.refl _), trivial⟩) rfl ?_))))))))))
 obtain ⟨spa_2, hspa_2, h⟩ := bd_some h
 refine E_callW (order_Spans_ev (fuel := fuel)  hspa_2) rfl ⟨(.refl _), (.refl _), trivial⟩ (blwL_of ⟨(Graphs.enc.blw _ 0), rfl, trivial⟩) (tup_blw ⟨(Interval.enc.blws 0), rfl, trivial⟩) (E_mv (v' := (.tup [(.sl false 4 (List.map Interval.av spa_2.1)), (.int .i64 spa_2.2)])) rfl (E_op0 (v' := .sl false 4 (List.map Interval.av spa_2.1)) rfl rfl (E_op0 (v' := .int .i64 spa_2.2) rfl rfl (E_mv (v' := .sl false 4 (List.map Interval.av spa_2.1)) rfl (E_mv (v' := .int .i64 spa_2.2) rfl (E_nil (E_nx ?_)))))))
 refine E_jp h (fun s_4 => [(0, (.bool s_4))]) (fun s_4 => []) (fun k_3 h => ?_) (fun s_4 h => ?_)
 {
 refine E_reg (E_mv (v' := .int .i64 lin_1.2) rfl (E_op0 (v' := .bool (lin_1.2 == 0)) rfl rfl (E_mv (v' := .bool (lin_1.2 == 0)) rfl ?_)))
 refine E_gsT (b := (lin_1.2 == 0)) rfl rfl rfl (fun hb => ?_) (fun hb => ?_)
 {
 rw [ite_t hb] at h
 refine E_mv (v' := .int .i64 spa_2.2) rfl (E_gh rfl (E_op0 (v' := .bool (spa_2.2 == 0)) rfl rfl (E_pt rfl rfl (E_mv (v' := .bool (spa_2.2 == 0)) rfl ?_))))
 refine E_gsT (b := (spa_2.2 == 0)) rfl rfl rfl (fun hb => ?_) (fun hb => ?_)
 {
 rw [ite_t hb] at h
 refine E_mv (v' := (.sl false 1 (List.map (avI .i64) lin_1.1))) rfl (E_gh rfl (E_len rfl (E_gh rfl (E_op0 (v' := (.bool ((List.length lin_1.1 : Int) == 3))) rfl rfl (E_pt rfl rfl (E_mv (v' := (.bool ((List.length lin_1.1 : Int) == 3))) rfl ?_))))))
 refine E_gsT (b := ((List.length lin_1.1 : Int) == 3)) rfl rfl rfl (fun hb => ?_) (fun hb => ?_)
 {
 rw [ite_t hb] at h
 refine E_mv (v' := (.sl false 1 (List.map (avI .i64) lin_1.1))) rfl (E_gh rfl ?_)
 obtain ⟨y_5, hy_5, h⟩ := bd_some h
 refine E_iadF rfl rfl hy_5 (E_gh rfl (E_op0 (v' := .int .i64 y_5) rfl rfl (E_gh rfl (E_op0 (v' := .bool (y_5 == 2)) rfl rfl (E_pt rfl rfl (E_mv (v' := .bool (y_5 == 2)) rfl ?_))))))
 refine E_gsT (b := (y_5 == 2)) rfl rfl rfl (fun hb => ?_) (fun hb => ?_)
 {
 rw [ite_t hb] at h
 refine E_mv (v' := .sl false 4 (List.map Interval.av spa_2.1)) rfl (E_gh rfl (E_len rfl (E_gh rfl (E_op0 (v' := (.bool ((List.length spa_2.1 : Int) == 1))) rfl rfl (E_pt rfl rfl (E_mv (v' := (.bool ((List.length spa_2.1 : Int) == 1))) rfl ?_))))))
 refine E_gsT (b := ((List.length spa_2.1 : Int) == 1)) rfl rfl rfl (fun hb => ?_) (fun hb => ?_)
 {
 rw [ite_t hb] at h
 refine E_mv (v' := .sl false 4 (List.map Interval.av spa_2.1)) rfl (E_gh rfl ?_)
 obtain ⟨y_6, hy_6, h⟩ := bd_some h
 refine E_iadF rfl rfl hy_6 (E_gh rfl (E_op0 (v' := (Interval.av y_6)) rfl rfl (E_gh rfl (E_opw (v' := (Interval.av (Interval.mk 0 0 1 false))) rfl (.aggL ⟨(.refl _), (.refl _), (.refl _), (.refl _), trivial⟩) rfl (E_gh rfl (E_op0 (v' := (.bool ((y_6.Place == 0) && ((y_6.From == 0) && ((y_6.To == 1) && ((y_6.Held == false) && true)))))) rfl rfl (E_pt rfl rfl (E_mv (v' := (.bool ((y_6.Place == 0) && ((y_6.From == 0) && ((y_6.To == 1) && ((y_6.Held == false) && true)))))) rfl (E_nil ?_)))))))))
 exact E_jx _ h (wk_rn [] rfl (Nat.le_of_ble_eq_true rfl) trivial ⟨(rn_b rfl), trivial⟩)
 }
 {
 rw [ite_f hb] at h
 refine E_gm rfl (E_gm rfl (E_gm rfl (E_gm rfl (E_pf rfl rfl (E_mv (v' := .bool false) rfl (E_nil ?_))))))
 exact E_jx _ h (wk_rn [] rfl (Nat.le_of_ble_eq_true rfl) trivial ⟨(rn_b rfl), trivial⟩)
 }
 }
 {
 rw [ite_f hb] at h
 refine E_gm rfl (E_gm rfl (E_pf rfl rfl (E_mv (v' := .bool false) rfl (E_gm rfl (E_gm rfl (E_gm rfl (E_gm rfl (E_gm rfl (E_pf rfl rfl (E_mv (v' := .bool false) rfl (E_nil ?_)))))))))))
 exact E_jx _ h (wk_rn [] rfl (Nat.le_of_ble_eq_true rfl) trivial ⟨(rn_b rfl), trivial⟩)
 }
 }
 {
 rw [ite_f hb] at h
 refine E_gm rfl (E_gm rfl (E_gm rfl (E_pf rfl rfl (E_mv (v' := .bool false) rfl (E_gm rfl (E_gm rfl (E_gm rfl (E_pf rfl rfl (E_mv (v' := .bool false) rfl (E_gm rfl (E_gm rfl (E_gm rfl (E_gm rfl (E_gm rfl (E_pf rfl rfl ?_)))))))))))))))
 refine E_mv (v' := .bool false) rfl (E_nil ?_)
 exact E_jx _ h (wk_rn [] rfl (Nat.le_of_ble_eq_true rfl) trivial ⟨(rn_b rfl), trivial⟩)
 }
 }
 {
 rw [ite_f hb] at h
 refine E_gm rfl (E_gm rfl (E_pf rfl rfl (E_mv (v' := .bool false) rfl (E_gm rfl (E_gm rfl (E_gm rfl (E_gm rfl (E_pf rfl rfl (E_mv (v' := .bool false) rfl (E_gm rfl (E_gm rfl (E_gm rfl (E_pf rfl rfl (E_mv (v' := .bool false) rfl (E_gm rfl ?_)))))))))))))))
 refine E_gm rfl (E_gm rfl (E_gm rfl (E_gm rfl (E_pf rfl rfl (E_mv (v' := .bool false) rfl (E_nil ?_))))))
 exact E_jx _ h (wk_rn [] rfl (Nat.le_of_ble_eq_true rfl) trivial ⟨(rn_b rfl), trivial⟩)
 }
 }
 {
 rw [ite_f hb] at h
 refine E_gm rfl (E_pf rfl rfl (E_mv (v' := .bool false) rfl (E_gm rfl (E_gm rfl (E_gm rfl (E_pf rfl rfl (E_mv (v' := .bool false) rfl (E_gm rfl (E_gm rfl (E_gm rfl (E_gm rfl (E_pf rfl rfl (E_mv (v' := .bool false) rfl (E_gm rfl (E_gm rfl ?_)))))))))))))))
 refine E_gm rfl (E_pf rfl rfl (E_mv (v' := .bool false) rfl (E_gm rfl (E_gm rfl (E_gm rfl (E_gm rfl (E_gm rfl (E_pf rfl rfl (E_mv (v' := .bool false) rfl (E_nil ?_))))))))))
 exact E_jx _ h (wk_rn [] rfl (Nat.le_of_ble_eq_true rfl) trivial ⟨(rn_b rfl), trivial⟩)
 }
 }
 {
 refine E_ret ?_
 cases h
 exact ⟨trivial, _, rfl, (fz_b rfl (.refl _))⟩
 }
end
end Go.Proofs.YtgoejecjmodjiaaDoor

