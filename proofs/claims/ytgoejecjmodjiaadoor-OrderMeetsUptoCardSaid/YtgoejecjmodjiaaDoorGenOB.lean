/- What the functions compute, and that they do (printed by wip/gen/gen.py), part 1. -/
import Derived.Test.YtgoejecjmodjiaaDoorWlH2
import Derived.Test.YtgoejecjmodjiaaDoorRows
import Derived.Test.YtgoejecjmodjiaaDoorLvW
namespace Go.Proofs.YtgoejecjmodjiaaDoor
open Go Go.Ab
noncomputable section
set_option maxRecDepth 20000
set_option maxHeartbeats 2000000
set_option linter.unusedVariables false
set_option linter.unusedSimpArgs false
def fc7 : FC := (.seq (.reg [oO 2 (.box (.t 0)), oO 4 (.mv (.v (.bool false)))] []) (.seq (.seq (.reg [⟨(some 20), none, .call 21 []⟩, oO 21 (.un .not (.t 20))] []) (.cond (.t 21) (.seq (.reg [oO 4 (.mv (.v (.bool false)))] []) .ret) .skip)) (.seq (.reg [oO 23 (.load (some 1) (.t 2)), oO 24 (.mv (.t 1)), ⟨(some 25), none, .call 24 [(.t 23), (.t 24)]⟩, oO 22 (.mv (.t 25)), oO 26 (.ext 0 (.t 22)), oO 27 (.ext 1 (.t 22)), oO 5 (.mv (.t 26)), oO 6 (.mv (.t 27))] []) (.seq (.reg [oO 29 (.load (some 1) (.t 2)), oO 30 (.mv (.t 1)), ⟨(some 31), none, .call 22 [(.t 29), (.t 30)]⟩, oO 28 (.mv (.t 31)), oO 32 (.ext 0 (.t 28)), oO 33 (.ext 1 (.t 28)), oO 7 (.mv (.t 32)), oO 8 (.mv (.t 33))] []) (.seq (.seq (.reg [oO 34 (.mv (.t 6)), oO 35 (.bin .none .neq (.t 34) (.v (.int .i64 0)))] []) (.cond (.t 35) (.seq (.reg [oO 36 (.mv (.t 5)), oO 37 (.len .sl (.t 36)), oO 38 (.bin .none .eql (.t 37) (.v (.int .i64 0))), oO 4 (.mv (.t 38))] []) .ret) .skip)) (.seq (.reg [oO 39 (.fad 0 (.t 2)), oO 40 (.load none (.t 39)), oO 41 (.mv (.t 1)), oO 42 (.iad none (some 8) (.t 40) (.t 41)), oO 43 (.load (some 8) (.t 42)), ⟨(some 44), none, .call 14 [(.t 43)]⟩, oO 9 (.mv (.t 44))] []) (.seq (.reg [oO 45 (.fad 0 (.t 2)), oO 46 (.load none (.t 45)), oO 47 (.mv (.t 1)), oO 48 (.iad none (some 8) (.t 46) (.t 47)), oO 49 (.fad 1 (.t 48)), oO 50 (.load none (.t 49)), oO 51 (.len .sl (.t 50)), oO 52 (.mksl (some 4) 32 [(.int .i64 0), (.int .i64 0), (.int .i64 0), (.bool false)] (.t 51) (.t 51)), oO 10 (.mv (.t 52))] []) (.seq (.seq (.reg [oO 53 (.mv (.t 10)), oO 54 (.len .sl (.t 53)), oO 55 (.mv (.v (.int .i64 0)))] []) (.block 0 (.loop (.seq (.reg [oO 56 (.bin .none .lss (.t 55) (.t 54))] []) (.seq (.cond (.t 56) .skip (.exit 0)) (.seq (.block 1 (.seq (.reg [oO 57 (.mv (.t 55)), oO 11 (.mv (.t 57))] []) (.reg [oO 58 (.mv (.t 10)), oO 59 (.mv (.t 11)), oO 60 (.build [(.int .i64 0), (.int .i64 0), (.int .i64 0), (.bool false)] [(1, 1, (.v (.int .i64 1073741824))), (2, 1, (.v (.int .i64 (-1))))]), oO 61 (.iad none (some 4) (.t 58) (.t 59)), ⟨none, none, .op (.store 4 (.t 61) (.t 60))⟩] []))) (.reg [oO 62 (.bin .none .add (.t 55) (.v (.int .i64 1))), oO 55 (.mv (.t 62))] []))))))) (.seq (.seq (.reg [oO 63 (.mv (.t 5)), oO 64 (.len .sl (.t 63)), oO 65 (.mv (.v (.int .i64 0)))] []) (.block 2 (.loop (.seq (.reg [oO 66 (.bin .none .lss (.t 65) (.t 64))] []) (.seq (.cond (.t 66) .skip (.exit 2)) (.seq (.block 3 (.seq (.reg [oO 67 (.iad none (some 4) (.t 63) (.t 65)), oO 68 (.load (some 4) (.t 67)), oO 13 (.new [(.int .i64 0), (.int .i64 0), (.int .i64 0), (.bool false)]), ⟨none, none, .op (.store 4 (.t 13) (.t 68))⟩] []) (.seq (.seq (.reg [oO 69 (.fad 0 (.t 13)), oO 70 (.load none (.t 69)), oO 71 (.bin .none .lss (.t 70) (.v (.int .i64 0))), oO 72 (.mv (.t 71)), ⟨(some 73), some (72, false), .op (.fad 0 (.t 13))⟩, ⟨(some 74), some (72, false), .op (.load none (.t 73))⟩, ⟨(some 75), some (72, false), .op (.mv (.t 10))⟩, ⟨(some 76), some (72, false), .op (.len .sl (.t 75))⟩, ⟨(some 77), some (72, false), .op (.bin .none .geq (.t 74) (.t 76))⟩, oO 78 (.pick (.t 72) (.v (.bool true)) (.t 77)), oO 79 (.mv (.t 78)), ⟨(some 80), some (79, false), .op (.fad 1 (.t 13))⟩, ⟨(some 81), some (79, false), .op (.load none (.t 80))⟩, ⟨(some 82), some (79, false), .op (.fad 2 (.t 13))⟩, ⟨(some 83), some (79, false), .op (.load none (.t 82))⟩, ⟨(some 84), some (79, false), .op (.bin .none .gtr (.t 81) (.t 83))⟩, oO 85 (.pick (.t 79) (.v (.bool true)) (.t 84))] []) (.cond (.t 85) (.seq (.reg [oO 4 (.mv (.v (.bool false)))] []) .ret) .skip)) (.reg [oO 86 (.mv (.t 10)), oO 87 (.fad 0 (.t 13)), oO 88 (.load none (.t 87)), oO 89 (.load (some 4) (.t 13)), oO 90 (.iad none (some 4) (.t 86) (.t 88)), ⟨none, none, .op (.store 4 (.t 90) (.t 89))⟩] [])))) (.reg [oO 91 (.bin .none .add (.t 65) (.v (.int .i64 1))), oO 65 (.mv (.t 91))] []))))))) (.seq (.seq (.reg [oO 92 (.mv (.t 7)), oO 93 (.len .sl (.t 92)), oO 94 (.mv (.v (.int .i64 0)))] []) (.block 4 (.loop (.seq (.reg [oO 95 (.bin .none .lss (.t 94) (.t 93))] []) (.seq (.cond (.t 95) .skip (.exit 4)) (.seq (.block 5 (.seq (.reg [oO 96 (.mv (.t 94)), oO 97 (.iad none none (.t 92) (.t 94)), oO 98 (.load none (.t 97)), oO 14 (.mv (.t 96)), oO 15 (.mv (.t 98))] []) (.seq (.reg [oO 99 (.mv (.t 9)), oO 100 (.mv (.t 15)), oO 101 (.iad none none (.t 99) (.t 100)), oO 102 (.load none (.t 101)), oO 103 (.len .sl (.t 102)), oO 104 (.mv (.v (.int .i64 0)))] []) (.block 6 (.loop (.seq (.reg [oO 105 (.bin .none .lss (.t 104) (.t 103))] []) (.seq (.cond (.t 105) .skip (.exit 6)) (.seq (.block 7 (.seq (.reg [oO 106 (.iad none none (.t 102) (.t 104)), oO 107 (.load none (.t 106)), oO 17 (.mv (.t 107))] []) (.seq (.seq (.reg [oO 108 (.mv (.t 10)), oO 109 (.mv (.t 17)), oO 110 (.iad none (some 4) (.t 108) (.t 109)), oO 111 (.fad 1 (.t 110)), oO 112 (.load none (.t 111)), oO 113 (.mv (.t 14)), oO 114 (.bin .none .gtr (.t 112) (.t 113)), oO 115 (.mv (.t 114)), ⟨(some 116), some (115, false), .op (.mv (.t 10))⟩, ⟨(some 117), some (115, false), .op (.mv (.t 17))⟩, ⟨(some 118), some (115, false), .op (.iad none (some 4) (.t 116) (.t 117))⟩, ⟨(some 119), some (115, false), .op (.fad 2 (.t 118))⟩, ⟨(some 120), some (115, false), .op (.load none (.t 119))⟩, ⟨(some 121), some (115, false), .op (.mv (.t 14))⟩, ⟨(some 122), some (115, false), .op (.bin .none .lss (.t 120) (.t 121))⟩, oO 123 (.pick (.t 115) (.v (.bool true)) (.t 122))] []) (.cond (.t 123) (.seq (.reg [oO 4 (.mv (.v (.bool false)))] []) .ret) .skip)) (.seq (.reg [oO 124 (.mv (.t 9)), oO 125 (.mv (.t 15)), oO 126 (.iad none none (.t 124) (.t 125)), oO 127 (.load none (.t 126)), oO 128 (.len .sl (.t 127)), oO 129 (.mv (.v (.int .i64 0)))] []) (.block 8 (.loop (.seq (.reg [oO 130 (.bin .none .lss (.t 129) (.t 128))] []) (.seq (.cond (.t 130) .skip (.exit 8)) (.seq (.block 9 (.seq (.reg [oO 131 (.iad none none (.t 127) (.t 129)), oO 132 (.load none (.t 131)), oO 19 (.mv (.t 132))] []) (.seq (.reg [oO 133 (.mv (.t 10)), oO 134 (.mv (.t 17)), oO 135 (.iad none (some 4) (.t 133) (.t 134)), oO 136 (.fad 1 (.t 135)), oO 137 (.load none (.t 136)), oO 138 (.mv (.t 10)), oO 139 (.mv (.t 19)), oO 140 (.iad none (some 4) (.t 138) (.t 139)), oO 141 (.fad 2 (.t 140)), oO 142 (.load none (.t 141)), oO 143 (.bin .none .gtr (.t 137) (.t 142)), oO 144 (.mv (.t 143)), ⟨(some 145), some (144, false), .op (.mv (.t 10))⟩, ⟨(some 146), some (144, false), .op (.mv (.t 19))⟩, ⟨(some 147), some (144, false), .op (.iad none (some 4) (.t 145) (.t 146))⟩, ⟨(some 148), some (144, false), .op (.fad 1 (.t 147))⟩, ⟨(some 149), some (144, false), .op (.load none (.t 148))⟩, ⟨(some 150), some (144, false), .op (.mv (.t 10))⟩, ⟨(some 151), some (144, false), .op (.mv (.t 17))⟩, ⟨(some 152), some (144, false), .op (.iad none (some 4) (.t 150) (.t 151))⟩, ⟨(some 153), some (144, false), .op (.fad 2 (.t 152))⟩, ⟨(some 154), some (144, false), .op (.load none (.t 153))⟩, ⟨(some 155), some (144, false), .op (.bin .none .gtr (.t 149) (.t 154))⟩, oO 156 (.pick (.t 144) (.v (.bool true)) (.t 155))] []) (.cond (.t 156) (.seq (.reg [oO 4 (.mv (.v (.bool false)))] []) .ret) .skip)))) (.reg [oO 157 (.bin .none .add (.t 129) (.v (.int .i64 1))), oO 129 (.mv (.t 157))] [])))))))))) (.reg [oO 158 (.bin .none .add (.t 104) (.v (.int .i64 1))), oO 104 (.mv (.t 158))] []))))))))) (.reg [oO 159 (.bin .none .add (.t 94) (.v (.int .i64 1))), oO 94 (.mv (.t 159))] []))))))) (.seq (.reg [oO 4 (.mv (.v (.bool true)))] []) .ret)))))))))))
theorem fn7 : Fn3 Tryd.prog 7 160 [(4, none)] fc7 := ⟨_, _, Tryd.func7, rfl, rfl, rfl, by kernel_rfl⟩
def windlasslaw12_OrderMeets_s (fuel : Nat) (g_00 : Graphs) (f_01 : Int) : Option Bool :=
  ((windlasslaw12_first_s fuel).bind fun fir_1 => (if (!fir_1) then (some false) else ((order_Spans_s fuel g_00 f_01).bind fun spa_2 => ((order_Line_s fuel g_00 f_01).bind fun lin_3 => (if (spa_2.2 != 0) then (some ((List.length spa_2.1 : Int) == 0)) else ((getI g_00.Funcs f_01).bind fun y_4 => ((windlassref11_In_s fuel y_4).bind fun vin_5 => ((mkL 32 (List.length y_4.Kinds : Int) (List.length y_4.Kinds : Int) (Interval.mk 0 0 0 false)).bind fun m_6 => ((rni (fun (i_8 : Nat) (s_7 : (List Interval)) => (((getI s_7 (i_8 : Int)).bind fun y_9 => (some (.nxt (List.set s_7 (Int.toNat (i_8 : Int)) (Interval.mk 0 1073741824 (-1) false))))) : Option (Stp (List Interval) (Option Bool)))) (List.length m_6 : Int) m_6).bind (oc (fun (s_7 : (List Interval)) => ((rng (fun (i_12 : Nat) (x_13 : Interval) (s_11 : (List Interval)) => ((jp (fun (s_16 : Bool) => (if s_16 then (some (.ret (some false))) else ((getI s_11 x_13.Place).bind fun y_17 => (some (.nxt (List.set s_11 (Int.toNat x_13.Place) x_13)))))) (fun k_15 => (if (decide (x_13.Place < 0)) then (k_15 true) else (if (decide (x_13.Place ≥ (List.length s_11 : Int))) then (k_15 true) else (k_15 (decide (x_13.From > x_13.To))))))) : Option (Stp (List Interval) (Option Bool)))) spa_2.1 s_7).bind (oc (fun (s_11 : (List Interval)) => ((rng (fun (i_20 : Nat) (i_21 : Int) (s_19 : Unit) => (((getI vin_5 i_21).bind fun y_23 => ((rng (fun (i_25 : Nat) (p_26 : Int) (s_24 : Unit) => ((jp (fun (s_29 : Bool) => (if s_29 then (some (.ret (some (.ret (some false))))) else ((getI vin_5 i_21).bind fun y_32 => ((rng (fun (i_34 : Nat) (q_35 : Int) (s_33 : Unit) => ((jp (fun (s_38 : Bool) => (if s_38 then (some (.ret (some (.ret (some (.ret (some false))))))) else (some (.nxt ())))) (fun k_37 => ((getI s_11 p_26).bind fun y_39 => ((getI s_11 q_35).bind fun y_40 => (if (decide (y_39.From > y_40.To)) then (k_37 true) else ((getI s_11 q_35).bind fun y_41 => ((getI s_11 p_26).bind fun y_42 => (k_37 (decide (y_41.From > y_42.To)))))))))) : Option (Stp Unit (Option (Stp Unit (Option (Stp Unit (Option Bool)))))))) y_32 ()).bind (oc (fun (s_33 : Unit) => (some (.nxt ())))))))) (fun k_28 => ((getI s_11 p_26).bind fun y_30 => (if (decide (y_30.From > (i_20 : Int))) then (k_28 true) else ((getI s_11 p_26).bind fun y_31 => (k_28 (decide (y_31.To < (i_20 : Int))))))))) : Option (Stp Unit (Option (Stp Unit (Option Bool)))))) y_23 ()).bind (oc (fun (s_24 : Unit) => (some (.nxt ())))))) : Option (Stp Unit (Option Bool)))) lin_3.1 ()).bind (oc (fun (s_19 : Unit) => (some true))))))))))))))))))
theorem windlasslaw12_OrderMeets_ev {fuel : Nat} {g_00 : Graphs} {f_01 : Int} {r : Bool} (h : windlasslaw12_OrderMeets_s fuel g_00 f_01 = some r) : PureEv Tryd.prog 7 [(Graphs.av g_00), (.int .i64 f_01)] (.bool r) := by
 unfold windlasslaw12_OrderMeets_s at h
 refine PureEv_end mixed fn7 (by simp) [13, 52] 6 ?_
 unfold fc7
 refine E_sq (E_reg (E_op0 (v' := (.cptr (Graphs.av g_00).cells 0)) rfl rfl (E_mv (v' := .bool false) rfl (E_nil (E_nx (E_as (E_sq (E_reg ?_))))))))
 obtain ⟨fir_1, hfir_1, h⟩ := bd_some h
 refine E_callW (windlasslaw12_first_ev (fuel := fuel)  hfir_1) rfl trivial (blwL_of trivial) rfl (E_op0 (v' := .bool (!fir_1)) rfl rfl (E_nil (E_nx (E_sq ?_))))
 refine E_cs (t := (!fir_1)) rfl (fun hb => ?_) (fun hb => ?_)
 {
 rw [ite_t hb] at h
 refine E_sq (E_reg (E_mv (v' := .bool false) rfl (E_nil (E_nx (E_ret (E_thr ?_))))))
 cases h
 exact ⟨trivial, _, rfl, (fz_b rfl (.refl _))⟩
 }
 {
 rw [ite_f hb] at h
 refine E_skip (E_nx (E_sq (E_reg (E_op0 (v' := (Graphs.av g_00)) rfl rfl (E_mv (v' := .int .i64 f_01) rfl ?_)))))
 obtain ⟨spa_2, hspa_2, h⟩ := bd_some h
 refine E_callW (order_Spans_ev (fuel := fuel)  hspa_2) rfl ⟨(.refl _), (.refl _), trivial⟩ (blwL_of ⟨(Graphs.enc.blw _ 0), rfl, trivial⟩) (tup_blw ⟨(Interval.enc.blws 0), rfl, trivial⟩) (E_mv (v' := (.tup [(.sl false 4 (List.map Interval.av spa_2.1)), (.int .i64 spa_2.2)])) rfl (E_op0 (v' := .sl false 4 (List.map Interval.av spa_2.1)) rfl rfl (E_op0 (v' := .int .i64 spa_2.2) rfl rfl (E_mv (v' := .sl false 4 (List.map Interval.av spa_2.1)) rfl (E_mv (v' := .int .i64 spa_2.2) rfl (E_nil (E_nx (E_sq (E_reg (E_op0 (v' := (Graphs.av g_00)) rfl rfl (E_mv (v' := .int .i64 f_01) rfl ?_)))))))))))
 obtain ⟨lin_3, hlin_3, h⟩ := bd_some h
 refine E_callW (order_Line_ev (fuel := fuel)  hlin_3) rfl ⟨(.refl _), (.refl _), trivial⟩ (blwL_of ⟨(Graphs.enc.blw _ 0), rfl, trivial⟩) (tup_blw ⟨((encI .i64).blws 0), rfl, trivial⟩) (E_mv (v' := (.tup [(.sl false 1 (List.map (avI .i64) lin_3.1)), (.int .i64 lin_3.2)])) rfl (E_op0 (v' := (.sl false 1 (List.map (avI .i64) lin_3.1))) rfl rfl (E_op0 (v' := .int .i64 lin_3.2) rfl rfl (E_mv (v' := (.sl false 1 (List.map (avI .i64) lin_3.1))) rfl (E_mv (v' := .int .i64 lin_3.2) rfl (E_nil (E_nx (E_as (E_sq (E_reg (E_mv (v' := .int .i64 spa_2.2) rfl (E_op0 (v' := .bool (spa_2.2 != 0)) rfl rfl (E_nil (E_nx (E_sq ?_)))))))))))))))
 refine E_cs (t := (spa_2.2 != 0)) rfl (fun hb => ?_) (fun hb => ?_)
 {
 rw [ite_t hb] at h
 refine E_sq (E_reg (E_mv (v' := .sl false 4 (List.map Interval.av spa_2.1)) rfl (E_len rfl (E_op0 (v' := (.bool ((List.length spa_2.1 : Int) == 0))) rfl rfl (E_mv (v' := (.bool ((List.length spa_2.1 : Int) == 0))) rfl (E_nil (E_nx (E_ret (E_thr ?_)))))))))
 cases h
 exact ⟨trivial, _, rfl, (fz_b rfl (.refl _))⟩
 }
 {
 rw [ite_f hb] at h
 refine E_skip (E_nx (E_sq (E_reg (E_op0 (v' := (.cptr (Graphs.av g_00).cells 0)) rfl rfl (E_op0 (v' := .sl false 8 (List.map Graph.av g_00.Funcs)) rfl rfl (E_mv (v' := .int .i64 f_01) rfl ?_))))))
 obtain ⟨y_4, hy_4, h⟩ := bd_some h
 refine E_iadF rfl rfl hy_4 (E_op0 (v' := (Graph.av y_4)) rfl rfl ?_)
 obtain ⟨vin_5, hvin_5, h⟩ := bd_some h
 refine E_callW (windlassref11_In_ev (fuel := fuel)  hvin_5) rfl ⟨(.refl _), trivial⟩ (blwL_of ⟨(Graph.enc.blw _ 0), trivial⟩) ((encL (encI .i64) 1).blws 0) (E_mv (v' := (.sl false 1 (List.map (avL 1 (avI .i64)) vin_5))) rfl (E_nil (E_nx (E_sq (E_reg (E_op0 (v' := (.cptr (Graphs.av g_00).cells 0)) rfl rfl (E_op0 (v' := .sl false 8 (List.map Graph.av g_00.Funcs)) rfl rfl (E_mv (v' := .int .i64 f_01) rfl (E_iadF rfl rfl hy_4 (E_op0 (v' := (.cptr (Graph.av y_4).cells 1)) rfl rfl (E_op0 (v' := (.sl false 1 (List.map (avI .u8) y_4.Kinds))) rfl rfl (E_len rfl ?_))))))))))))
 obtain ⟨m_6, hm_6, h⟩ := bd_some h
 refine E_mkL (x := (Interval.mk 0 0 0 false)) (S' := [.arr 0 (flat Interval.av m_6)]) Interval.enc rfl rfl rfl rfl hm_6 rfl (E_mv (v' := (.ref 0 0 0 (List.length m_6) (some 4))) rfl (E_nil (E_nx (E_as (E_sq (E_reg (E_mv (v' := (.ref 0 0 0 (List.length m_6) (some 4))) rfl (E_lenR rfl (E_mv (v' := .int .i64 0) rfl (E_nil (E_nx (E_sq ?_))))))))))))
 refine E_rniO (fun s_7 => [(5, (.sl false 4 (List.map Interval.av spa_2.1))), (7, (.sl false 1 (List.map (avI .i64) lin_3.1))), (9, (.sl false 1 (List.map (avL 1 (avI .i64)) vin_5))), (10, (.ref 0 1 0 (List.length s_7) (some 4)))]) (fun s_7 => [.arr 1 (flat Interval.av s_7)]) h (by decide) (by decide) (fun _ => ⟨rfl, rfl, rfl, rfl⟩) (wk_rn [some (0, 0)] rfl (Nat.le_of_ble_eq_true rfl) ⟨(rn_ob rfl rfl (.refl (Interval.enc.blwf 0 _)) rfl), trivial⟩ ⟨(rn_b rfl), (rn_b rfl), (rn_b (Interval.enc.blws 0)), (rn_b ((encI .i64).blws 0)), (rn_b ((encL (encI .i64) 1).blws 0)), (rn_refL Interval.enc rfl rfl rfl), trivial⟩) (fun i_8 s_7 c hlt h => ?_) (fun s_7 fr' S' h hw => ?_)
 {
 refine E_sq (E_reg (E_mv (v' := .int .i64 (i_8 : Int)) rfl (E_mv (v' := .int .i64 (i_8 : Int)) rfl (E_nil (E_nx (E_reg (E_mv (v' := (.ref 0 1 0 (List.length s_7) (some 4))) rfl (E_mv (v' := .int .i64 (i_8 : Int)) rfl (E_opw (v' := (Interval.av (Interval.mk 0 1073741824 (-1) false))) rfl (.aggL ⟨(.refl _), (.refl _), (.refl _), (.refl _), trivial⟩) rfl ?_)))))))))
 obtain ⟨y_9, hy_9, h⟩ := bd_some h
 refine E_iadR rfl rfl ⟨(getI_some hy_9).1, (getI_some hy_9).2.1⟩ ?_
 refine E_stR (y := y_9) (y' := (Interval.mk 0 1073741824 (-1) false)) (S' := [.arr 1 (flat Interval.av (List.set s_7 (Int.toNat (i_8 : Int)) (Interval.mk 0 1073741824 (-1) false)))]) Interval.enc rfl rfl rfl (by first | rfl | exact (Nat.add_zero _).symm | (simp only [Nat.zero_add]; exact (Nat.add_zero _).symm) | (simp only [Nat.zero_add, Nat.add_zero])) (getI_some hy_9).2.2 rfl rfl (Nat.le_of_ble_eq_true rfl) rfl rfl ?_
 try rw [show List.length s_7 = List.length (List.set s_7 (Int.toNat (i_8 : Int)) (Interval.mk 0 1073741824 (-1) false)) by simp only [List.length_set]]
 refine E_nil ?_
 cases h
 exact L_nn rfl (wk_rn [some (0, 0)] rfl (Nat.le_of_ble_eq_true rfl) ⟨(rn_ob rfl rfl (.refl (Interval.enc.blwf 0 _)) rfl), trivial⟩ ⟨(rn_b rfl), (rn_b rfl), (rn_b (Interval.enc.blws 0)), (rn_b ((encI .i64).blws 0)), (rn_b ((encL (encI .i64) 1).blws 0)), (rn_refL Interval.enc rfl rfl rfl), trivial⟩)
 }
 {
 refine X_nx hw (E_as (E_sq (E_reg (E_mv (v' := .sl false 4 (List.map Interval.av spa_2.1)) rfl (E_len rfl (E_mv (v' := .int .i64 0) rfl (E_nil (E_nx (E_sq ?_)))))))))
 refine E_rngO (fun s_11 => [(7, (.sl false 1 (List.map (avI .i64) lin_3.1))), (9, (.sl false 1 (List.map (avL 1 (avI .i64)) vin_5))), (10, (.ref 0 1 0 (List.length s_11) (some 4))), (63, (.sl false 4 (List.map Interval.av spa_2.1)))]) (fun s_11 => [.arr 1 (flat Interval.av s_11)]) h (by decide) (by decide) (fun _ => ⟨rfl, rfl, rfl, rfl⟩) (wk_rn [some (0, 0)] rfl (Nat.le_of_ble_eq_true rfl) ⟨(rn_ob rfl rfl (.refl (Interval.enc.blwf 0 _)) rfl), trivial⟩ ⟨(rn_b rfl), (rn_b rfl), (rn_b ((encI .i64).blws 0)), (rn_b ((encL (encI .i64) 1).blws 0)), (rn_refL Interval.enc rfl rfl rfl), (rn_b (Interval.enc.blws 0)), trivial⟩) (fun i_12 x_13 s_11 c hx_14 hlt h => ?_) (fun s_11 fr' S' h hw => ?_)
 {
 refine E_sq (E_reg (E_iadF rfl rfl (getI_of hx_14) (E_op0 (v' := (Interval.av x_13)) rfl rfl (E_op (v' := .ptr 1 0 0) (S' := [.arr 1 (flat Interval.av s_11), .arr 0 [(.int .i64 0), (.int .i64 0), (.int .i64 0), (.bool false)]]) rfl rfl rfl (E_do (S' := [.arr 1 (flat Interval.av s_11), .arr 0 [(.int .i64 x_13.Place), (.int .i64 x_13.From), (.int .i64 x_13.To), (.bool x_13.Held)]]) rfl rfl (E_nil (E_nx (E_as ?_))))))))
 refine E_jp h (fun s_16 => [(7, (.sl false 1 (List.map (avI .i64) lin_3.1))), (9, (.sl false 1 (List.map (avL 1 (avI .i64)) vin_5))), (10, (.ref 0 1 0 (List.length s_11) (some 4))), (13, (.ptr 1 0 0)), (63, (.sl false 4 (List.map Interval.av spa_2.1))), (64, (.int .i64 (List.length spa_2.1 : Int))), (65, (.int .i64 (i_12 : Int))), (85, (.bool s_16))]) (fun s_16 => [.arr 1 (flat Interval.av s_11), .arr 0 [(.int .i64 x_13.Place), (.int .i64 x_13.From), (.int .i64 x_13.To), (.bool x_13.Held)]]) (fun k_15 h => ?_) (fun s_16 h => ?_)
 {
 refine E_reg (E_op0 (v' := .ptr 1 0 0) rfl rfl (E_op (v' := .int .i64 x_13.Place) (S' := [.arr 1 (flat Interval.av s_11), .arr 0 [(.int .i64 x_13.Place), (.int .i64 x_13.From), (.int .i64 x_13.To), (.bool x_13.Held)]]) rfl rfl rfl (E_op0 (v' := (.bool (decide (x_13.Place < 0)))) rfl rfl (E_mv (v' := (.bool (decide (x_13.Place < 0)))) rfl ?_))))
 refine E_gsT (b := (decide (x_13.Place < 0))) rfl rfl rfl (fun hb => ?_) (fun hb => ?_)
 {
 rw [ite_f hb] at h
 refine E_op0 (v' := .ptr 1 0 0) rfl rfl (E_gh rfl (E_op (v' := .int .i64 x_13.Place) (S' := [.arr 1 (flat Interval.av s_11), .arr 0 [(.int .i64 x_13.Place), (.int .i64 x_13.From), (.int .i64 x_13.To), (.bool x_13.Held)]]) rfl rfl rfl (E_gh rfl (E_mv (v' := (.ref 0 1 0 (List.length s_11) (some 4))) rfl (E_gh rfl (E_lenR rfl (E_gh rfl (E_op0 (v' := (.bool (decide (x_13.Place ≥ (List.length s_11 : Int))))) rfl rfl (E_pf rfl rfl (E_mv (v' := (.bool (decide (x_13.Place ≥ (List.length s_11 : Int))))) rfl ?_))))))))))
 refine E_gsT (b := (decide (x_13.Place ≥ (List.length s_11 : Int)))) rfl rfl rfl (fun hb => ?_) (fun hb => ?_)
 {
 rw [ite_f hb] at h
 refine E_op0 (v' := .ptr 1 0 1) rfl rfl (E_gh rfl (E_op (v' := .int .i64 x_13.From) (S' := [.arr 1 (flat Interval.av s_11), .arr 0 [(.int .i64 x_13.Place), (.int .i64 x_13.From), (.int .i64 x_13.To), (.bool x_13.Held)]]) rfl rfl rfl (E_gh rfl (E_op0 (v' := .ptr 1 0 2) rfl rfl (E_gh rfl (E_op (v' := .int .i64 x_13.To) (S' := [.arr 1 (flat Interval.av s_11), .arr 0 [(.int .i64 x_13.Place), (.int .i64 x_13.From), (.int .i64 x_13.To), (.bool x_13.Held)]]) rfl rfl rfl (E_gh rfl (E_op0 (v' := (.bool (decide (x_13.From > x_13.To)))) rfl rfl (E_pf rfl rfl (E_nil ?_))))))))))
 exact E_jx _ h (wk_rn [some (0, 0), some (1, 0)] rfl (Nat.le_of_ble_eq_true rfl) ⟨(rn_ob rfl rfl (.refl (Interval.enc.blwf 0 _)) rfl), (rn_ob rfl rfl (.cons (rn_b rfl) (.cons (rn_b rfl) (.cons (rn_b rfl) (.cons (rn_b rfl) (.nil (Nat.zero_le _)))))) rfl), trivial⟩ ⟨(rn_b ((encI .i64).blws 0)), (rn_b ((encL (encI .i64) 1).blws 0)), (rn_refL Interval.enc rfl rfl rfl), (rn_ptr rfl rfl rfl rfl), (rn_b (Interval.enc.blws 0)), (rn_b rfl), (rn_b rfl), (rn_b rfl), trivial⟩)
 }
 {
 rw [ite_t hb] at h
 refine E_gm rfl (E_gm rfl (E_gm rfl (E_gm rfl (E_pt rfl rfl (E_nil ?_)))))
 exact E_jx _ h (wk_rn [some (0, 0), some (1, 0)] rfl (Nat.le_of_ble_eq_true rfl) ⟨(rn_ob rfl rfl (.refl (Interval.enc.blwf 0 _)) rfl), (rn_ob rfl rfl (.cons (rn_b rfl) (.cons (rn_b rfl) (.cons (rn_b rfl) (.cons (rn_b rfl) (.nil (Nat.zero_le _)))))) rfl), trivial⟩ ⟨(rn_b ((encI .i64).blws 0)), (rn_b ((encL (encI .i64) 1).blws 0)), (rn_refL Interval.enc rfl rfl rfl), (rn_ptr rfl rfl rfl rfl), (rn_b (Interval.enc.blws 0)), (rn_b rfl), (rn_b rfl), (rn_b rfl), trivial⟩)
 }
 }
 {
 rw [ite_t hb] at h
 refine E_gm rfl (E_gm rfl (E_gm rfl (E_gm rfl (E_pt rfl rfl (E_mv (v' := .bool true) rfl (E_gm rfl (E_gm rfl (E_gm rfl (E_gm rfl (E_gm rfl (E_pt rfl rfl (E_nil ?_))))))))))))
 exact E_jx _ h (wk_rn [some (0, 0), some (1, 0)] rfl (Nat.le_of_ble_eq_true rfl) ⟨(rn_ob rfl rfl (.refl (Interval.enc.blwf 0 _)) rfl), (rn_ob rfl rfl (.cons (rn_b rfl) (.cons (rn_b rfl) (.cons (rn_b rfl) (.cons (rn_b rfl) (.nil (Nat.zero_le _)))))) rfl), trivial⟩ ⟨(rn_b ((encI .i64).blws 0)), (rn_b ((encL (encI .i64) 1).blws 0)), (rn_refL Interval.enc rfl rfl rfl), (rn_ptr rfl rfl rfl rfl), (rn_b (Interval.enc.blws 0)), (rn_b rfl), (rn_b rfl), (rn_b rfl), trivial⟩)
 }
 }
 {
 refine E_sq ?_
 refine E_cs (t := s_16) rfl (fun hb => ?_) (fun hb => ?_)
 {
 rw [ite_t hb] at h
 refine E_sq (E_reg (E_mv (v' := .bool false) rfl (E_nil (E_nx (E_ret (E_thr ?_))))))
 cases h
 refine L_rrO rfl (fun h => ?_)
 refine E_thr ?_
 cases h
 exact ⟨trivial, _, rfl, (fz_b rfl (.refl _))⟩
 }
 {
 rw [ite_f hb] at h
 refine E_skip (E_nx (E_reg (E_mv (v' := (.ref 0 1 0 (List.length s_11) (some 4))) rfl (E_op0 (v' := .ptr 1 0 0) rfl rfl (E_op (v' := .int .i64 x_13.Place) (S' := [.arr 1 (flat Interval.av s_11), .arr 0 [(.int .i64 x_13.Place), (.int .i64 x_13.From), (.int .i64 x_13.To), (.bool x_13.Held)]]) rfl rfl rfl (E_opw (v' := (Interval.av x_13)) rfl (.aggL ⟨(.refl _), (.refl _), (.refl _), (.refl _), trivial⟩) rfl ?_))))))
 obtain ⟨y_17, hy_17, h⟩ := bd_some h
 refine E_iadR rfl rfl ⟨(getI_some hy_17).1, (getI_some hy_17).2.1⟩ ?_
 refine E_stR (y := y_17) (y' := x_13) (S' := [.arr 1 (flat Interval.av (List.set s_11 (Int.toNat x_13.Place) x_13)), .arr 0 [(.int .i64 x_13.Place), (.int .i64 x_13.From), (.int .i64 x_13.To), (.bool x_13.Held)]]) Interval.enc rfl rfl rfl (by first | rfl | exact (Nat.add_zero _).symm | (simp only [Nat.zero_add]; exact (Nat.add_zero _).symm) | (simp only [Nat.zero_add, Nat.add_zero])) (getI_some hy_17).2.2 rfl rfl (Nat.le_of_ble_eq_true rfl) rfl rfl ?_
 try rw [show List.length s_11 = List.length (List.set s_11 (Int.toNat x_13.Place) x_13) by simp only [List.length_set]]
 refine E_nil ?_
 cases h
 exact L_nn rfl (wk_rn [some (0, 0)] rfl (Nat.le_of_ble_eq_true rfl) ⟨(rn_ob rfl rfl (.refl (Interval.enc.blwf 0 _)) rfl), trivial⟩ ⟨(rn_b rfl), (rn_b rfl), (rn_b ((encI .i64).blws 0)), (rn_b ((encL (encI .i64) 1).blws 0)), (rn_refL Interval.enc rfl rfl rfl), (rn_b (Interval.enc.blws 0)), trivial⟩)
 }
 }
 }
 {
 refine X_nx hw (E_as (E_sq (E_reg (E_mv (v' := (.sl false 1 (List.map (avI .i64) lin_3.1))) rfl (E_len rfl (E_mv (v' := .int .i64 0) rfl (E_nil (E_nx (E_sq ?_)))))))))
 refine E_rngO (fun s_19 => [(9, (.sl false 1 (List.map (avL 1 (avI .i64)) vin_5))), (10, (.ref 0 1 0 (List.length s_11) (some 4))), (92, (.sl false 1 (List.map (avI .i64) lin_3.1)))]) (fun s_19 => [.arr 1 (flat Interval.av s_11)]) h (by decide) (by decide) (fun _ => ⟨rfl, rfl, rfl, rfl⟩) (wk_rn [some (0, 0)] rfl (Nat.le_of_ble_eq_true rfl) ⟨(rn_ob rfl rfl (.refl (Interval.enc.blwf 0 _)) rfl), trivial⟩ ⟨(rn_b rfl), (rn_b rfl), (rn_b ((encL (encI .i64) 1).blws 0)), (rn_refL Interval.enc rfl rfl rfl), (rn_b ((encI .i64).blws 0)), trivial⟩) (fun i_20 i_21 s_19 c hx_22 hlt h => ?_) (fun s_19 fr' S' h hw => ?_)
 {
 refine E_sq (E_reg (E_mv (v' := .int .i64 (i_20 : Int)) rfl (E_iadF rfl rfl (getI_of hx_22) (E_op0 (v' := .int .i64 i_21) rfl rfl (E_mv (v' := .int .i64 (i_20 : Int)) rfl (E_mv (v' := .int .i64 i_21) rfl (E_nil (E_nx (E_sq (E_reg (E_mv (v' := (.sl false 1 (List.map (avL 1 (avI .i64)) vin_5))) rfl (E_mv (v' := .int .i64 i_21) rfl ?_))))))))))))
 obtain ⟨y_23, hy_23, h⟩ := bd_some h
 refine E_iadF rfl rfl hy_23 (E_op0 (v' := (.sl false 1 (List.map (avI .i64) y_23))) rfl rfl (E_len rfl (E_mv (v' := .int .i64 0) rfl (E_nil (E_nx ?_)))))
 refine E_rngO (fun s_24 => [(9, (.sl false 1 (List.map (avL 1 (avI .i64)) vin_5))), (10, (.ref 0 1 0 (List.length s_11) (some 4))), (14, (.int .i64 (i_20 : Int))), (15, (.int .i64 i_21)), (92, (.sl false 1 (List.map (avI .i64) lin_3.1))), (93, (.int .i64 (List.length lin_3.1 : Int))), (94, (.int .i64 (i_20 : Int))), (102, (.sl false 1 (List.map (avI .i64) y_23)))]) (fun s_24 => [.arr 1 (flat Interval.av s_11)]) h (by decide) (by decide) (fun _ => ⟨rfl, rfl, rfl, rfl⟩) (wk_rn [some (0, 0)] rfl (Nat.le_of_ble_eq_true rfl) ⟨(rn_ob rfl rfl (.refl (Interval.enc.blwf 0 _)) rfl), trivial⟩ ⟨(rn_b rfl), (rn_b rfl), (rn_b ((encL (encI .i64) 1).blws 0)), (rn_refL Interval.enc rfl rfl rfl), (rn_b rfl), (rn_b rfl), (rn_b ((encI .i64).blws 0)), (rn_b rfl), (rn_b rfl), (rn_b ((encI .i64).blws 0)), trivial⟩) (fun i_25 p_26 s_24 c hx_27 hlt h => ?_) (fun s_24 fr' S' h hw => ?_)
 {
 refine E_sq (E_reg (E_iadF rfl rfl (getI_of hx_27) (E_op0 (v' := .int .i64 p_26) rfl rfl (E_mv (v' := .int .i64 p_26) rfl (E_nil (E_nx (E_as ?_)))))))
 refine E_jp h (fun s_29 => [(9, (.sl false 1 (List.map (avL 1 (avI .i64)) vin_5))), (10, (.ref 0 1 0 (List.length s_11) (some 4))), (14, (.int .i64 (i_20 : Int))), (15, (.int .i64 i_21)), (17, (.int .i64 p_26)), (92, (.sl false 1 (List.map (avI .i64) lin_3.1))), (93, (.int .i64 (List.length lin_3.1 : Int))), (94, (.int .i64 (i_20 : Int))), (102, (.sl false 1 (List.map (avI .i64) y_23))), (103, (.int .i64 (List.length y_23 : Int))), (104, (.int .i64 (i_25 : Int))), (123, (.bool s_29))]) (fun s_29 => [.arr 1 (flat Interval.av s_11)]) (fun k_28 h => ?_) (fun s_29 h => ?_)
 {
 refine E_reg (E_mv (v' := (.ref 0 1 0 (List.length s_11) (some 4))) rfl (E_mv (v' := .int .i64 p_26) rfl ?_))
 obtain ⟨y_30, hy_30, h⟩ := bd_some h
 refine E_iadR rfl rfl ⟨(getI_some hy_30).1, (getI_some hy_30).2.1⟩ (E_op0 rfl rfl ?_)
 refine E_ldR Interval.enc rfl rfl (by first | rfl | exact (Nat.add_zero _).symm | (simp only [Nat.zero_add]; exact (Nat.add_zero _).symm) | (simp only [Nat.zero_add, Nat.add_zero])) (getI_some hy_30).2.2 rfl (.refl _) ?_
 refine E_mv (v' := .int .i64 (i_20 : Int)) rfl (E_op0 (v' := (.bool (decide (y_30.From > (i_20 : Int))))) rfl rfl (E_mv (v' := (.bool (decide (y_30.From > (i_20 : Int))))) rfl ?_))
 refine E_gsT (b := (decide (y_30.From > (i_20 : Int)))) rfl rfl rfl (fun hb => ?_) (fun hb => ?_)
 {
 rw [ite_f hb] at h
 refine E_mv (v' := (.ref 0 1 0 (List.length s_11) (some 4))) rfl (E_gh rfl (E_mv (v' := .int .i64 p_26) rfl (E_gh rfl ?_)))
 obtain ⟨y_31, hy_31, h⟩ := bd_some h
 refine E_iadR rfl rfl ⟨(getI_some hy_31).1, (getI_some hy_31).2.1⟩ (E_gh rfl (E_op0 rfl rfl (E_gh rfl ?_)))
 refine E_ldR Interval.enc rfl rfl (by first | rfl | exact (Nat.add_zero _).symm | (simp only [Nat.zero_add]; exact (Nat.add_zero _).symm) | (simp only [Nat.zero_add, Nat.add_zero])) (getI_some hy_31).2.2 rfl (.refl _) ?_
 refine E_gh rfl (E_mv (v' := .int .i64 (i_20 : Int)) rfl (E_gh rfl (E_op0 (v' := (.bool (decide (y_31.To < (i_20 : Int))))) rfl rfl (E_pf rfl rfl (E_nil ?_)))))
 exact E_jx _ h (wk_rn [some (0, 0)] rfl (Nat.le_of_ble_eq_true rfl) ⟨(rn_ob rfl rfl (.refl (Interval.enc.blwf 0 _)) rfl), trivial⟩ ⟨(rn_b ((encL (encI .i64) 1).blws 0)), (rn_refL Interval.enc rfl rfl rfl), (rn_b rfl), (rn_b rfl), (rn_b rfl), (rn_b ((encI .i64).blws 0)), (rn_b rfl), (rn_b rfl), (rn_b ((encI .i64).blws 0)), (rn_b rfl), (rn_b rfl), (rn_b rfl), trivial⟩)
 }
 {
 rw [ite_t hb] at h
 refine E_gm rfl (E_gm rfl (E_gm rfl (E_gm rfl (E_gm rfl (E_gm rfl (E_pt rfl rfl (E_nil ?_)))))))
 exact E_jx _ h (wk_rn [some (0, 0)] rfl (Nat.le_of_ble_eq_true rfl) ⟨(rn_ob rfl rfl (.refl (Interval.enc.blwf 0 _)) rfl), trivial⟩ ⟨(rn_b ((encL (encI .i64) 1).blws 0)), (rn_refL Interval.enc rfl rfl rfl), (rn_b rfl), (rn_b rfl), (rn_b rfl), (rn_b ((encI .i64).blws 0)), (rn_b rfl), (rn_b rfl), (rn_b ((encI .i64).blws 0)), (rn_b rfl), (rn_b rfl), (rn_b rfl), trivial⟩)
 }
 }
 {
 refine E_sq ?_
 refine E_cs (t := s_29) rfl (fun hb => ?_) (fun hb => ?_)
 {
 rw [ite_t hb] at h
 refine E_sq (E_reg (E_mv (v' := .bool false) rfl (E_nil (E_nx (E_ret (E_thr ?_))))))
 cases h
 refine L_rrO rfl (fun h => ?_)
 cases h
 refine L_rrO rfl (fun h => ?_)
 refine E_thr ?_
 cases h
 exact ⟨trivial, _, rfl, (fz_b rfl (.refl _))⟩
 }
 {
 rw [ite_f hb] at h
 refine E_skip (E_nx (E_sq (E_reg (E_mv (v' := (.sl false 1 (List.map (avL 1 (avI .i64)) vin_5))) rfl (E_mv (v' := .int .i64 i_21) rfl ?_)))))
 obtain ⟨y_32, hy_32, h⟩ := bd_some h
 refine E_iadF rfl rfl hy_32 (E_op0 (v' := (.sl false 1 (List.map (avI .i64) y_32))) rfl rfl (E_len rfl (E_mv (v' := .int .i64 0) rfl (E_nil (E_nx ?_)))))
 refine E_rngO (fun s_33 => [(9, (.sl false 1 (List.map (avL 1 (avI .i64)) vin_5))), (10, (.ref 0 1 0 (List.length s_11) (some 4))), (14, (.int .i64 (i_20 : Int))), (15, (.int .i64 i_21)), (17, (.int .i64 p_26)), (92, (.sl false 1 (List.map (avI .i64) lin_3.1))), (93, (.int .i64 (List.length lin_3.1 : Int))), (94, (.int .i64 (i_20 : Int))), (102, (.sl false 1 (List.map (avI .i64) y_23))), (103, (.int .i64 (List.length y_23 : Int))), (104, (.int .i64 (i_25 : Int))), (127, (.sl false 1 (List.map (avI .i64) y_32)))]) (fun s_33 => [.arr 1 (flat Interval.av s_11)]) h (by decide) (by decide) (fun _ => ⟨rfl, rfl, rfl, rfl⟩) (wk_rn [some (0, 0)] rfl (Nat.le_of_ble_eq_true rfl) ⟨(rn_ob rfl rfl (.refl (Interval.enc.blwf 0 _)) rfl), trivial⟩ ⟨(rn_b rfl), (rn_b rfl), (rn_b ((encL (encI .i64) 1).blws 0)), (rn_refL Interval.enc rfl rfl rfl), (rn_b rfl), (rn_b rfl), (rn_b rfl), (rn_b ((encI .i64).blws 0)), (rn_b rfl), (rn_b rfl), (rn_b ((encI .i64).blws 0)), (rn_b rfl), (rn_b rfl), (rn_b ((encI .i64).blws 0)), trivial⟩) (fun i_34 q_35 s_33 c hx_36 hlt h => ?_) (fun s_33 fr' S' h hw => ?_)
 {
 refine E_sq (E_reg (E_iadF rfl rfl (getI_of hx_36) (E_op0 (v' := .int .i64 q_35) rfl rfl (E_mv (v' := .int .i64 q_35) rfl (E_nil (E_nx ?_))))))
 refine E_jp h (fun s_38 => [(9, (.sl false 1 (List.map (avL 1 (avI .i64)) vin_5))), (10, (.ref 0 1 0 (List.length s_11) (some 4))), (14, (.int .i64 (i_20 : Int))), (15, (.int .i64 i_21)), (17, (.int .i64 p_26)), (92, (.sl false 1 (List.map (avI .i64) lin_3.1))), (93, (.int .i64 (List.length lin_3.1 : Int))), (94, (.int .i64 (i_20 : Int))), (102, (.sl false 1 (List.map (avI .i64) y_23))), (103, (.int .i64 (List.length y_23 : Int))), (104, (.int .i64 (i_25 : Int))), (127, (.sl false 1 (List.map (avI .i64) y_32))), (128, (.int .i64 (List.length y_32 : Int))), (129, (.int .i64 (i_34 : Int))), (156, (.bool s_38))]) (fun s_38 => [.arr 1 (flat Interval.av s_11)]) (fun k_37 h => ?_) (fun s_38 h => ?_)
 {
 refine E_reg (E_mv (v' := (.ref 0 1 0 (List.length s_11) (some 4))) rfl (E_mv (v' := .int .i64 p_26) rfl ?_))
 obtain ⟨y_39, hy_39, h⟩ := bd_some h
 refine E_iadR rfl rfl ⟨(getI_some hy_39).1, (getI_some hy_39).2.1⟩ (E_op0 rfl rfl ?_)
 refine E_ldR Interval.enc rfl rfl (by first | rfl | exact (Nat.add_zero _).symm | (simp only [Nat.zero_add]; exact (Nat.add_zero _).symm) | (simp only [Nat.zero_add, Nat.add_zero])) (getI_some hy_39).2.2 rfl (.refl _) ?_
 refine E_mv (v' := (.ref 0 1 0 (List.length s_11) (some 4))) rfl (E_mv (v' := .int .i64 q_35) rfl ?_)
 obtain ⟨y_40, hy_40, h⟩ := bd_some h
 refine E_iadR rfl rfl ⟨(getI_some hy_40).1, (getI_some hy_40).2.1⟩ (E_op0 rfl rfl ?_)
 refine E_ldR Interval.enc rfl rfl (by first | rfl | exact (Nat.add_zero _).symm | (simp only [Nat.zero_add]; exact (Nat.add_zero _).symm) | (simp only [Nat.zero_add, Nat.add_zero])) (getI_some hy_40).2.2 rfl (.refl _) ?_
 refine E_op0 (v' := (.bool (decide (y_39.From > y_40.To)))) rfl rfl (E_mv (v' := (.bool (decide (y_39.From > y_40.To)))) rfl ?_)
 refine E_gsT (b := (decide (y_39.From > y_40.To))) rfl rfl rfl (fun hb => ?_) (fun hb => ?_)
 {
 rw [ite_f hb] at h
 refine E_mv (v' := (.ref 0 1 0 (List.length s_11) (some 4))) rfl (E_gh rfl (E_mv (v' := .int .i64 q_35) rfl (E_gh rfl ?_)))
 obtain ⟨y_41, hy_41, h⟩ := bd_some h
 refine E_iadR rfl rfl ⟨(getI_some hy_41).1, (getI_some hy_41).2.1⟩ (E_gh rfl (E_op0 rfl rfl (E_gh rfl ?_)))
 refine E_ldR Interval.enc rfl rfl (by first | rfl | exact (Nat.add_zero _).symm | (simp only [Nat.zero_add]; exact (Nat.add_zero _).symm) | (simp only [Nat.zero_add, Nat.add_zero])) (getI_some hy_41).2.2 rfl (.refl _) ?_
 refine E_gh rfl (E_mv (v' := (.ref 0 1 0 (List.length s_11) (some 4))) rfl (E_gh rfl (E_mv (v' := .int .i64 p_26) rfl (E_gh rfl ?_))))
 obtain ⟨y_42, hy_42, h⟩ := bd_some h
 refine E_iadR rfl rfl ⟨(getI_some hy_42).1, (getI_some hy_42).2.1⟩ (E_gh rfl (E_op0 rfl rfl (E_gh rfl ?_)))
 refine E_ldR Interval.enc rfl rfl (by first | rfl | exact (Nat.add_zero _).symm | (simp only [Nat.zero_add]; exact (Nat.add_zero _).symm) | (simp only [Nat.zero_add, Nat.add_zero])) (getI_some hy_42).2.2 rfl (.refl _) ?_
 refine E_gh rfl (E_op0 (v' := (.bool (decide (y_41.From > y_42.To)))) rfl rfl (E_pf rfl rfl (E_nil ?_)))
 exact E_jx _ h (wk_rn [some (0, 0)] rfl (Nat.le_of_ble_eq_true rfl) ⟨(rn_ob rfl rfl (.refl (Interval.enc.blwf 0 _)) rfl), trivial⟩ ⟨(rn_b ((encL (encI .i64) 1).blws 0)), (rn_refL Interval.enc rfl rfl rfl), (rn_b rfl), (rn_b rfl), (rn_b rfl), (rn_b ((encI .i64).blws 0)), (rn_b rfl), (rn_b rfl), (rn_b ((encI .i64).blws 0)), (rn_b rfl), (rn_b rfl), (rn_b ((encI .i64).blws 0)), (rn_b rfl), (rn_b rfl), (rn_b rfl), trivial⟩)
 }
 {
 rw [ite_t hb] at h
 refine E_gm rfl (E_gm rfl (E_gm rfl (E_gm rfl (E_gm rfl (E_gm rfl (E_gm rfl (E_gm rfl (E_gm rfl (E_gm rfl (E_pt rfl rfl (E_nil ?_)))))))))))
 exact E_jx _ h (wk_rn [some (0, 0)] rfl (Nat.le_of_ble_eq_true rfl) ⟨(rn_ob rfl rfl (.refl (Interval.enc.blwf 0 _)) rfl), trivial⟩ ⟨(rn_b ((encL (encI .i64) 1).blws 0)), (rn_refL Interval.enc rfl rfl rfl), (rn_b rfl), (rn_b rfl), (rn_b rfl), (rn_b ((encI .i64).blws 0)), (rn_b rfl), (rn_b rfl), (rn_b ((encI .i64).blws 0)), (rn_b rfl), (rn_b rfl), (rn_b ((encI .i64).blws 0)), (rn_b rfl), (rn_b rfl), (rn_b rfl), trivial⟩)
 }
 }
 {
 refine E_cs (t := s_38) rfl (fun hb => ?_) (fun hb => ?_)
 {
 rw [ite_t hb] at h
 refine E_sq (E_reg (E_mv (v' := .bool false) rfl (E_nil (E_nx (E_ret ?_)))))
 cases h
 refine L_rrO rfl (fun h => ?_)
 cases h
 refine L_rrO rfl (fun h => ?_)
 cases h
 refine L_rrO rfl (fun h => ?_)
 refine E_thr ?_
 cases h
 exact ⟨trivial, _, rfl, (fz_b rfl (.refl _))⟩
 }
 {
 rw [ite_f hb] at h
 refine E_skip ?_
 cases h
 exact L_nn rfl (wk_rn [some (0, 0)] rfl (Nat.le_of_ble_eq_true rfl) ⟨(rn_ob rfl rfl (.refl (Interval.enc.blwf 0 _)) rfl), trivial⟩ ⟨(rn_b rfl), (rn_b rfl), (rn_b ((encL (encI .i64) 1).blws 0)), (rn_refL Interval.enc rfl rfl rfl), (rn_b rfl), (rn_b rfl), (rn_b rfl), (rn_b ((encI .i64).blws 0)), (rn_b rfl), (rn_b rfl), (rn_b ((encI .i64).blws 0)), (rn_b rfl), (rn_b rfl), (rn_b ((encI .i64).blws 0)), trivial⟩)
 }
 }
 }
 {
 cases h
 exact X_nn rfl hw (wk_rn [some (0, 0)] rfl (Nat.le_of_ble_eq_true rfl) ⟨(rn_ob rfl rfl (.refl (Interval.enc.blwf 0 _)) rfl), trivial⟩ ⟨(rn_b rfl), (rn_b rfl), (rn_b ((encL (encI .i64) 1).blws 0)), (rn_refL Interval.enc rfl rfl rfl), (rn_b rfl), (rn_b rfl), (rn_b ((encI .i64).blws 0)), (rn_b rfl), (rn_b rfl), (rn_b ((encI .i64).blws 0)), trivial⟩)
 }
 }
 }
 }
 {
 cases h
 exact X_nn rfl hw (wk_rn [some (0, 0)] rfl (Nat.le_of_ble_eq_true rfl) ⟨(rn_ob rfl rfl (.refl (Interval.enc.blwf 0 _)) rfl), trivial⟩ ⟨(rn_b rfl), (rn_b rfl), (rn_b ((encL (encI .i64) 1).blws 0)), (rn_refL Interval.enc rfl rfl rfl), (rn_b ((encI .i64).blws 0)), trivial⟩)
 }
 }
 {
 refine X_nx hw (E_sq (E_reg (E_mv (v' := .bool true) rfl (E_nil (E_nx (E_ret ?_))))))
 cases h
 exact ⟨trivial, _, rfl, (fz_b rfl (.refl _))⟩
 }
 }
 }
 }
 }
end
end Go.Proofs.YtgoejecjmodjiaaDoor

