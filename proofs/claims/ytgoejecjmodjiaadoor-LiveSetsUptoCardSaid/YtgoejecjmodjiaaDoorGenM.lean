/- What the functions compute, and that they do (printed by wip/gen/gen.py), part 1. -/
import Derived.Test.YtgoejecjmodjiaaDoorWlH2
import Derived.Test.YtgoejecjmodjiaaDoorRows
import Derived.Test.YtgoejecjmodjiaaDoorLvW
namespace Go.Proofs.YtgoejecjmodjiaaDoor
open Go Go.Ab
set_option maxRecDepth 20000
set_option maxHeartbeats 2000000
set_option linter.unusedVariables false
set_option linter.unusedSimpArgs false
def gc_windlassref11_Out : FC := (.seq (.reg [⟨(some 1), none, .op (.box (.t 0))⟩,
  ⟨(some 2), none, .op (.mv (.v .nils))⟩] [])
  (.seq (.reg [⟨(some 12), none, .op (.load (some 8) (.t 1))⟩,
  ⟨(some 13), none, .call 14 [(.t 12)]⟩,
  ⟨(some 3), none, .op (.mv (.t 13))⟩] [])
  (.seq (.reg [⟨(some 4), none, .op (.mv (.v .nils))⟩] [])
  (.seq (.seq (.reg [⟨(some 14), none, .op (.fad 6 (.t 1))⟩,
  ⟨(some 15), none, .op (.load none (.t 14))⟩,
  ⟨(some 16), none, .op (.len .sl (.t 15))⟩,
  ⟨(some 17), none, .op (.mv (.v (.int .i64 0)))⟩] [])
  (.block 0 (.loop (.seq (.reg [⟨(some 18), none, .op (.bin .none .lss (.t 17) (.t 16))⟩] [])
  (.seq (.cond (.t 18)
  .skip
  (.exit 0))
  (.seq (.block 1 (.seq (.reg [⟨(some 19), none, .op (.iad none (some 12) (.t 15) (.t 17))⟩,
  ⟨(some 20), none, .op (.load (some 12) (.t 19))⟩,
  ⟨(some 6), none, .op (.new [(.int .u8 0), (.int .u8 0), (.int .i64 0), (.int .i64 0), (.int .i64 0), (.int .i64 0), (.int .i64 0), (.int .i64 0), (.int .u64 0), .nils, (.int .i64 0), (.int .i64 0)])⟩,
  ⟨none, none, .op (.store 12 (.t 6) (.t 20))⟩] [])
  (.seq (.reg [⟨(some 7), none, .op (.mv (.v .nils))⟩] [])
  (.seq (.seq (.reg [⟨(some 21), none, .op (.fad 1 (.t 1))⟩,
  ⟨(some 22), none, .op (.load none (.t 21))⟩,
  ⟨(some 23), none, .op (.len .sl (.t 22))⟩,
  ⟨(some 24), none, .op (.mv (.v (.int .i64 0)))⟩] [])
  (.block 2 (.loop (.seq (.reg [⟨(some 25), none, .op (.bin .none .lss (.t 24) (.t 23))⟩] [])
  (.seq (.cond (.t 25)
  .skip
  (.exit 2))
  (.seq (.block 3 (.seq (.reg [⟨(some 26), none, .op (.mv (.t 24))⟩,
  ⟨(some 8), none, .op (.mv (.t 26))⟩] [])
  (.seq (.reg [⟨(some 9), none, .op (.mv (.v (.bool false)))⟩] [])
  (.seq (.seq (.reg [⟨(some 27), none, .op (.load (some 12) (.t 6))⟩,
  ⟨(some 28), none, .call 23 [(.t 27)]⟩,
  ⟨(some 29), none, .op (.len .sl (.t 28))⟩,
  ⟨(some 30), none, .op (.mv (.v (.int .i64 0)))⟩] [])
  (.block 4 (.loop (.seq (.reg [⟨(some 31), none, .op (.bin .none .lss (.t 30) (.t 29))⟩] [])
  (.seq (.cond (.t 31)
  .skip
  (.exit 4))
  (.seq (.block 5 (.seq (.reg [⟨(some 32), none, .op (.iad none none (.t 28) (.t 30))⟩,
  ⟨(some 33), none, .op (.load none (.t 32))⟩,
  ⟨(some 11), none, .op (.mv (.t 33))⟩] [])
  (.reg [⟨(some 34), none, .op (.mv (.t 9))⟩,
  ⟨(some 35), none, .op (.mv (.t 34))⟩,
  ⟨(some 36), some (35, false), .op (.mv (.t 3))⟩,
  ⟨(some 37), some (35, false), .op (.mv (.t 11))⟩,
  ⟨(some 38), some (35, false), .op (.iad none none (.t 36) (.t 37))⟩,
  ⟨(some 39), some (35, false), .op (.load none (.t 38))⟩,
  ⟨(some 40), some (35, false), .op (.mv (.t 8))⟩,
  ⟨(some 41), some (35, false), .call 18 [(.t 39), (.t 40)]⟩,
  ⟨(some 42), none, .op (.pick (.t 35) (.v (.bool true)) (.t 41))⟩,
  ⟨(some 9), none, .op (.mv (.t 42))⟩] [])))
  (.reg [⟨(some 43), none, .op (.bin .none .add (.t 30) (.v (.int .i64 1)))⟩,
  ⟨(some 30), none, .op (.mv (.t 43))⟩] [])))))))
  (.seq (.reg [⟨(some 44), none, .op (.mv (.t 9))⟩] [])
  (.cond (.t 44)
  (.reg [⟨(some 45), none, .op (.mv (.t 7))⟩,
  ⟨(some 46), none, .op (.mv (.t 8))⟩,
  ⟨(some 47), none, .op (.bsl none [(.int .i64 0)] 1 [(0, 1, (.t 46))])⟩,
  ⟨(some 48), none, .op (.app none 8 (.t 45) (.t 47))⟩,
  ⟨(some 7), none, .op (.mv (.t 48))⟩] [])
  .skip))))))
  (.reg [⟨(some 49), none, .op (.bin .none .add (.t 24) (.v (.int .i64 1)))⟩,
  ⟨(some 24), none, .op (.mv (.t 49))⟩] [])))))))
  (.block 1000003 (.seq (.reg [⟨(some 50), none, .op (.mv (.t 4))⟩,
  ⟨(some 51), none, .op (.mv (.t 7))⟩] []) (.reg [⟨(some 52), none, .op (.bsl none [.nils] 1 [(0, 1, (.t 51))])⟩,
  ⟨(some 53), none, .op (.app none 24 (.t 50) (.t 52))⟩,
  ⟨(some 4), none, .op (.mv (.t 53))⟩] [])))))))
  (.reg [⟨(some 54), none, .op (.bin .none .add (.t 17) (.v (.int .i64 1)))⟩,
  ⟨(some 17), none, .op (.mv (.t 54))⟩] [])))))))
  (.seq (.reg [⟨(some 55), none, .op (.mv (.t 4))⟩,
  ⟨(some 2), none, .op (.mv (.t 55))⟩] [])
  .ret)))))
theorem gn_windlassref11_Out : Fn3S Tryd.prog 15 56 [(2, none)] gc_windlassref11_Out := ⟨_, _, Tryd.func15, rfl, rfl, rfl, by kernel_rfl, by kernel_rfl⟩
def windlassref11_Out_s (fuel : Nat) (g_00 : Graph) : Option (List (List Int)) :=
  ((windlassref11_In_s fuel g_00).bind fun vin_1 => ((rng (fun (i_3 : Nat) (n_4 : Node) (s_2 : (List (List Int))) => (((rni (fun (i_7 : Nat) (s_6 : (List Int)) => (((windlassref07_Next_s n_4).bind fun nex_8 => ((rng (fun (i_10 : Nat) (vto_11 : Int) (s_9 : Bool) => ((if s_9 then (some (.nxt true)) else ((getI vin_1 vto_11).bind fun y_13 => ((windlassref07_In_s y_13 (i_7 : Int)).bind fun vin_14 => (some (.nxt vin_14))))) : Option (Stp Bool (Option (Stp (List Int) (Option (Stp (List (List Int)) (Option (List (List Int)))))))))) nex_8 false).bind (oc (fun (s_9 : Bool) => (if s_9 then ((appL 8 s_6 [(i_7 : Int)]).bind fun l_15 => (some (.nxt l_15))) else (some (.nxt s_6))))))) : Option (Stp (List Int) (Option (Stp (List (List Int)) (Option (List (List Int)))))))) (List.length g_00.Kinds : Int) []).bind (oc (fun (s_6 : (List Int)) => ((appL 24 s_2 [s_6]).bind fun l_16 => (some (.nxt l_16)))))) : Option (Stp (List (List Int)) (Option (List (List Int)))))) g_00.Nodes []).bind (oc (fun (s_2 : (List (List Int))) => (some s_2)))))
theorem windlassref11_Out_ev {fuel : Nat} {g_00 : Graph} {r : (List (List Int))} (h : windlassref11_Out_s fuel g_00 = some r) : PureEv Tryd.prog 15 [(Graph.av g_00)] (.sl false 1 (List.map (avL 1 (avI .i64)) r)) := by
 unfold windlassref11_Out_s at h
 refine PureEv_endS mixed gn_windlassref11_Out (by simp) [6, 48, 53] 6 ?_
 unfold gc_windlassref11_Out
 refine E_sq (E_reg (E_op0 (v' := (.cptr (Graph.av g_00).cells 0)) rfl rfl (E_mv (v' := .nils) rfl (E_nil (E_nx (E_sq (E_reg (E_op0 (v' := (Graph.av g_00)) rfl rfl ?_))))))))
 obtain ⟨vin_1, hvin_1, h⟩ := bd_some h
 refine E_callW (windlassref11_In_ev (fuel := fuel)  hvin_1) rfl ⟨(.refl _), trivial⟩ (blwL_of ⟨(Graph.enc.blw _ 0), trivial⟩) ((encL (encI .i64) 1).blws 0) (E_mv (v' := (.sl false 1 (List.map (avL 1 (avI .i64)) vin_1))) rfl (E_nil (E_nx (E_sq (E_reg (E_mv (v' := .nils) rfl (E_nil (E_nx (E_as (E_sq (E_reg (E_op0 (v' := (.cptr (Graph.av g_00).cells 6)) rfl rfl (E_op0 (v' := .sl false 12 (List.map Node.av g_00.Nodes)) rfl rfl (E_len rfl (E_mv (v' := .int .i64 0) rfl ?_)))))))))))))))
 refine E_nil (E_nx (E_sq ?_))
 refine E_rngO (fun s_2 => [(1, (.cptr (Graph.av g_00).cells 0)), (3, (.sl false 1 (List.map (avL 1 (avI .i64)) vin_1))), (4, (.ref 0 1 0 (List.length s_2) none)), (15, (.sl false 12 (List.map Node.av g_00.Nodes)))]) (fun s_2 => [.arr 1 (flat (avL 1 (avI .i64)) s_2)]) h (by decide) (by decide) (fun _ => ⟨rfl, rfl, rfl, rfl⟩) (wk_rn [none] rfl (Nat.le_of_ble_eq_true rfl) ⟨(rn_obN rfl rfl rfl), trivial⟩ ⟨(rn_b rfl), (rn_b rfl), (rn_b (cp_blw (Graph.enc.blw _ 0))), (rn_b ((encL (encI .i64) 1).blws 0)), (rn_nil rfl), (rn_b (Node.enc.blws 0)), trivial⟩) (fun i_3 n_4 s_2 c hx_5 hlt h => ?_) (fun s_2 fr' S' h hw => ?_)
 {
 refine E_sq (E_reg (E_iadF rfl rfl (getI_of hx_5) (E_op0 (v' := (Node.av n_4)) rfl rfl (E_op (v' := .ptr 1 0 0) (S' := [.arr 1 (flat (avL 1 (avI .i64)) s_2), .arr 0 [(.int .u8 0), (.int .u8 0), (.int .i64 0), (.int .i64 0), (.int .i64 0), (.int .i64 0), (.int .i64 0), (.int .i64 0), (.int .u64 0), .nils, (.int .i64 0), (.int .i64 0)]]) rfl rfl rfl (E_do (S' := [.arr 1 (flat (avL 1 (avI .i64)) s_2), .arr 0 [(.int .u8 n_4.Op), (.int .u8 n_4.By), (.int .i64 n_4.D), (.int .i64 n_4.E), (.int .i64 n_4.A), (.int .i64 n_4.B), (.int .i64 n_4.F), (.int .i64 n_4.Cell), (.int .u64 n_4.Imm), (.sl false 1 (List.map (avI .i64) n_4.Args)), (.int .i64 n_4.Next), (.int .i64 n_4.Else)]]) rfl rfl (E_nil (E_nx (E_sq (E_reg (E_mv (v' := .nils) rfl (E_nil (E_nx (E_as (E_sq (E_reg ?_)))))))))))))))
 refine E_op0 (v' := (.cptr (Graph.av g_00).cells 1)) rfl rfl (E_op0 (v' := (.sl false 1 (List.map (avI .u8) g_00.Kinds))) rfl rfl (E_len rfl (E_mv (v' := .int .i64 0) rfl (E_nil (E_nx (E_sq ?_))))))
 refine E_rniO (fun s_6 => [(1, (.cptr (Graph.av g_00).cells 0)), (3, (.sl false 1 (List.map (avL 1 (avI .i64)) vin_1))), (4, (.ref 0 1 0 (List.length s_2) none)), (6, (.ptr 1 0 0)), (7, (.ref 2 1 0 (List.length s_6) none)), (15, (.sl false 12 (List.map Node.av g_00.Nodes))), (16, (.int .i64 (List.length g_00.Nodes : Int))), (17, (.int .i64 (i_3 : Int)))]) (fun s_6 => [.arr 1 (flat (avL 1 (avI .i64)) s_2), .arr 0 [(.int .u8 n_4.Op), (.int .u8 n_4.By), (.int .i64 n_4.D), (.int .i64 n_4.E), (.int .i64 n_4.A), (.int .i64 n_4.B), (.int .i64 n_4.F), (.int .i64 n_4.Cell), (.int .u64 n_4.Imm), (.sl false 1 (List.map (avI .i64) n_4.Args)), (.int .i64 n_4.Next), (.int .i64 n_4.Else)], .arr 1 (flat (avI .i64) s_6)]) h (by decide) (by decide) (fun _ => ⟨rfl, rfl, rfl, rfl⟩) (wk_rn [some (0, 0), some (1, 0), none] rfl (Nat.le_of_ble_eq_true rfl) ⟨(rn_ob rfl rfl (.refl ((encL (encI .i64) 1).blwf 0 _)) rfl), (rn_ob rfl rfl (.cons (rn_b rfl) (.cons (rn_b rfl) (.cons (rn_b rfl) (.cons (rn_b rfl) (.cons (rn_b rfl) (.cons (rn_b rfl) (.cons (rn_b rfl) (.cons (rn_b rfl) (.cons (rn_b rfl) (.cons (rn_b ((encI .i64).blws 0)) (.cons (rn_b rfl) (.cons (rn_b rfl) (.nil (Nat.zero_le _)))))))))))))) rfl), (rn_obN rfl rfl rfl), trivial⟩ ⟨(rn_b rfl), (rn_b rfl), (rn_b (cp_blw (Graph.enc.blw _ 0))), (rn_b ((encL (encI .i64) 1).blws 0)), (rn_refL (encL (encI .i64) 1) rfl rfl rfl), (rn_ptr rfl rfl rfl rfl), (rn_nil rfl), (rn_b (Node.enc.blws 0)), (rn_b rfl), (rn_b rfl), trivial⟩) (fun i_7 s_6 c hlt h => ?_) (fun s_6 fr' S' h hw => ?_)
 {
 refine E_sq (E_reg (E_mv (v' := .int .i64 (i_7 : Int)) rfl (E_mv (v' := .int .i64 (i_7 : Int)) rfl (E_nil (E_nx (E_sq (E_reg (E_mv (v' := .bool false) rfl (E_nil (E_nx (E_as (E_sq (E_reg (E_opw (v' := (Node.av n_4)) rfl (.aggL ⟨(.refl _), (.refl _), (.refl _), (.refl _), (.refl _), (.refl _), (.refl _), (.refl _), (.refl _), (.refl _), (.refl _), (.refl _), trivial⟩) rfl ?_))))))))))))))
 obtain ⟨nex_8, hnex_8, h⟩ := bd_some h
 refine E_callW (windlassref07_Next_ev  hnex_8) rfl ⟨(.refl _), trivial⟩ (blwL_of ⟨(Node.enc.blw _ 0), trivial⟩) ((encI .i64).blws 0) (E_len rfl (E_mv (v' := .int .i64 0) rfl (E_nil (E_nx (E_sq ?_)))))
 refine E_rngO (fun s_9 => [(1, (.cptr (Graph.av g_00).cells 0)), (3, (.sl false 1 (List.map (avL 1 (avI .i64)) vin_1))), (4, (.ref 0 1 0 (List.length s_2) none)), (6, (.ptr 1 0 0)), (7, (.ref 2 1 0 (List.length s_6) none)), (8, (.int .i64 (i_7 : Int))), (9, (.bool s_9)), (15, (.sl false 12 (List.map Node.av g_00.Nodes))), (16, (.int .i64 (List.length g_00.Nodes : Int))), (17, (.int .i64 (i_3 : Int))), (23, (.int .i64 (List.length g_00.Kinds : Int))), (24, (.int .i64 (i_7 : Int))), (28, (.sl false 1 (List.map (avI .i64) nex_8)))]) (fun s_9 => [.arr 1 (flat (avL 1 (avI .i64)) s_2), .arr 0 [(.int .u8 n_4.Op), (.int .u8 n_4.By), (.int .i64 n_4.D), (.int .i64 n_4.E), (.int .i64 n_4.A), (.int .i64 n_4.B), (.int .i64 n_4.F), (.int .i64 n_4.Cell), (.int .u64 n_4.Imm), (.sl false 1 (List.map (avI .i64) n_4.Args)), (.int .i64 n_4.Next), (.int .i64 n_4.Else)], .arr 1 (flat (avI .i64) s_6)]) h (by decide) (by decide) (fun _ => ⟨rfl, rfl, rfl, rfl⟩) (wk_rn [some (0, 0), some (1, 0), some (2, 0)] rfl (Nat.le_of_ble_eq_true rfl) ⟨(rn_ob rfl rfl (.refl ((encL (encI .i64) 1).blwf 0 _)) rfl), (rn_ob rfl rfl (.cons (rn_b rfl) (.cons (rn_b rfl) (.cons (rn_b rfl) (.cons (rn_b rfl) (.cons (rn_b rfl) (.cons (rn_b rfl) (.cons (rn_b rfl) (.cons (rn_b rfl) (.cons (rn_b rfl) (.cons (rn_b ((encI .i64).blws 0)) (.cons (rn_b rfl) (.cons (rn_b rfl) (.nil (Nat.zero_le _)))))))))))))) rfl), (rn_ob rfl rfl (.refl ((encI .i64).blwf 0 _)) rfl), trivial⟩ ⟨(rn_b rfl), (rn_b rfl), (rn_b (cp_blw (Graph.enc.blw _ 0))), (rn_b ((encL (encI .i64) 1).blws 0)), (rn_refL (encL (encI .i64) 1) rfl rfl rfl), (rn_ptr rfl rfl rfl rfl), (rn_refL (encI .i64) rfl rfl rfl), (rn_b rfl), (rn_b rfl), (rn_b (Node.enc.blws 0)), (rn_b rfl), (rn_b rfl), (rn_b rfl), (rn_b rfl), (rn_b ((encI .i64).blws 0)), trivial⟩) (fun i_10 vto_11 s_9 c hx_12 hlt h => ?_) (fun s_9 fr' S' h hw => ?_)
 {
 refine E_sq (E_reg (E_iadF rfl rfl (getI_of hx_12) (E_op0 (v' := .int .i64 vto_11) rfl rfl (E_mv (v' := .int .i64 vto_11) rfl (E_nil (E_nx (E_reg (E_mv (v' := .bool s_9) rfl (E_mv (v' := .bool s_9) rfl ?_)))))))))
 refine E_gsT (b := s_9) rfl rfl rfl (fun hb => ?_) (fun hb => ?_)
 {
 rw [ite_f hb] at h
 refine E_mv (v' := (.sl false 1 (List.map (avL 1 (avI .i64)) vin_1))) rfl (E_gh rfl (E_mv (v' := .int .i64 vto_11) rfl (E_gh rfl ?_)))
 obtain ⟨y_13, hy_13, h⟩ := bd_some h
 refine E_iadF rfl rfl hy_13 (E_gh rfl (E_op0 (v' := (.sl false 1 (List.map (avI .i64) y_13))) rfl rfl (E_gh rfl (E_mv (v' := .int .i64 (i_7 : Int)) rfl (E_gh rfl ?_)))))
 obtain ⟨vin_14, hvin_14, h⟩ := bd_some h
 refine E_callW (windlassref07_In_ev  hvin_14) rfl ⟨(.refl _), (.refl _), trivial⟩ (blwL_of ⟨((encI .i64).blws 0), rfl, trivial⟩) rfl (E_pf rfl rfl (E_mv (v' := .bool vin_14) rfl (E_nil ?_)))
 cases h
 exact L_nn rfl (wk_rn [some (0, 0), some (1, 0), some (2, 0)] rfl (Nat.le_of_ble_eq_true rfl) ⟨(rn_ob rfl rfl (.refl ((encL (encI .i64) 1).blwf 0 _)) rfl), (rn_ob rfl rfl (.cons (rn_b rfl) (.cons (rn_b rfl) (.cons (rn_b rfl) (.cons (rn_b rfl) (.cons (rn_b rfl) (.cons (rn_b rfl) (.cons (rn_b rfl) (.cons (rn_b rfl) (.cons (rn_b rfl) (.cons (rn_b ((encI .i64).blws 0)) (.cons (rn_b rfl) (.cons (rn_b rfl) (.nil (Nat.zero_le _)))))))))))))) rfl), (rn_ob rfl rfl (.refl ((encI .i64).blwf 0 _)) rfl), trivial⟩ ⟨(rn_b rfl), (rn_b rfl), (rn_b (cp_blw (Graph.enc.blw _ 0))), (rn_b ((encL (encI .i64) 1).blws 0)), (rn_refL (encL (encI .i64) 1) rfl rfl rfl), (rn_ptr rfl rfl rfl rfl), (rn_refL (encI .i64) rfl rfl rfl), (rn_b rfl), (rn_b rfl), (rn_b (Node.enc.blws 0)), (rn_b rfl), (rn_b rfl), (rn_b rfl), (rn_b rfl), (rn_b ((encI .i64).blws 0)), trivial⟩)
 }
 {
 rw [ite_t hb] at h
 refine E_gm rfl (E_gm rfl (E_gm rfl (E_gm rfl (E_gm rfl (E_pt rfl rfl (E_mv (v' := .bool true) rfl (E_nil ?_)))))))
 cases h
 exact L_nn rfl (wk_rn [some (0, 0), some (1, 0), some (2, 0)] rfl (Nat.le_of_ble_eq_true rfl) ⟨(rn_ob rfl rfl (.refl ((encL (encI .i64) 1).blwf 0 _)) rfl), (rn_ob rfl rfl (.cons (rn_b rfl) (.cons (rn_b rfl) (.cons (rn_b rfl) (.cons (rn_b rfl) (.cons (rn_b rfl) (.cons (rn_b rfl) (.cons (rn_b rfl) (.cons (rn_b rfl) (.cons (rn_b rfl) (.cons (rn_b ((encI .i64).blws 0)) (.cons (rn_b rfl) (.cons (rn_b rfl) (.nil (Nat.zero_le _)))))))))))))) rfl), (rn_ob rfl rfl (.refl ((encI .i64).blwf 0 _)) rfl), trivial⟩ ⟨(rn_b rfl), (rn_b rfl), (rn_b (cp_blw (Graph.enc.blw _ 0))), (rn_b ((encL (encI .i64) 1).blws 0)), (rn_refL (encL (encI .i64) 1) rfl rfl rfl), (rn_ptr rfl rfl rfl rfl), (rn_refL (encI .i64) rfl rfl rfl), (rn_b rfl), (rn_b rfl), (rn_b (Node.enc.blws 0)), (rn_b rfl), (rn_b rfl), (rn_b rfl), (rn_b rfl), (rn_b ((encI .i64).blws 0)), trivial⟩)
 }
 }
 {
 refine X_nx hw (E_sq (E_reg (E_mv (v' := .bool s_9) rfl (E_nil (E_nx ?_)))))
 refine E_cs (t := s_9) rfl (fun hb => ?_) (fun hb => ?_)
 {
 rw [ite_t hb] at h
 refine E_reg (E_mv (v' := (.ref 2 1 0 (List.length s_6) none)) rfl (E_mv (v' := .int .i64 (i_7 : Int)) rfl (E_opw (v' := (.sl true 1 (List.map (avI .i64) [(i_7 : Int)]))) rfl (.refl _) rfl ?_)))
 obtain ⟨l_15, hl_15, h⟩ := bd_some h
 refine E_apL (S' := [.arr 1 (flat (avL 1 (avI .i64)) s_2), .arr 0 [(.int .u8 n_4.Op), (.int .u8 n_4.By), (.int .i64 n_4.D), (.int .i64 n_4.E), (.int .i64 n_4.A), (.int .i64 n_4.B), (.int .i64 n_4.F), (.int .i64 n_4.Cell), (.int .u64 n_4.Imm), (.sl false 1 (List.map (avI .i64) n_4.Args)), (.int .i64 n_4.Next), (.int .i64 n_4.Else)], .arr 2 (flat (avI .i64) l_15)]) (encI .i64) rfl (src_sl [(i_7 : Int)]) rfl hl_15 rfl (E_mv (v' := (.ref 2 2 0 (List.length l_15) none)) rfl (E_nil ?_))
 cases h
 exact L_nn rfl (wk_rn [some (0, 0), some (1, 0), some (2, 0)] rfl (Nat.le_of_ble_eq_true rfl) ⟨(rn_ob rfl rfl (.refl ((encL (encI .i64) 1).blwf 0 _)) rfl), (rn_ob rfl rfl (.cons (rn_b rfl) (.cons (rn_b rfl) (.cons (rn_b rfl) (.cons (rn_b rfl) (.cons (rn_b rfl) (.cons (rn_b rfl) (.cons (rn_b rfl) (.cons (rn_b rfl) (.cons (rn_b rfl) (.cons (rn_b ((encI .i64).blws 0)) (.cons (rn_b rfl) (.cons (rn_b rfl) (.nil (Nat.zero_le _)))))))))))))) rfl), (rn_ob rfl rfl (.refl ((encI .i64).blwf 0 _)) rfl), trivial⟩ ⟨(rn_b rfl), (rn_b rfl), (rn_b (cp_blw (Graph.enc.blw _ 0))), (rn_b ((encL (encI .i64) 1).blws 0)), (rn_refL (encL (encI .i64) 1) rfl rfl rfl), (rn_ptr rfl rfl rfl rfl), (rn_refL (encI .i64) rfl rfl rfl), (rn_b (Node.enc.blws 0)), (rn_b rfl), (rn_b rfl), trivial⟩)
 }
 {
 rw [ite_f hb] at h
 refine E_skip ?_
 cases h
 exact L_nn rfl (wk_rn [some (0, 0), some (1, 0), some (2, 0)] rfl (Nat.le_of_ble_eq_true rfl) ⟨(rn_ob rfl rfl (.refl ((encL (encI .i64) 1).blwf 0 _)) rfl), (rn_ob rfl rfl (.cons (rn_b rfl) (.cons (rn_b rfl) (.cons (rn_b rfl) (.cons (rn_b rfl) (.cons (rn_b rfl) (.cons (rn_b rfl) (.cons (rn_b rfl) (.cons (rn_b rfl) (.cons (rn_b rfl) (.cons (rn_b ((encI .i64).blws 0)) (.cons (rn_b rfl) (.cons (rn_b rfl) (.nil (Nat.zero_le _)))))))))))))) rfl), (rn_ob rfl rfl (.refl ((encI .i64).blwf 0 _)) rfl), trivial⟩ ⟨(rn_b rfl), (rn_b rfl), (rn_b (cp_blw (Graph.enc.blw _ 0))), (rn_b ((encL (encI .i64) 1).blws 0)), (rn_refL (encL (encI .i64) 1) rfl rfl rfl), (rn_ptr rfl rfl rfl rfl), (rn_refL (encI .i64) rfl rfl rfl), (rn_b (Node.enc.blws 0)), (rn_b rfl), (rn_b rfl), trivial⟩)
 }
 }
 }
 {
 refine X_nx hw (E_block (E_sq (E_reg (E_mv (v' := (.ref 0 1 0 (List.length s_2) none)) rfl (E_mv (v' := (.ref 2 1 0 (List.length s_6) none)) rfl (E_nil (E_nxw (F := [(1, (.cptr (Graph.av g_00).cells 0)), (3, (.sl false 1 (List.map (avL 1 (avI .i64)) vin_1))), (15, (.sl false 12 (List.map Node.av g_00.Nodes))), (16, (.int .i64 (List.length g_00.Nodes : Int))), (17, (.int .i64 (i_3 : Int))), (50, (.ref 0 1 0 (List.length s_2) none)), (51, (.sl false 1 (List.map (avI .i64) s_6)))]) (T := [.arr 1 (flat (avL 1 (avI .i64)) s_2)]) (wk_trans (fr'' := [(1, (.cptr (Graph.av g_00).cells 0)), (3, (.sl false 1 (List.map (avL 1 (avI .i64)) vin_1))), (15, (.sl false 12 (List.map Node.av g_00.Nodes))), (16, (.int .i64 (List.length g_00.Nodes : Int))), (17, (.int .i64 (i_3 : Int))), (50, (.ref 0 1 0 (List.length s_2) none)), (51, (.sl false 1 (List.map (avI .i64) s_6)))]) (S'' := [.arr 1 (flat (avL 1 (avI .i64)) s_2)]) (wk_rn (fr' := [(1, (.cptr (Graph.av g_00).cells 0)), (3, (.sl false 1 (List.map (avL 1 (avI .i64)) vin_1))), (15, (.sl false 12 (List.map Node.av g_00.Nodes))), (16, (.int .i64 (List.length g_00.Nodes : Int))), (17, (.int .i64 (i_3 : Int))), (50, (.ref 0 1 0 (List.length s_2) none)), (51, (.ref 1 1 0 (List.length s_6) none))]) (S' := [.arr 1 (flat (avL 1 (avI .i64)) s_2), .arr 1 (flat (avI .i64) s_6)]) [some (0, 0), some (2, 0)] rfl (Nat.le_of_ble_eq_true rfl) ⟨(rn_ob rfl rfl (.refl ((encL (encI .i64) 1).blwf 0 _)) rfl), (rn_ob rfl rfl (.refl ((encI .i64).blwf 0 _)) rfl), trivial⟩ ⟨(rn_b (cp_blw (Graph.enc.blw _ 0))), (rn_b ((encL (encI .i64) 1).blws 0)), (rn_b (Node.enc.blws 0)), (rn_b rfl), (rn_b rfl), (rn_refL (encL (encI .i64) 1) rfl rfl rfl), (rn_refL (encI .i64) rfl rfl rfl), trivial⟩) (wk_fz 1 6 rfl ⟨⟨rfl, fzL_id ((encL (encI .i64) 1).blwf 1 _)⟩, trivial⟩ ⟨(fz_b (cp_blw (Graph.enc.blw _ 1)) (.refl _)), (fz_b ((encL (encI .i64) 1).blws 1) (.refl _)), (fz_b (Node.enc.blws 1) (.refl _)), (fz_b rfl (.refl _)), (fz_b rfl (.refl _)), (fz_b rfl (.refl _)), (fz_ref (encI .i64) (Nat.le_of_ble_eq_true rfl) rfl), trivial⟩)) (E_reg (E_opw (v' := (.sl true 1 (List.map (avL 1 (avI .i64)) [s_6]))) rfl (.refl _) rfl ?_)))))))))
 obtain ⟨l_16, hl_16, h⟩ := bd_some h
 refine E_apL (S' := [.arr 2 (flat (avL 1 (avI .i64)) l_16)]) (encL (encI .i64) 1) rfl (src_sl [s_6]) rfl hl_16 rfl (E_mv (v' := (.ref 0 2 0 (List.length l_16) none)) rfl (E_nil (E_bln ?_)))
 cases h
 exact L_nn rfl (wk_rn [some (0, 0)] rfl (Nat.le_of_ble_eq_true rfl) ⟨(rn_ob rfl rfl (.refl ((encL (encI .i64) 1).blwf 0 _)) rfl), trivial⟩ ⟨(rn_b rfl), (rn_b rfl), (rn_b (cp_blw (Graph.enc.blw _ 0))), (rn_b ((encL (encI .i64) 1).blws 0)), (rn_refL (encL (encI .i64) 1) rfl rfl rfl), (rn_b (Node.enc.blws 0)), trivial⟩)
 }
 }
 {
 refine X_nx hw (E_sq (E_reg (E_mv (v' := (.ref 0 1 0 (List.length s_2) none)) rfl (E_mv (v' := (.ref 0 1 0 (List.length s_2) none)) rfl (E_nil (E_nx (E_ret ?_)))))))
 cases h
 exact ⟨trivial, _, rfl, (fz_ref (encL (encI .i64) 1) (Nat.zero_le _) rfl)⟩
 }
def fc4 : FC := (.seq (.reg [oO 2 (.box (.t 0)), oO 4 (.mv (.v (.bool false)))] []) (.seq (.seq (.reg [⟨(some 9), none, .call 9 []⟩, oO 10 (.un .not (.t 9))] []) (.cond (.t 10) (.seq (.reg [oO 4 (.mv (.v (.bool false)))] []) .ret) .skip)) (.seq (.reg [oO 12 (.load (some 1) (.t 2)), oO 13 (.mv (.t 1)), ⟨(some 14), none, .call 10 [(.t 12), (.t 13)]⟩, oO 11 (.mv (.t 14)), oO 15 (.ext 0 (.t 11)), oO 16 (.ext 1 (.t 11)), oO 5 (.mv (.t 15)), oO 6 (.mv (.t 16))] []) (.seq (.reg [oO 18 (.load (some 1) (.t 2)), oO 19 (.mv (.t 1)), ⟨(some 20), none, .call 11 [(.t 18), (.t 19)]⟩, oO 17 (.mv (.t 20)), oO 21 (.ext 0 (.t 17)), oO 22 (.ext 1 (.t 17)), oO 7 (.mv (.t 21)), oO 8 (.mv (.t 22))] []) (.seq (.block 0 (.seq (.reg [oO 24 (.load (some 1) (.t 2)), ⟨(some 25), none, .call 12 [(.t 24), (.v (.bool false))]⟩, oO 26 (.un .not (.t 25)), oO 23 (.mv (.t 26))] []) (.cond (.t 23) (.seq (.reg [oO 27 (.mv (.t 6)), oO 28 (.bin .none .eql (.t 27) (.v (.int .i64 70))), oO 29 (.mv (.t 28)), ⟨(some 30), some (29, true), .op (.mv (.t 8))⟩, ⟨(some 31), some (29, true), .op (.bin .none .eql (.t 30) (.v (.int .i64 70)))⟩, oO 32 (.pick (.t 29) (.t 31) (.v (.bool false))), oO 33 (.mv (.t 32)), ⟨(some 34), some (33, true), .op (.mv (.t 5))⟩, ⟨(some 35), some (33, true), .op (.len .sl (.t 34))⟩, ⟨(some 36), some (33, true), .op (.mv (.t 7))⟩, ⟨(some 37), some (33, true), .op (.len .sl (.t 36))⟩, ⟨(some 38), some (33, true), .op (.bin .none .add (.t 35) (.t 37))⟩, ⟨(some 39), some (33, true), .op (.bin .none .eql (.t 38) (.v (.int .i64 0)))⟩, oO 40 (.pick (.t 33) (.t 39) (.v (.bool false))), oO 4 (.mv (.t 40))] []) .ret) (.seq (.reg [oO 42 (.mv (.t 1)), oO 43 (.bin .none .lss (.t 42) (.v (.int .i64 0))), oO 44 (.mv (.t 43)), ⟨(some 45), some (44, false), .op (.mv (.t 1))⟩, ⟨(some 46), some (44, false), .op (.fad 0 (.t 2))⟩, ⟨(some 47), some (44, false), .op (.load none (.t 46))⟩, ⟨(some 48), some (44, false), .op (.len .sl (.t 47))⟩, ⟨(some 49), some (44, false), .op (.bin .none .geq (.t 45) (.t 48))⟩, oO 50 (.pick (.t 44) (.v (.bool true)) (.t 49)), oO 41 (.mv (.t 50))] []) (.cond (.t 41) (.seq (.reg [oO 51 (.mv (.t 6)), oO 52 (.bin .none .eql (.t 51) (.v (.int .i64 2))), oO 53 (.mv (.t 52)), ⟨(some 54), some (53, true), .op (.mv (.t 8))⟩, ⟨(some 55), some (53, true), .op (.bin .none .eql (.t 54) (.v (.int .i64 2)))⟩, oO 56 (.pick (.t 53) (.t 55) (.v (.bool false))), oO 57 (.mv (.t 56)), ⟨(some 58), some (57, true), .op (.mv (.t 5))⟩, ⟨(some 59), some (57, true), .op (.len .sl (.t 58))⟩, ⟨(some 60), some (57, true), .op (.mv (.t 7))⟩, ⟨(some 61), some (57, true), .op (.len .sl (.t 60))⟩, ⟨(some 62), some (57, true), .op (.bin .none .add (.t 59) (.t 61))⟩, ⟨(some 63), some (57, true), .op (.bin .none .eql (.t 62) (.v (.int .i64 0)))⟩, oO 64 (.pick (.t 57) (.t 63) (.v (.bool false))), oO 4 (.mv (.t 64))] []) .ret) .skip))))) (.seq (.reg [oO 65 (.mv (.t 6)), oO 66 (.bin .none .eql (.t 65) (.v (.int .i64 0))), oO 67 (.mv (.t 66)), ⟨(some 68), some (67, true), .op (.mv (.t 8))⟩, ⟨(some 69), some (67, true), .op (.bin .none .eql (.t 68) (.v (.int .i64 0)))⟩, oO 70 (.pick (.t 67) (.t 69) (.v (.bool false))), oO 71 (.mv (.t 70)), ⟨(some 72), some (71, true), .op (.mv (.t 5))⟩, ⟨(some 73), some (71, true), .op (.fad 0 (.t 2))⟩, ⟨(some 74), some (71, true), .op (.load none (.t 73))⟩, ⟨(some 75), some (71, true), .op (.mv (.t 1))⟩, ⟨(some 76), some (71, true), .op (.iad none (some 8) (.t 74) (.t 75))⟩, ⟨(some 77), some (71, true), .op (.load (some 8) (.t 76))⟩, ⟨(some 78), some (71, true), .call 14 [(.t 77)]⟩, ⟨(some 79), some (71, true), .call 13 [(.t 72), (.t 78)]⟩, oO 80 (.pick (.t 71) (.t 79) (.v (.bool false))), oO 81 (.mv (.t 80)), ⟨(some 82), some (81, true), .op (.mv (.t 7))⟩, ⟨(some 83), some (81, true), .op (.fad 0 (.t 2))⟩, ⟨(some 84), some (81, true), .op (.load none (.t 83))⟩, ⟨(some 85), some (81, true), .op (.mv (.t 1))⟩, ⟨(some 86), some (81, true), .op (.iad none (some 8) (.t 84) (.t 85))⟩, ⟨(some 87), some (81, true), .op (.load (some 8) (.t 86))⟩, ⟨(some 88), some (81, true), .call 15 [(.t 87)]⟩, ⟨(some 89), some (81, true), .call 13 [(.t 82), (.t 88)]⟩, oO 90 (.pick (.t 81) (.t 89) (.v (.bool false))), oO 4 (.mv (.t 90))] []) .ret))))))
theorem fn4 : Fn3 Tryd.prog 4 91 [(4, none)] fc4 := ⟨_, _, Tryd.func4, rfl, rfl, rfl, by kernel_rfl⟩
def windlasslaw11_LiveSets_s (fuel : Nat) (g_00 : Graphs) (f_01 : Int) : Option Bool :=
  ((windlasslaw11_first_s fuel).bind fun fir_1 => (if (!fir_1) then (some false) else ((live_In_s fuel g_00 f_01).bind fun vin_2 => ((live_Out_s fuel g_00 f_01).bind fun out_3 => ((windlassref07_Right_s g_00 false).bind fun rig_4 => (if (!rig_4) then (jp (fun (s_6 : Bool) => (some s_6)) (fun k_5 => (if (vin_2.2 == 70) then (if (out_3.2 == 70) then (k_5 ((I64 ((List.length vin_2.1 : Int) + (List.length out_3.1 : Int))) == 0)) else (k_5 false)) else (k_5 false)))) else (jp (fun (s_8 : Bool) => (if s_8 then (jp (fun (s_10 : Bool) => (some s_10)) (fun k_9 => (if (vin_2.2 == 2) then (if (out_3.2 == 2) then (k_9 ((I64 ((List.length vin_2.1 : Int) + (List.length out_3.1 : Int))) == 0)) else (k_9 false)) else (k_9 false)))) else (jp (fun (s_12 : Bool) => (some s_12)) (fun k_11 => (if (vin_2.2 == 0) then (if (out_3.2 == 0) then ((getI g_00.Funcs f_01).bind fun y_13 => ((windlassref11_In_s fuel y_13).bind fun vin_14 => ((windlassref11_SameLists_s vin_2.1 vin_14).bind fun sam_15 => (if sam_15 then ((windlassref11_Out_s fuel y_13).bind fun out_16 => ((windlassref11_SameLists_s out_3.1 out_16).bind fun sam_17 => (k_11 sam_17))) else (k_11 false))))) else (k_11 false)) else (k_11 false)))))) (fun k_7 => (if (decide (f_01 < 0)) then (k_7 true) else (k_7 (decide (f_01 ≥ (List.length g_00.Funcs : Int)))))))))))))
theorem windlasslaw11_LiveSets_ev {fuel : Nat} {g_00 : Graphs} {f_01 : Int} {r : Bool} (h : windlasslaw11_LiveSets_s fuel g_00 f_01 = some r) : PureEv Tryd.prog 4 [(Graphs.av g_00), (.int .i64 f_01)] (.bool r) := by
 unfold windlasslaw11_LiveSets_s at h
 refine PureEv_end mixed fn4 (by simp) [] 6 ?_
 unfold fc4
 refine E_sq (E_reg (E_op0 (v' := (.cptr (Graphs.av g_00).cells 0)) rfl rfl (E_mv (v' := .bool false) rfl (E_nil (E_nx (E_as (E_sq (E_reg ?_))))))))
 obtain ⟨fir_1, hfir_1, h⟩ := bd_some h
 refine E_callW (windlasslaw11_first_ev (fuel := fuel)  hfir_1) rfl trivial (blwL_of trivial) rfl (E_op0 (v' := .bool (!fir_1)) rfl rfl (E_nil (E_nx (E_sq ?_))))
 refine E_cs (t := (!fir_1)) rfl (fun hb => ?_) (fun hb => ?_)
 {
 rw [ite_t hb] at h
 refine E_sq (E_reg (E_mv (v' := .bool false) rfl (E_nil (E_nx (E_ret (E_thr ?_))))))
 cases h
 exact ⟨trivial, _, rfl, (fz_b rfl (.refl _))⟩
 }
 {
 rw [ite_f hb] at h
 refine E_skip (E_nx (E_sq (E_reg (E_op0 (v' := (Graphs.av g_00)) rfl rfl (E_mv (v' := .int .i64 f_01) rfl ?_)))))
 obtain ⟨vin_2, hvin_2, h⟩ := bd_some h
 refine E_callW (live_In_ev (fuel := fuel)  hvin_2) rfl ⟨(.refl _), (.refl _), trivial⟩ (blwL_of ⟨(Graphs.enc.blw _ 0), rfl, trivial⟩) (tup_blw ⟨((encL (encI .i64) 1).blws 0), rfl, trivial⟩) (E_mv (v' := (.tup [(.sl false 1 (List.map (avL 1 (avI .i64)) vin_2.1)), (.int .i64 vin_2.2)])) rfl (E_op0 (v' := (.sl false 1 (List.map (avL 1 (avI .i64)) vin_2.1))) rfl rfl (E_op0 (v' := .int .i64 vin_2.2) rfl rfl (E_mv (v' := (.sl false 1 (List.map (avL 1 (avI .i64)) vin_2.1))) rfl (E_mv (v' := .int .i64 vin_2.2) rfl (E_nil (E_nx (E_sq (E_reg (E_op0 (v' := (Graphs.av g_00)) rfl rfl (E_mv (v' := .int .i64 f_01) rfl ?_)))))))))))
 obtain ⟨out_3, hout_3, h⟩ := bd_some h
 refine E_callW (live_Out_ev (fuel := fuel)  hout_3) rfl ⟨(.refl _), (.refl _), trivial⟩ (blwL_of ⟨(Graphs.enc.blw _ 0), rfl, trivial⟩) (tup_blw ⟨((encL (encI .i64) 1).blws 0), rfl, trivial⟩) (E_mv (v' := (.tup [(.sl false 1 (List.map (avL 1 (avI .i64)) out_3.1)), (.int .i64 out_3.2)])) rfl (E_op0 (v' := (.sl false 1 (List.map (avL 1 (avI .i64)) out_3.1))) rfl rfl (E_op0 (v' := .int .i64 out_3.2) rfl rfl (E_mv (v' := (.sl false 1 (List.map (avL 1 (avI .i64)) out_3.1))) rfl (E_mv (v' := .int .i64 out_3.2) rfl (E_nil (E_nx (E_sq (E_block (E_sq (E_reg (E_op0 (v' := (Graphs.av g_00)) rfl rfl ?_))))))))))))
 obtain ⟨rig_4, hrig_4, h⟩ := bd_some h
 refine E_callW (windlassref07_Right_ev  hrig_4) rfl ⟨(.refl _), (.refl _), trivial⟩ (blwL_of ⟨(Graphs.enc.blw _ 0), rfl, trivial⟩) rfl (E_op0 (v' := .bool (!rig_4)) rfl rfl (E_mv (v' := .bool (!rig_4)) rfl (E_nil (E_nx ?_))))
 refine E_cs (t := (!rig_4)) rfl (fun hb => ?_) (fun hb => ?_)
 {
 rw [ite_t hb] at h
 refine E_jp h (fun s_6 => [(4, (.bool s_6))]) (fun s_6 => []) (fun k_5 h => ?_) (fun s_6 h => ?_)
 {
 refine E_reg (E_mv (v' := .int .i64 vin_2.2) rfl (E_op0 (v' := .bool (vin_2.2 == 70)) rfl rfl (E_mv (v' := .bool (vin_2.2 == 70)) rfl ?_)))
 refine E_gsT (b := (vin_2.2 == 70)) rfl rfl rfl (fun hb => ?_) (fun hb => ?_)
 {
 rw [ite_t hb] at h
 refine E_mv (v' := .int .i64 out_3.2) rfl (E_gh rfl (E_op0 (v' := .bool (out_3.2 == 70)) rfl rfl (E_pt rfl rfl (E_mv (v' := .bool (out_3.2 == 70)) rfl ?_))))
 refine E_gsT (b := (out_3.2 == 70)) rfl rfl rfl (fun hb => ?_) (fun hb => ?_)
 {
 rw [ite_t hb] at h
 refine E_mv (v' := (.sl false 1 (List.map (avL 1 (avI .i64)) vin_2.1))) rfl (E_gh rfl (E_len rfl (E_gh rfl (E_mv (v' := (.sl false 1 (List.map (avL 1 (avI .i64)) out_3.1))) rfl (E_gh rfl (E_len rfl (E_gh rfl (E_op0 (v' := (.int .i64 (I64 ((List.length vin_2.1 : Int) + (List.length out_3.1 : Int))))) rfl rfl (E_gh rfl (E_op0 (v' := (.bool ((I64 ((List.length vin_2.1 : Int) + (List.length out_3.1 : Int))) == 0))) rfl rfl (E_pt rfl rfl (E_mv (v' := (.bool ((I64 ((List.length vin_2.1 : Int) + (List.length out_3.1 : Int))) == 0))) rfl (E_nil ?_)))))))))))))
 exact E_jx _ h (wk_aw ⟨(.refl _), trivial⟩)
 }
 {
 rw [ite_f hb] at h
 refine E_gm rfl (E_gm rfl (E_gm rfl (E_gm rfl (E_gm rfl (E_pf rfl rfl (E_mv (v' := .bool false) rfl (E_nil ?_)))))))
 exact E_jx _ h (wk_aw ⟨(.refl _), trivial⟩)
 }
 }
 {
 rw [ite_f hb] at h
 refine E_gm rfl (E_pf rfl rfl (E_mv (v' := .bool false) rfl (E_gm rfl (E_gm rfl (E_gm rfl (E_gm rfl (E_gm rfl (E_gm rfl (E_pf rfl rfl (E_mv (v' := .bool false) rfl (E_nil ?_)))))))))))
 exact E_jx _ h (wk_aw ⟨(.refl _), trivial⟩)
 }
 }
 {
 refine E_ret (E_blr (E_thr ?_))
 cases h
 exact ⟨trivial, _, rfl, (fz_b rfl (.refl _))⟩
 }
 }
 {
 rw [ite_f hb] at h
 refine E_jp h (fun s_8 => [(1, (.int .i64 f_01)), (2, (.cptr (Graphs.av g_00).cells 0)), (5, (.sl false 1 (List.map (avL 1 (avI .i64)) vin_2.1))), (6, (.int .i64 vin_2.2)), (7, (.sl false 1 (List.map (avL 1 (avI .i64)) out_3.1))), (8, (.int .i64 out_3.2)), (41, (.bool s_8))]) (fun s_8 => []) (fun k_7 h => ?_) (fun s_8 h => ?_)
 {
 refine E_reg (E_mv (v' := .int .i64 f_01) rfl (E_op0 (v' := (.bool (decide (f_01 < 0)))) rfl rfl (E_mv (v' := (.bool (decide (f_01 < 0)))) rfl ?_)))
 refine E_gsT (b := (decide (f_01 < 0))) rfl rfl rfl (fun hb => ?_) (fun hb => ?_)
 {
 rw [ite_f hb] at h
 refine E_mv (v' := .int .i64 f_01) rfl (E_gh rfl (E_op0 (v' := (.cptr (Graphs.av g_00).cells 0)) rfl rfl (E_gh rfl (E_op0 (v' := .sl false 8 (List.map Graph.av g_00.Funcs)) rfl rfl (E_gh rfl (E_len rfl (E_gh rfl (E_op0 (v' := (.bool (decide (f_01 ≥ (List.length g_00.Funcs : Int))))) rfl rfl (E_pf rfl rfl (E_mv (v' := (.bool (decide (f_01 ≥ (List.length g_00.Funcs : Int))))) rfl (E_nil ?_)))))))))))
 exact E_jx _ h (wk_aw ⟨(.refl _), (.refl _), (.refl _), (.refl _), (.refl _), (.refl _), (.refl _), trivial⟩)
 }
 {
 rw [ite_t hb] at h
 refine E_gm rfl (E_gm rfl (E_gm rfl (E_gm rfl (E_pt rfl rfl (E_mv (v' := .bool true) rfl (E_nil ?_))))))
 exact E_jx _ h (wk_aw ⟨(.refl _), (.refl _), (.refl _), (.refl _), (.refl _), (.refl _), (.refl _), trivial⟩)
 }
 }
 {
 refine E_cs (t := s_8) rfl (fun hb => ?_) (fun hb => ?_)
 {
 rw [ite_t hb] at h
 refine E_jp h (fun s_10 => [(4, (.bool s_10))]) (fun s_10 => []) (fun k_9 h => ?_) (fun s_10 h => ?_)
 {
 refine E_reg (E_mv (v' := .int .i64 vin_2.2) rfl (E_op0 (v' := .bool (vin_2.2 == 2)) rfl rfl (E_mv (v' := .bool (vin_2.2 == 2)) rfl ?_)))
 refine E_gsT (b := (vin_2.2 == 2)) rfl rfl rfl (fun hb => ?_) (fun hb => ?_)
 {
 rw [ite_t hb] at h
 refine E_mv (v' := .int .i64 out_3.2) rfl (E_gh rfl (E_op0 (v' := .bool (out_3.2 == 2)) rfl rfl (E_pt rfl rfl (E_mv (v' := .bool (out_3.2 == 2)) rfl ?_))))
 refine E_gsT (b := (out_3.2 == 2)) rfl rfl rfl (fun hb => ?_) (fun hb => ?_)
 {
 rw [ite_t hb] at h
 refine E_mv (v' := (.sl false 1 (List.map (avL 1 (avI .i64)) vin_2.1))) rfl (E_gh rfl (E_len rfl (E_gh rfl (E_mv (v' := (.sl false 1 (List.map (avL 1 (avI .i64)) out_3.1))) rfl (E_gh rfl (E_len rfl (E_gh rfl (E_op0 (v' := (.int .i64 (I64 ((List.length vin_2.1 : Int) + (List.length out_3.1 : Int))))) rfl rfl (E_gh rfl (E_op0 (v' := (.bool ((I64 ((List.length vin_2.1 : Int) + (List.length out_3.1 : Int))) == 0))) rfl rfl (E_pt rfl rfl (E_mv (v' := (.bool ((I64 ((List.length vin_2.1 : Int) + (List.length out_3.1 : Int))) == 0))) rfl (E_nil ?_)))))))))))))
 exact E_jx _ h (wk_aw ⟨(.refl _), trivial⟩)
 }
 {
 rw [ite_f hb] at h
 refine E_gm rfl (E_gm rfl (E_gm rfl (E_gm rfl (E_gm rfl (E_pf rfl rfl (E_mv (v' := .bool false) rfl (E_nil ?_)))))))
 exact E_jx _ h (wk_aw ⟨(.refl _), trivial⟩)
 }
 }
 {
 rw [ite_f hb] at h
 refine E_gm rfl (E_pf rfl rfl (E_mv (v' := .bool false) rfl (E_gm rfl (E_gm rfl (E_gm rfl (E_gm rfl (E_gm rfl (E_gm rfl (E_pf rfl rfl (E_mv (v' := .bool false) rfl (E_nil ?_)))))))))))
 exact E_jx _ h (wk_aw ⟨(.refl _), trivial⟩)
 }
 }
 {
 refine E_ret (E_blr (E_thr ?_))
 cases h
 exact ⟨trivial, _, rfl, (fz_b rfl (.refl _))⟩
 }
 }
 {
 rw [ite_f hb] at h
 refine E_skip (E_bln (E_nx ?_))
 refine E_jp h (fun s_12 => [(4, (.bool s_12))]) (fun s_12 => []) (fun k_11 h => ?_) (fun s_12 h => ?_)
 {
 refine E_reg (E_mv (v' := .int .i64 vin_2.2) rfl (E_op0 (v' := .bool (vin_2.2 == 0)) rfl rfl (E_mv (v' := .bool (vin_2.2 == 0)) rfl ?_)))
 refine E_gsT (b := (vin_2.2 == 0)) rfl rfl rfl (fun hb => ?_) (fun hb => ?_)
 {
 rw [ite_t hb] at h
 refine E_mv (v' := .int .i64 out_3.2) rfl (E_gh rfl (E_op0 (v' := .bool (out_3.2 == 0)) rfl rfl (E_pt rfl rfl (E_mv (v' := .bool (out_3.2 == 0)) rfl ?_))))
 refine E_gsT (b := (out_3.2 == 0)) rfl rfl rfl (fun hb => ?_) (fun hb => ?_)
 {
 rw [ite_t hb] at h
 refine E_mv (v' := (.sl false 1 (List.map (avL 1 (avI .i64)) vin_2.1))) rfl (E_gh rfl (E_op0 (v' := (.cptr (Graphs.av g_00).cells 0)) rfl rfl (E_gh rfl (E_op0 (v' := .sl false 8 (List.map Graph.av g_00.Funcs)) rfl rfl (E_gh rfl (E_mv (v' := .int .i64 f_01) rfl (E_gh rfl ?_)))))))
 obtain ⟨y_13, hy_13, h⟩ := bd_some h
 refine E_iadF rfl rfl hy_13 (E_gh rfl (E_op0 (v' := (Graph.av y_13)) rfl rfl (E_gh rfl ?_)))
 obtain ⟨vin_14, hvin_14, h⟩ := bd_some h
 refine E_callW (windlassref11_In_ev (fuel := fuel)  hvin_14) rfl ⟨(.refl _), trivial⟩ (blwL_of ⟨(Graph.enc.blw _ 0), trivial⟩) ((encL (encI .i64) 1).blws 0) (E_gh rfl ?_)
 obtain ⟨sam_15, hsam_15, h⟩ := bd_some h
 refine E_callW (windlassref11_SameLists_ev  hsam_15) rfl ⟨(.refl _), (.refl _), trivial⟩ (blwL_of ⟨((encL (encI .i64) 1).blws 0), ((encL (encI .i64) 1).blws 0), trivial⟩) rfl (E_pt rfl rfl (E_mv (v' := .bool sam_15) rfl ?_))
 refine E_gsT (b := sam_15) rfl rfl rfl (fun hb => ?_) (fun hb => ?_)
 {
 rw [ite_t hb] at h
 refine E_mv (v' := (.sl false 1 (List.map (avL 1 (avI .i64)) out_3.1))) rfl (E_gh rfl (E_op0 (v' := (.cptr (Graphs.av g_00).cells 0)) rfl rfl (E_gh rfl (E_op0 (v' := .sl false 8 (List.map Graph.av g_00.Funcs)) rfl rfl (E_gh rfl (E_mv (v' := .int .i64 f_01) rfl (E_gh rfl (E_iadF rfl rfl hy_13 (E_gh rfl (E_op0 (v' := (Graph.av y_13)) rfl rfl (E_gh rfl ?_)))))))))))
 obtain ⟨out_16, hout_16, h⟩ := bd_some h
 refine E_callW (windlassref11_Out_ev (fuel := fuel)  hout_16) rfl ⟨(.refl _), trivial⟩ (blwL_of ⟨(Graph.enc.blw _ 0), trivial⟩) ((encL (encI .i64) 1).blws 0) (E_gh rfl ?_)
 obtain ⟨sam_17, hsam_17, h⟩ := bd_some h
 refine E_callW (windlassref11_SameLists_ev  hsam_17) rfl ⟨(.refl _), (.refl _), trivial⟩ (blwL_of ⟨((encL (encI .i64) 1).blws 0), ((encL (encI .i64) 1).blws 0), trivial⟩) rfl (E_pt rfl rfl (E_mv (v' := .bool sam_17) rfl (E_nil ?_)))
 exact E_jx _ h (wk_aw ⟨(.refl _), trivial⟩)
 }
 {
 rw [ite_f hb] at h
 refine E_gm rfl (E_gm rfl (E_gm rfl (E_gm rfl (E_gm rfl (E_gm rfl (E_gm rfl (E_pf rfl rfl (E_mv (v' := .bool false) rfl (E_nil ?_)))))))))
 exact E_jx _ h (wk_aw ⟨(.refl _), trivial⟩)
 }
 }
 {
 rw [ite_f hb] at h
 refine E_gm rfl (E_gm rfl (E_gm rfl (E_gm rfl (E_gm rfl (E_gm rfl (E_gm rfl (E_pf rfl rfl (E_mv (v' := .bool false) rfl (E_gm rfl (E_gm rfl (E_gm rfl (E_gm rfl (E_gm rfl (E_gm rfl (E_gm rfl ?_)))))))))))))))
 refine E_gm rfl (E_pf rfl rfl (E_mv (v' := .bool false) rfl (E_nil ?_)))
 exact E_jx _ h (wk_aw ⟨(.refl _), trivial⟩)
 }
 }
 {
 rw [ite_f hb] at h
 refine E_gm rfl (E_pf rfl rfl (E_mv (v' := .bool false) rfl (E_gm rfl (E_gm rfl (E_gm rfl (E_gm rfl (E_gm rfl (E_gm rfl (E_gm rfl (E_gm rfl (E_pf rfl rfl (E_mv (v' := .bool false) rfl (E_gm rfl (E_gm rfl (E_gm rfl ?_)))))))))))))))
 refine E_gm rfl (E_gm rfl (E_gm rfl (E_gm rfl (E_gm rfl (E_pf rfl rfl (E_mv (v' := .bool false) rfl (E_nil ?_)))))))
 exact E_jx _ h (wk_aw ⟨(.refl _), trivial⟩)
 }
 }
 {
 refine E_ret ?_
 cases h
 exact ⟨trivial, _, rfl, (fz_b rfl (.refl _))⟩
 }
 }
 }
 }
 }
end Go.Proofs.YtgoejecjmodjiaaDoor

