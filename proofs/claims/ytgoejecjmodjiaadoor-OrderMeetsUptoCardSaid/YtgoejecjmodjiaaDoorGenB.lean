/- What the functions compute, and that they do (printed by wip/gen/gen.py), part 2. -/
import Derived.Test.YtgoejecjmodjiaaDoorGenBa
namespace Go.Proofs.YtgoejecjmodjiaaDoor
open Go Go.Ab
set_option maxRecDepth 20000
set_option maxHeartbeats 2000000
set_option linter.unusedVariables false
set_option linter.unusedSimpArgs false
def ir_checker_node_pNCN_s (c_all_00 : (List Graph)) (c_g_00 : Graph) (c_bound_00 : Bool) (n_01 : Node) : Option (Bool × (List Graph) × Graph × Bool) :=
  ((ir_Next_s n_01).bind fun nex_1 => ((rng (fun (i_3 : Nat) (vto_4 : Int) (s_2 : Unit) => ((jp (fun (s_7 : Bool) => (if s_7 then (some (.ret (some (false, c_all_00, c_g_00, c_bound_00)))) else (some (.nxt ())))) (fun k_6 => (if (decide (vto_4 < 0)) then (k_6 true) else (k_6 (decide (vto_4 ≥ (List.length c_g_00.Nodes : Int))))))) : Option (Stp Unit (Option (Bool × (List Graph) × Graph × Bool))))) nex_1 ()).bind (oc (fun (s_2 : Unit) => (jp (fun (s_9 : Bool) => (if s_9 then ((ir_checker_is_pNCN_s c_all_00 c_g_00 c_bound_00 0 ([n_01.D])).bind fun (vis_10 : (Bool × (List Graph) × Graph × Bool)) => (some (vis_10.1, vis_10.2.1, vis_10.2.2.1, vis_10.2.2.2))) else (if (n_01.Op == 2) then (jp (fun (s_12 : (Bool × (List Graph) × Graph × Bool)) => (some (s_12.1, s_12.2.1, s_12.2.2.1, s_12.2.2.2))) (fun k_11 => ((ir_checker_is_pNCN_s c_all_00 c_g_00 c_bound_00 0 ([n_01.D, n_01.A])).bind fun (vis_13 : (Bool × (List Graph) × Graph × Bool)) => (if vis_13.1 then (k_11 (true, vis_13.2.1, vis_13.2.2.1, vis_13.2.2.2)) else ((ir_checker_is_pNCN_s vis_13.2.1 vis_13.2.2.1 vis_13.2.2.2 1 ([n_01.D, n_01.A])).bind fun (vis_14 : (Bool × (List Graph) × Graph × Bool)) => (k_11 (vis_14.1, vis_14.2.1, vis_14.2.2.1, vis_14.2.2.2))))))) else (if (n_01.Op == 3) then (jp (fun (s_16 : (Bool × (List Graph) × Graph × Bool)) => (some (s_16.1, s_16.2.1, s_16.2.2.1, s_16.2.2.2))) (fun k_15 => (if (decide (n_01.By ≥ 7)) then (if (decide (n_01.By ≤ 20)) then ((ir_checker_is_pNCN_s c_all_00 c_g_00 c_bound_00 0 ([n_01.D, n_01.A, n_01.B])).bind fun (vis_17 : (Bool × (List Graph) × Graph × Bool)) => (k_15 (vis_17.1, vis_17.2.1, vis_17.2.2.1, vis_17.2.2.2))) else (k_15 (false, c_all_00, c_g_00, c_bound_00))) else (k_15 (false, c_all_00, c_g_00, c_bound_00))))) else (if (n_01.Op == 4) then (jp (fun (s_19 : (Bool × (List Graph) × Graph × Bool)) => (some (s_19.1, s_19.2.1, s_19.2.2.1, s_19.2.2.2))) (fun k_18 => ((ir_checker_cell_pNCN_s c_all_00 c_g_00 c_bound_00 n_01.Cell).bind fun (cel_20 : (Bool × (List Graph) × Graph × Bool)) => (if cel_20.1 then ((ir_checker_is_pNCN_s cel_20.2.1 cel_20.2.2.1 cel_20.2.2.2 0 ([n_01.D])).bind fun (vis_21 : (Bool × (List Graph) × Graph × Bool)) => (k_18 (vis_21.1, vis_21.2.1, vis_21.2.2.1, vis_21.2.2.2))) else (k_18 (false, cel_20.2.1, cel_20.2.2.1, cel_20.2.2.2)))))) else (if (n_01.Op == 5) then (jp (fun (s_23 : (Bool × (List Graph) × Graph × Bool)) => (some (s_23.1, s_23.2.1, s_23.2.2.1, s_23.2.2.2))) (fun k_22 => ((ir_checker_cell_pNCN_s c_all_00 c_g_00 c_bound_00 n_01.Cell).bind fun (cel_24 : (Bool × (List Graph) × Graph × Bool)) => (if cel_24.1 then ((ir_checker_is_pNCN_s cel_24.2.1 cel_24.2.2.1 cel_24.2.2.2 0 ([n_01.A])).bind fun (vis_25 : (Bool × (List Graph) × Graph × Bool)) => (k_22 (vis_25.1, vis_25.2.1, vis_25.2.2.1, vis_25.2.2.2))) else (k_22 (false, cel_24.2.1, cel_24.2.2.1, cel_24.2.2.2)))))) else (if (n_01.Op == 6) then (jp (fun (s_27 : (Bool × (List Graph) × Graph × Bool)) => (some (s_27.1, s_27.2.1, s_27.2.2.1, s_27.2.2.2))) (fun k_26 => ((ir_checker_cell_pNCN_s c_all_00 c_g_00 c_bound_00 n_01.Cell).bind fun (cel_28 : (Bool × (List Graph) × Graph × Bool)) => (if cel_28.1 then ((ir_checker_is_pNCN_s cel_28.2.1 cel_28.2.2.1 cel_28.2.2.2 1 ([n_01.D])).bind fun (vis_29 : (Bool × (List Graph) × Graph × Bool)) => (k_26 (vis_29.1, vis_29.2.1, vis_29.2.2.1, vis_29.2.2.2))) else (k_26 (false, cel_28.2.1, cel_28.2.2.1, cel_28.2.2.2)))))) else (if (n_01.Op == 7) then (jp (fun (s_31 : (Bool × (List Graph) × Graph × Bool)) => (some (s_31.1, s_31.2.1, s_31.2.2.1, s_31.2.2.2))) (fun k_30 => ((ir_checker_is_pNCN_s c_all_00 c_g_00 c_bound_00 0 ([n_01.D])).bind fun (vis_32 : (Bool × (List Graph) × Graph × Bool)) => (if vis_32.1 then ((ir_checker_is_pNCN_s vis_32.2.1 vis_32.2.2.1 vis_32.2.2.2 1 ([n_01.A])).bind fun (vis_33 : (Bool × (List Graph) × Graph × Bool)) => (k_30 (vis_33.1, vis_33.2.1, vis_33.2.2.1, vis_33.2.2.2))) else (k_30 (false, vis_32.2.1, vis_32.2.2.1, vis_32.2.2.2)))))) else (if (n_01.Op == 8) then (jp (fun (s_35 : (Bool × (List Graph) × Graph × Bool)) => (some (s_35.1, s_35.2.1, s_35.2.2.1, s_35.2.2.2))) (fun k_34 => ((ir_checker_is_pNCN_s c_all_00 c_g_00 c_bound_00 1 ([n_01.A])).bind fun (vis_36 : (Bool × (List Graph) × Graph × Bool)) => (if vis_36.1 then ((ir_checker_is_pNCN_s vis_36.2.1 vis_36.2.2.1 vis_36.2.2.2 0 ([n_01.B])).bind fun (vis_37 : (Bool × (List Graph) × Graph × Bool)) => (k_34 (vis_37.1, vis_37.2.1, vis_37.2.2.1, vis_37.2.2.2))) else (k_34 (false, vis_36.2.1, vis_36.2.2.1, vis_36.2.2.2)))))) else (if (n_01.Op == 10) then (some (true, c_all_00, c_g_00, c_bound_00)) else (jp (fun (s_39 : Bool) => (if s_39 then ((ir_checker_is_pNCN_s c_all_00 c_g_00 c_bound_00 0 ([n_01.A])).bind fun (vis_40 : (Bool × (List Graph) × Graph × Bool)) => (some (vis_40.1, vis_40.2.1, vis_40.2.2.1, vis_40.2.2.2))) else (if (n_01.Op == 15) then (jp (fun (s_42 : (Bool × (List Graph) × Graph × Bool)) => (some (s_42.1, s_42.2.1, s_42.2.2.1, s_42.2.2.2))) (fun k_41 => (if (n_01.D != n_01.E) then ((ir_checker_is_pNCN_s c_all_00 c_g_00 c_bound_00 0 ([n_01.D, n_01.E])).bind fun (vis_43 : (Bool × (List Graph) × Graph × Bool)) => (k_41 (vis_43.1, vis_43.2.1, vis_43.2.2.1, vis_43.2.2.2))) else (k_41 (false, c_all_00, c_g_00, c_bound_00))))) else (if (n_01.Op == 13) then ((ir_checker_args_pNCN_s c_all_00 c_g_00 c_bound_00 n_01).bind fun (arg_44 : (Bool × (List Graph) × Graph × Bool)) => (some (arg_44.1, arg_44.2.1, arg_44.2.2.1, arg_44.2.2.2))) else (if (n_01.Op == 11) then (jp (fun (s_46 : (Bool × (List Graph) × Graph × Bool)) => (some (s_46.1, s_46.2.1, s_46.2.2.1, s_46.2.2.2))) (fun k_45 => ((ir_checker_args_pNCN_s c_all_00 c_g_00 c_bound_00 n_01).bind fun (arg_47 : (Bool × (List Graph) × Graph × Bool)) => (if arg_47.1 then (if (n_01.D == (-1)) then (k_45 (true, arg_47.2.1, arg_47.2.2.1, arg_47.2.2.2)) else ((ir_checker_is_pNCN_s arg_47.2.1 arg_47.2.2.1 arg_47.2.2.2 0 ([n_01.D])).bind fun (vis_48 : (Bool × (List Graph) × Graph × Bool)) => (if vis_48.1 then ((getI vis_48.2.1 n_01.F).bind fun y_49 => (if y_49.Result then (if (!vis_48.2.2.2) then (k_45 (true, vis_48.2.1, vis_48.2.2.1, vis_48.2.2.2)) else (k_45 ((n_01.D == 0), vis_48.2.1, vis_48.2.2.1, vis_48.2.2.2))) else (k_45 (false, vis_48.2.1, vis_48.2.2.1, vis_48.2.2.2)))) else (k_45 (false, vis_48.2.1, vis_48.2.2.1, vis_48.2.2.2))))) else (k_45 (false, arg_47.2.1, arg_47.2.2.1, arg_47.2.2.2)))))) else (if (n_01.Op == 12) then (jp (fun (s_51 : (Bool × (List Graph) × Graph × Bool)) => (some (s_51.1, s_51.2.1, s_51.2.2.1, s_51.2.2.2))) (fun k_50 => (if (n_01.A == (-1)) then (if (!c_g_00.Result) then (k_50 (true, c_all_00, c_g_00, c_bound_00)) else (if (n_01.A != (-1)) then (if c_g_00.Result then ((ir_checker_is_pNCN_s c_all_00 c_g_00 c_bound_00 0 ([n_01.A])).bind fun (vis_52 : (Bool × (List Graph) × Graph × Bool)) => (k_50 (vis_52.1, vis_52.2.1, vis_52.2.2.1, vis_52.2.2.2))) else (k_50 (false, c_all_00, c_g_00, c_bound_00))) else (k_50 (false, c_all_00, c_g_00, c_bound_00)))) else (if (n_01.A != (-1)) then (if c_g_00.Result then ((ir_checker_is_pNCN_s c_all_00 c_g_00 c_bound_00 0 ([n_01.A])).bind fun (vis_53 : (Bool × (List Graph) × Graph × Bool)) => (k_50 (vis_53.1, vis_53.2.1, vis_53.2.2.1, vis_53.2.2.2))) else (k_50 (false, c_all_00, c_g_00, c_bound_00))) else (k_50 (false, c_all_00, c_g_00, c_bound_00)))))) else (some (false, c_all_00, c_g_00, c_bound_00)))))))) (fun k_38 => (if (n_01.Op == 9) then (k_38 (n_01.Op == 9)) else (if (n_01.Op == 14) then (k_38 (n_01.Op == 14)) else (if (n_01.Op == 18) then (k_38 (n_01.Op == 18)) else (k_38 (n_01.Op == 17))))))))))))))))) (fun k_8 => (if (n_01.Op == 1) then (k_8 (n_01.Op == 1)) else (k_8 (n_01.Op == 16)))))))))
theorem ir_checker_node_pNCN_ev {c_all_00 : (List Graph)} {c_g_00 : Graph} {c_bound_00 : Bool} {n_01 : Node} {r : (Bool × (List Graph) × Graph × Bool)} (h : ir_checker_node_pNCN_s c_all_00 c_g_00 c_bound_00 n_01 = some r) : Ev Tryd.prog 77 [(.ptr 0 0 0), (Node.av n_01)] (hp [.arr 0 [(.sl false 8 (List.map Graph.av c_all_00)), (.cptr (Graph.av c_g_00).cells 0), (.bool c_bound_00)]]) (.bool r.1) (hp [.arr 0 [(.sl false 8 (List.map Graph.av r.2.1)), (.cptr (Graph.av r.2.2.1).cells 0), (.bool r.2.2.2)]]) := by
 unfold ir_checker_node_pNCN_s at h
 refine Ev_end mixed fn77 (by simp) [] ?_
 unfold fc77
 refine E_sq (E_reg (E_op0 (v' := (.cptr (Node.av n_01).cells 0)) rfl rfl (E_mv (v' := .bool false) rfl (E_nil (E_nx (E_as (E_sq (E_reg (E_op0 (v' := (Node.av n_01)) rfl rfl ?_)))))))))
 obtain ⟨nex_1, hnex_1, h⟩ := bd_some h
 refine E_callW (ir_Next_ev  hnex_1) rfl ⟨(.refl _), trivial⟩ (blwL_of ⟨(Node.enc.blw _ 0), trivial⟩) ((encI .i64).blws 0) (E_len rfl (E_mv (v' := .int .i64 0) rfl (E_nil (E_nx (E_sq ?_)))))
 refine E_rngO (fun s_2 => [(0, (.ptr 0 0 0)), (3, (.cptr (Node.av n_01).cells 0)), (8, (.sl false 1 (List.map (avI .i64) nex_1)))]) (fun s_2 => [.arr 0 [(.sl false 8 (List.map Graph.av c_all_00)), (.cptr (Graph.av c_g_00).cells 0), (.bool c_bound_00)]]) h (by decide) (by decide) (fun _ => ⟨rfl, rfl, rfl, rfl⟩) (wk_rn [some (0, 0)] rfl (Nat.le_of_ble_eq_true rfl) ⟨(rn_obS rfl rfl (.cons (rn_b (Graph.enc.blws 0)) (.cons (rn_b (cp_blw (Graph.enc.blw _ 0))) (.cons (rn_b rfl) (.nil (Nat.zero_le _))))) rfl), trivial⟩ ⟨(rn_b rfl), (rn_b rfl), (rn_ptr rfl rfl rfl rfl), (rn_b (cp_blw (Node.enc.blw _ 0))), (rn_b ((encI .i64).blws 0)), trivial⟩) (fun i_3 vto_4 s_2 c hx_5 hlt h => ?_) (fun s_2 fr' S' h hw => ?_)
 {
 refine E_sq (E_reg (E_iadF rfl rfl (getI_of hx_5) (E_op0 (v' := .int .i64 vto_4) rfl rfl (E_mv (v' := .int .i64 vto_4) rfl (E_nil (E_nx ?_))))))
 refine E_jp h (fun s_7 => [(0, (.ptr 0 0 0)), (3, (.cptr (Node.av n_01).cells 0)), (8, (.sl false 1 (List.map (avI .i64) nex_1))), (9, (.int .i64 (List.length nex_1 : Int))), (10, (.int .i64 (i_3 : Int))), (27, (.bool s_7))]) (fun s_7 => [.arr 0 [(.sl false 8 (List.map Graph.av c_all_00)), (.cptr (Graph.av c_g_00).cells 0), (.bool c_bound_00)]]) (fun k_6 h => ?_) (fun s_7 h => ?_)
 {
 refine E_reg (E_mv (v' := .int .i64 vto_4) rfl (E_op0 (v' := (.bool (decide (vto_4 < 0)))) rfl rfl (E_mv (v' := (.bool (decide (vto_4 < 0)))) rfl ?_)))
 refine E_gsT (b := (decide (vto_4 < 0))) rfl rfl rfl (fun hb => ?_) (fun hb => ?_)
 {
 rw [ite_f hb] at h
 refine E_mv (v' := .int .i64 vto_4) rfl (E_gh rfl (E_mv (v' := .ptr 0 0 0) rfl (E_gh rfl (E_op0 (v' := .ptr 0 0 0) rfl rfl (E_gh rfl (E_op0 (v' := .ptr 0 0 1) rfl rfl (E_gh rfl (E_op (v' := (.cptr (Graph.av c_g_00).cells 0)) (S' := [.arr 0 [(.sl false 8 (List.map Graph.av c_all_00)), (.cptr (Graph.av c_g_00).cells 0), (.bool c_bound_00)]]) rfl rfl rfl (E_gh rfl (E_op0 (v' := (.cptr (Graph.av c_g_00).cells 0)) rfl rfl (E_gh rfl (E_op0 (v' := (.cptr (Graph.av c_g_00).cells 6)) rfl rfl (E_gh rfl (E_op0 (v' := .sl false 12 (List.map Node.av c_g_00.Nodes)) rfl rfl (E_gh rfl ?_)))))))))))))))
 refine E_len rfl (E_gh rfl (E_op0 (v' := (.bool (decide (vto_4 ≥ (List.length c_g_00.Nodes : Int))))) rfl rfl (E_pf rfl rfl (E_nil ?_))))
 exact E_jx _ h (wk_rn [some (0, 0)] rfl (Nat.le_of_ble_eq_true rfl) ⟨(rn_obS rfl rfl (.cons (rn_b (Graph.enc.blws 0)) (.cons (rn_b (cp_blw (Graph.enc.blw _ 0))) (.cons (rn_b rfl) (.nil (Nat.zero_le _))))) rfl), trivial⟩ ⟨(rn_ptr rfl rfl rfl rfl), (rn_b (cp_blw (Node.enc.blw _ 0))), (rn_b ((encI .i64).blws 0)), (rn_b rfl), (rn_b rfl), (rn_b rfl), trivial⟩)
 }
 {
 rw [ite_t hb] at h
 refine E_gm rfl (E_gm rfl (E_gm rfl (E_gm rfl (E_gm rfl (E_gm rfl (E_gm rfl (E_gm rfl (E_gm rfl (E_pt rfl rfl (E_nil ?_))))))))))
 exact E_jx _ h (wk_rn [some (0, 0)] rfl (Nat.le_of_ble_eq_true rfl) ⟨(rn_obS rfl rfl (.cons (rn_b (Graph.enc.blws 0)) (.cons (rn_b (cp_blw (Graph.enc.blw _ 0))) (.cons (rn_b rfl) (.nil (Nat.zero_le _))))) rfl), trivial⟩ ⟨(rn_ptr rfl rfl rfl rfl), (rn_b (cp_blw (Node.enc.blw _ 0))), (rn_b ((encI .i64).blws 0)), (rn_b rfl), (rn_b rfl), (rn_b rfl), trivial⟩)
 }
 }
 {
 refine E_cs (t := s_7) rfl (fun hb => ?_) (fun hb => ?_)
 {
 rw [ite_t hb] at h
 refine E_sq (E_reg (E_mv (v' := .bool false) rfl (E_nil (E_nx (E_ret ?_)))))
 cases h
 refine L_rrO rfl (fun h => ?_)
 refine E_thr ?_
 cases h
 exact ⟨trivial, _, _, rfl, gwk_rn [some (0, 0)] rfl (Nat.le_of_ble_eq_true rfl) ⟨(rn_obS rfl rfl (.cons (rn_b (Graph.enc.blws 0)) (.cons (rn_b (cp_blw (Graph.enc.blw _ 0))) (.cons (rn_b rfl) (.nil (Nat.zero_le _))))) rfl), trivial⟩, (rn_b rfl)⟩
 }
 {
 rw [ite_f hb] at h
 refine E_skip ?_
 cases h
 exact L_nn rfl (wk_rn [some (0, 0)] rfl (Nat.le_of_ble_eq_true rfl) ⟨(rn_obS rfl rfl (.cons (rn_b (Graph.enc.blws 0)) (.cons (rn_b (cp_blw (Graph.enc.blw _ 0))) (.cons (rn_b rfl) (.nil (Nat.zero_le _))))) rfl), trivial⟩ ⟨(rn_b rfl), (rn_b rfl), (rn_ptr rfl rfl rfl rfl), (rn_b (cp_blw (Node.enc.blw _ 0))), (rn_b ((encI .i64).blws 0)), trivial⟩)
 }
 }
 }
 {
 refine X_nx hw (E_as (E_sq (E_reg (E_op0 (v' := (.cptr (Node.av n_01).cells 0)) rfl rfl (E_op0 (v' := .int .u8 n_01.Op) rfl rfl (E_nil (E_nx (E_sq (E_block (E_as (E_sq (E_reg (E_op0 (v' := .bool (n_01.Op == 1)) rfl rfl (E_mv (v' := .bool (n_01.Op == 1)) rfl (E_nil ?_)))))))))))))))
 refine E_nx ?_
 refine E_jp h (fun s_9 => [(0, (.ptr 0 0 0)), (3, (.cptr (Node.av n_01).cells 0)), (30, (.int .u8 n_01.Op)), (31, (.bool s_9))]) (fun s_9 => [.arr 0 [(.sl false 8 (List.map Graph.av c_all_00)), (.cptr (Graph.av c_g_00).cells 0), (.bool c_bound_00)]]) (fun k_8 h => ?_) (fun s_9 h => ?_)
 {
 refine E_cs (t := (n_01.Op == 1)) rfl (fun hb => ?_) (fun hb => ?_)
 {
 rw [ite_t hb] at h
 refine E_skip ?_
 exact E_jx _ h (wk_rn [some (0, 0)] rfl (Nat.le_of_ble_eq_true rfl) ⟨(rn_obS rfl rfl (.cons (rn_b (Graph.enc.blws 0)) (.cons (rn_b (cp_blw (Graph.enc.blw _ 0))) (.cons (rn_b rfl) (.nil (Nat.zero_le _))))) rfl), trivial⟩ ⟨(rn_ptr rfl rfl rfl rfl), (rn_b (cp_blw (Node.enc.blw _ 0))), (rn_b rfl), (rn_b rfl), trivial⟩)
 }
 {
 rw [ite_f hb] at h
 refine E_reg (E_op0 (v' := .bool (n_01.Op == 16)) rfl rfl (E_mv (v' := .bool (n_01.Op == 16)) rfl (E_nil ?_)))
 exact E_jx _ h (wk_rn [some (0, 0)] rfl (Nat.le_of_ble_eq_true rfl) ⟨(rn_obS rfl rfl (.cons (rn_b (Graph.enc.blws 0)) (.cons (rn_b (cp_blw (Graph.enc.blw _ 0))) (.cons (rn_b rfl) (.nil (Nat.zero_le _))))) rfl), trivial⟩ ⟨(rn_ptr rfl rfl rfl rfl), (rn_b (cp_blw (Node.enc.blw _ 0))), (rn_b rfl), (rn_b rfl), trivial⟩)
 }
 }
 {
 refine E_cs (t := s_9) rfl (fun hb => ?_) (fun hb => ?_)
 {
 rw [ite_t hb] at h
 refine E_sq (E_reg (E_mv (v' := .ptr 0 0 0) rfl (E_op0 (v' := (.cptr (Node.av n_01).cells 2)) rfl rfl (E_op0 (v' := .int .i64 n_01.D) rfl rfl (E_opw (v' := (.sl true 1 (List.map (avI .i64) [n_01.D]))) rfl (.refl _) rfl ?_)))))
 obtain ⟨vis_10, hvis_10, h⟩ := bd_some h
 refine E_callF (S' := [.arr 0 [(.sl false 8 (List.map Graph.av vis_10.2.1)), (.cptr (Graph.av vis_10.2.2.1).cells 0), (.bool vis_10.2.2.2)]]) (r' := (.bool vis_10.1)) (ir_checker_is_pNCN_ev hvis_10) [0] rfl rfl (by decide) rfl rfl ⟨(fr_in rfl rfl (.cons (.base (Graph.enc.blws 0) (.refl _)) (.cons (rn_b (cp_blw (Graph.enc.blw _ 0))) (.cons (.base rfl (.refl _)) (.nil (Nat.zero_le _)))))), trivial⟩ ⟨(fr_outS rfl rfl (.cons (rn_b (Graph.enc.blws 0)) (.cons (rn_b (cp_blw (Graph.enc.blw _ 0))) (.cons (rn_b rfl) (.nil (Nat.zero_le _))))) rfl rfl), trivial⟩ ⟨.inl rfl, trivial⟩ rfl (.cons (fi_ptr rfl rfl rfl rfl) (.cons (.base rfl (.refl _)) (.cons (.base ((encI .i64).blws 0) .ex) (.nil (Nat.zero_le _))))) (rn_b rfl) ?_
 refine E_mv (v' := .bool vis_10.1) rfl (E_nil (E_nx (E_ret (E_blr (E_thr ?_)))))
 cases h
 exact ⟨trivial, _, _, rfl, gwk_rn [some (0, 0)] rfl (Nat.le_of_ble_eq_true rfl) ⟨(rn_obS rfl rfl (.cons (rn_b (Graph.enc.blws 0)) (.cons (rn_b (cp_blw (Graph.enc.blw _ 0))) (.cons (rn_b rfl) (.nil (Nat.zero_le _))))) rfl), trivial⟩, (rn_b rfl)⟩
 }
 {
 rw [ite_f hb] at h
 refine E_sq (E_reg (E_op0 (v' := .bool (n_01.Op == 2)) rfl rfl (E_mv (v' := .bool (n_01.Op == 2)) rfl (E_nil (E_nx ?_)))))
 refine E_cs (t := (n_01.Op == 2)) rfl (fun hb => ?_) (fun hb => ?_)
 {
 rw [ite_t hb] at h
 refine E_jp h (fun s_12 => [(4, (.bool s_12.1))]) (fun s_12 => [.arr 0 [(.sl false 8 (List.map Graph.av s_12.2.1)), (.cptr (Graph.av s_12.2.2.1).cells 0), (.bool s_12.2.2.2)]]) (fun k_11 h => ?_) (fun s_12 h => ?_)
 {
 refine E_reg (E_mv (v' := .ptr 0 0 0) rfl (E_op0 (v' := (.cptr (Node.av n_01).cells 2)) rfl rfl (E_op0 (v' := .int .i64 n_01.D) rfl rfl (E_op0 (v' := (.cptr (Node.av n_01).cells 4)) rfl rfl (E_op0 (v' := .int .i64 n_01.A) rfl rfl (E_opw (v' := (.sl true 1 (List.map (avI .i64) [n_01.D, n_01.A]))) rfl (.refl _) rfl ?_))))))
 obtain ⟨vis_13, hvis_13, h⟩ := bd_some h
 refine E_callF (S' := [.arr 0 [(.sl false 8 (List.map Graph.av vis_13.2.1)), (.cptr (Graph.av vis_13.2.2.1).cells 0), (.bool vis_13.2.2.2)]]) (r' := (.bool vis_13.1)) (ir_checker_is_pNCN_ev hvis_13) [0] rfl rfl (by decide) rfl rfl ⟨(fr_in rfl rfl (.cons (.base (Graph.enc.blws 0) (.refl _)) (.cons (rn_b (cp_blw (Graph.enc.blw _ 0))) (.cons (.base rfl (.refl _)) (.nil (Nat.zero_le _)))))), trivial⟩ ⟨(fr_outS rfl rfl (.cons (rn_b (Graph.enc.blws 0)) (.cons (rn_b (cp_blw (Graph.enc.blw _ 0))) (.cons (rn_b rfl) (.nil (Nat.zero_le _))))) rfl rfl), trivial⟩ ⟨.inl rfl, trivial⟩ rfl (.cons (fi_ptr rfl rfl rfl rfl) (.cons (.base rfl (.refl _)) (.cons (.base ((encI .i64).blws 0) .ex) (.nil (Nat.zero_le _))))) (rn_b rfl) ?_
 refine E_mv (v' := .bool vis_13.1) rfl ?_
 refine E_gsT (b := vis_13.1) rfl rfl rfl (fun hb => ?_) (fun hb => ?_)
 {
 rw [ite_f hb] at h
 refine E_mv (v' := .ptr 0 0 0) rfl (E_gh rfl (E_op0 (v' := (.cptr (Node.av n_01).cells 2)) rfl rfl (E_gh rfl (E_op0 (v' := .int .i64 n_01.D) rfl rfl (E_gh rfl (E_op0 (v' := (.cptr (Node.av n_01).cells 4)) rfl rfl (E_gh rfl (E_op0 (v' := .int .i64 n_01.A) rfl rfl (E_gh rfl (E_opw (v' := (.sl true 1 (List.map (avI .i64) [n_01.D, n_01.A]))) rfl (.refl _) rfl (E_gh rfl ?_)))))))))))
 obtain ⟨vis_14, hvis_14, h⟩ := bd_some h
 refine E_callF (S' := [.arr 0 [(.sl false 8 (List.map Graph.av vis_14.2.1)), (.cptr (Graph.av vis_14.2.2.1).cells 0), (.bool vis_14.2.2.2)]]) (r' := (.bool vis_14.1)) (ir_checker_is_pNCN_ev hvis_14) [0] rfl rfl (by decide) rfl rfl ⟨(fr_in rfl rfl (.cons (.base (Graph.enc.blws 0) (.refl _)) (.cons (rn_b (cp_blw (Graph.enc.blw _ 0))) (.cons (.base rfl (.refl _)) (.nil (Nat.zero_le _)))))), trivial⟩ ⟨(fr_outS rfl rfl (.cons (rn_b (Graph.enc.blws 0)) (.cons (rn_b (cp_blw (Graph.enc.blw _ 0))) (.cons (rn_b rfl) (.nil (Nat.zero_le _))))) rfl rfl), trivial⟩ ⟨.inl rfl, trivial⟩ rfl (.cons (fi_ptr rfl rfl rfl rfl) (.cons (.base rfl (.refl _)) (.cons (.base ((encI .i64).blws 0) .ex) (.nil (Nat.zero_le _))))) (rn_b rfl) ?_
 refine E_pf rfl rfl (E_mv (v' := .bool vis_14.1) rfl (E_nil ?_))
 exact E_jx _ h (wk_rn [some (0, 0)] rfl (Nat.le_of_ble_eq_true rfl) ⟨(rn_obS rfl rfl (.cons (rn_b (Graph.enc.blws 0)) (.cons (rn_b (cp_blw (Graph.enc.blw _ 0))) (.cons (rn_b rfl) (.nil (Nat.zero_le _))))) rfl), trivial⟩ ⟨(rn_b rfl), trivial⟩)
 }
 {
 rw [ite_t hb] at h
 refine E_gm rfl (E_gm rfl (E_gm rfl (E_gm rfl (E_gm rfl (E_gm rfl (E_pt rfl rfl (E_mv (v' := .bool true) rfl (E_nil ?_))))))))
 exact E_jx _ h (wk_rn [some (0, 0)] rfl (Nat.le_of_ble_eq_true rfl) ⟨(rn_obS rfl rfl (.cons (rn_b (Graph.enc.blws 0)) (.cons (rn_b (cp_blw (Graph.enc.blw _ 0))) (.cons (rn_b rfl) (.nil (Nat.zero_le _))))) rfl), trivial⟩ ⟨(rn_b rfl), trivial⟩)
 }
 }
 {
 refine E_ret (E_blr (E_thr ?_))
 cases h
 exact ⟨trivial, _, _, rfl, gwk_rn [some (0, 0)] rfl (Nat.le_of_ble_eq_true rfl) ⟨(rn_obS rfl rfl (.cons (rn_b (Graph.enc.blws 0)) (.cons (rn_b (cp_blw (Graph.enc.blw _ 0))) (.cons (rn_b rfl) (.nil (Nat.zero_le _))))) rfl), trivial⟩, (rn_b rfl)⟩
 }
 }
 {
 rw [ite_f hb] at h
 refine E_sq (E_reg (E_op0 (v' := .bool (n_01.Op == 3)) rfl rfl (E_mv (v' := .bool (n_01.Op == 3)) rfl (E_nil (E_nx ?_)))))
 refine E_cs (t := (n_01.Op == 3)) rfl (fun hb => ?_) (fun hb => ?_)
 {
 rw [ite_t hb] at h
 refine E_jp h (fun s_16 => [(4, (.bool s_16.1))]) (fun s_16 => [.arr 0 [(.sl false 8 (List.map Graph.av s_16.2.1)), (.cptr (Graph.av s_16.2.2.1).cells 0), (.bool s_16.2.2.2)]]) (fun k_15 h => ?_) (fun s_16 h => ?_)
 {
 refine E_reg (E_op0 (v' := (.cptr (Node.av n_01).cells 1)) rfl rfl (E_op0 (v' := .int .u8 n_01.By) rfl rfl (E_op0 (v' := (.bool (decide (n_01.By ≥ 7)))) rfl rfl (E_mv (v' := (.bool (decide (n_01.By ≥ 7)))) rfl ?_))))
 refine E_gsT (b := (decide (n_01.By ≥ 7))) rfl rfl rfl (fun hb => ?_) (fun hb => ?_)
 {
 rw [ite_t hb] at h
 refine E_op0 (v' := (.cptr (Node.av n_01).cells 1)) rfl rfl (E_gh rfl (E_op0 (v' := .int .u8 n_01.By) rfl rfl (E_gh rfl (E_op0 (v' := (.bool (decide (n_01.By ≤ 20)))) rfl rfl (E_pt rfl rfl (E_mv (v' := (.bool (decide (n_01.By ≤ 20)))) rfl ?_))))))
 refine E_gsT (b := (decide (n_01.By ≤ 20))) rfl rfl rfl (fun hb => ?_) (fun hb => ?_)
 {
 rw [ite_t hb] at h
 refine E_mv (v' := .ptr 0 0 0) rfl (E_gh rfl (E_op0 (v' := (.cptr (Node.av n_01).cells 2)) rfl rfl (E_gh rfl (E_op0 (v' := .int .i64 n_01.D) rfl rfl (E_gh rfl (E_op0 (v' := (.cptr (Node.av n_01).cells 4)) rfl rfl (E_gh rfl (E_op0 (v' := .int .i64 n_01.A) rfl rfl (E_gh rfl (E_op0 (v' := (.cptr (Node.av n_01).cells 5)) rfl rfl (E_gh rfl (E_op0 (v' := .int .i64 n_01.B) rfl rfl (E_gh rfl ?_)))))))))))))
 refine E_opw (v := (.sl true 1 (List.map (avI .i64) [n_01.D, n_01.A, n_01.B]))) (v' := (.sl true 1 (List.map (avI .i64) [n_01.D, n_01.A, n_01.B]))) (rd := []) (δ := none) (by kernel_rfl) (.refl _) rfl ?_
 refine E_gh rfl ?_
 obtain ⟨vis_17, hvis_17, h⟩ := bd_some h
 refine E_callF (S' := [.arr 0 [(.sl false 8 (List.map Graph.av vis_17.2.1)), (.cptr (Graph.av vis_17.2.2.1).cells 0), (.bool vis_17.2.2.2)]]) (r' := (.bool vis_17.1)) (ir_checker_is_pNCN_ev hvis_17) [0] rfl rfl (by decide) rfl rfl ⟨(fr_in rfl rfl (.cons (.base (Graph.enc.blws 0) (.refl _)) (.cons (rn_b (cp_blw (Graph.enc.blw _ 0))) (.cons (.base rfl (.refl _)) (.nil (Nat.zero_le _)))))), trivial⟩ ⟨(fr_outS rfl rfl (.cons (rn_b (Graph.enc.blws 0)) (.cons (rn_b (cp_blw (Graph.enc.blw _ 0))) (.cons (rn_b rfl) (.nil (Nat.zero_le _))))) rfl rfl), trivial⟩ ⟨.inl rfl, trivial⟩ rfl (.cons (fi_ptr rfl rfl rfl rfl) (.cons (.base rfl (.refl _)) (.cons (.base ((encI .i64).blws 0) .ex) (.nil (Nat.zero_le _))))) (rn_b rfl) ?_
 refine E_pt rfl rfl (E_mv (v' := .bool vis_17.1) rfl (E_nil ?_))
 exact E_jx _ h (wk_rn [some (0, 0)] rfl (Nat.le_of_ble_eq_true rfl) ⟨(rn_obS rfl rfl (.cons (rn_b (Graph.enc.blws 0)) (.cons (rn_b (cp_blw (Graph.enc.blw _ 0))) (.cons (rn_b rfl) (.nil (Nat.zero_le _))))) rfl), trivial⟩ ⟨(rn_b rfl), trivial⟩)
 }
 {
 rw [ite_f hb] at h
 refine E_gm rfl (E_gm rfl (E_gm rfl (E_gm rfl (E_gm rfl (E_gm rfl (E_gm rfl (E_gm rfl (E_pf rfl rfl (E_mv (v' := .bool false) rfl (E_nil ?_))))))))))
 exact E_jx _ h (wk_rn [some (0, 0)] rfl (Nat.le_of_ble_eq_true rfl) ⟨(rn_obS rfl rfl (.cons (rn_b (Graph.enc.blws 0)) (.cons (rn_b (cp_blw (Graph.enc.blw _ 0))) (.cons (rn_b rfl) (.nil (Nat.zero_le _))))) rfl), trivial⟩ ⟨(rn_b rfl), trivial⟩)
 }
 }
 {
 rw [ite_f hb] at h
 refine E_gm rfl (E_gm rfl (E_pf rfl rfl (E_mv (v' := .bool false) rfl (E_gm rfl (E_gm rfl (E_gm rfl (E_gm rfl (E_gm rfl (E_gm rfl (E_gm rfl (E_gm rfl (E_gm rfl (E_pf rfl rfl (E_mv (v' := .bool false) rfl (E_nil ?_)))))))))))))))
 exact E_jx _ h (wk_rn [some (0, 0)] rfl (Nat.le_of_ble_eq_true rfl) ⟨(rn_obS rfl rfl (.cons (rn_b (Graph.enc.blws 0)) (.cons (rn_b (cp_blw (Graph.enc.blw _ 0))) (.cons (rn_b rfl) (.nil (Nat.zero_le _))))) rfl), trivial⟩ ⟨(rn_b rfl), trivial⟩)
 }
 }
 {
 refine E_ret (E_blr (E_thr ?_))
 cases h
 exact ⟨trivial, _, _, rfl, gwk_rn [some (0, 0)] rfl (Nat.le_of_ble_eq_true rfl) ⟨(rn_obS rfl rfl (.cons (rn_b (Graph.enc.blws 0)) (.cons (rn_b (cp_blw (Graph.enc.blw _ 0))) (.cons (rn_b rfl) (.nil (Nat.zero_le _))))) rfl), trivial⟩, (rn_b rfl)⟩
 }
 }
 {
 rw [ite_f hb] at h
 refine E_sq (E_reg (E_op0 (v' := .bool (n_01.Op == 4)) rfl rfl (E_mv (v' := .bool (n_01.Op == 4)) rfl (E_nil (E_nx ?_)))))
 refine E_cs (t := (n_01.Op == 4)) rfl (fun hb => ?_) (fun hb => ?_)
 {
 rw [ite_t hb] at h
 refine E_jp h (fun s_19 => [(4, (.bool s_19.1))]) (fun s_19 => [.arr 0 [(.sl false 8 (List.map Graph.av s_19.2.1)), (.cptr (Graph.av s_19.2.2.1).cells 0), (.bool s_19.2.2.2)]]) (fun k_18 h => ?_) (fun s_19 h => ?_)
 {
 refine E_reg (E_mv (v' := .ptr 0 0 0) rfl (E_op0 (v' := (.cptr (Node.av n_01).cells 7)) rfl rfl (E_op0 (v' := .int .i64 n_01.Cell) rfl rfl ?_)))
 obtain ⟨cel_20, hcel_20, h⟩ := bd_some h
 refine E_callF (S' := [.arr 0 [(.sl false 8 (List.map Graph.av cel_20.2.1)), (.cptr (Graph.av cel_20.2.2.1).cells 0), (.bool cel_20.2.2.2)]]) (r' := (.bool cel_20.1)) (ir_checker_cell_pNCN_ev hcel_20) [0] rfl rfl (by decide) rfl rfl ⟨(fr_in rfl rfl (.cons (.base (Graph.enc.blws 0) (.refl _)) (.cons (rn_b (cp_blw (Graph.enc.blw _ 0))) (.cons (.base rfl (.refl _)) (.nil (Nat.zero_le _)))))), trivial⟩ ⟨(fr_outS rfl rfl (.cons (rn_b (Graph.enc.blws 0)) (.cons (rn_b (cp_blw (Graph.enc.blw _ 0))) (.cons (rn_b rfl) (.nil (Nat.zero_le _))))) rfl rfl), trivial⟩ ⟨.inl rfl, trivial⟩ rfl (.cons (fi_ptr rfl rfl rfl rfl) (.cons (.base rfl (.refl _)) (.nil (Nat.zero_le _)))) (rn_b rfl) ?_
 refine E_mv (v' := .bool cel_20.1) rfl ?_
 refine E_gsT (b := cel_20.1) rfl rfl rfl (fun hb => ?_) (fun hb => ?_)
 {
 rw [ite_t hb] at h
 refine E_mv (v' := .ptr 0 0 0) rfl (E_gh rfl (E_op0 (v' := (.cptr (Node.av n_01).cells 2)) rfl rfl (E_gh rfl (E_op0 (v' := .int .i64 n_01.D) rfl rfl (E_gh rfl (E_opw (v' := (.sl true 1 (List.map (avI .i64) [n_01.D]))) rfl (.refl _) rfl (E_gh rfl ?_)))))))
 obtain ⟨vis_21, hvis_21, h⟩ := bd_some h
 refine E_callF (S' := [.arr 0 [(.sl false 8 (List.map Graph.av vis_21.2.1)), (.cptr (Graph.av vis_21.2.2.1).cells 0), (.bool vis_21.2.2.2)]]) (r' := (.bool vis_21.1)) (ir_checker_is_pNCN_ev hvis_21) [0] rfl rfl (by decide) rfl rfl ⟨(fr_in rfl rfl (.cons (.base (Graph.enc.blws 0) (.refl _)) (.cons (rn_b (cp_blw (Graph.enc.blw _ 0))) (.cons (.base rfl (.refl _)) (.nil (Nat.zero_le _)))))), trivial⟩ ⟨(fr_outS rfl rfl (.cons (rn_b (Graph.enc.blws 0)) (.cons (rn_b (cp_blw (Graph.enc.blw _ 0))) (.cons (rn_b rfl) (.nil (Nat.zero_le _))))) rfl rfl), trivial⟩ ⟨.inl rfl, trivial⟩ rfl (.cons (fi_ptr rfl rfl rfl rfl) (.cons (.base rfl (.refl _)) (.cons (.base ((encI .i64).blws 0) .ex) (.nil (Nat.zero_le _))))) (rn_b rfl) ?_
 refine E_pt rfl rfl (E_mv (v' := .bool vis_21.1) rfl (E_nil ?_))
 exact E_jx _ h (wk_rn [some (0, 0)] rfl (Nat.le_of_ble_eq_true rfl) ⟨(rn_obS rfl rfl (.cons (rn_b (Graph.enc.blws 0)) (.cons (rn_b (cp_blw (Graph.enc.blw _ 0))) (.cons (rn_b rfl) (.nil (Nat.zero_le _))))) rfl), trivial⟩ ⟨(rn_b rfl), trivial⟩)
 }
 {
 rw [ite_f hb] at h
 refine E_gm rfl (E_gm rfl (E_gm rfl (E_gm rfl (E_pf rfl rfl (E_mv (v' := .bool false) rfl (E_nil ?_))))))
 exact E_jx _ h (wk_rn [some (0, 0)] rfl (Nat.le_of_ble_eq_true rfl) ⟨(rn_obS rfl rfl (.cons (rn_b (Graph.enc.blws 0)) (.cons (rn_b (cp_blw (Graph.enc.blw _ 0))) (.cons (rn_b rfl) (.nil (Nat.zero_le _))))) rfl), trivial⟩ ⟨(rn_b rfl), trivial⟩)
 }
 }
 {
 refine E_ret (E_blr (E_thr ?_))
 cases h
 exact ⟨trivial, _, _, rfl, gwk_rn [some (0, 0)] rfl (Nat.le_of_ble_eq_true rfl) ⟨(rn_obS rfl rfl (.cons (rn_b (Graph.enc.blws 0)) (.cons (rn_b (cp_blw (Graph.enc.blw _ 0))) (.cons (rn_b rfl) (.nil (Nat.zero_le _))))) rfl), trivial⟩, (rn_b rfl)⟩
 }
 }
 {
 rw [ite_f hb] at h
 refine E_sq (E_reg (E_op0 (v' := .bool (n_01.Op == 5)) rfl rfl (E_mv (v' := .bool (n_01.Op == 5)) rfl (E_nil (E_nx ?_)))))
 refine E_cs (t := (n_01.Op == 5)) rfl (fun hb => ?_) (fun hb => ?_)
 {
 rw [ite_t hb] at h
 refine E_jp h (fun s_23 => [(4, (.bool s_23.1))]) (fun s_23 => [.arr 0 [(.sl false 8 (List.map Graph.av s_23.2.1)), (.cptr (Graph.av s_23.2.2.1).cells 0), (.bool s_23.2.2.2)]]) (fun k_22 h => ?_) (fun s_23 h => ?_)
 {
 refine E_reg (E_mv (v' := .ptr 0 0 0) rfl (E_op0 (v' := (.cptr (Node.av n_01).cells 7)) rfl rfl (E_op0 (v' := .int .i64 n_01.Cell) rfl rfl ?_)))
 obtain ⟨cel_24, hcel_24, h⟩ := bd_some h
 refine E_callF (S' := [.arr 0 [(.sl false 8 (List.map Graph.av cel_24.2.1)), (.cptr (Graph.av cel_24.2.2.1).cells 0), (.bool cel_24.2.2.2)]]) (r' := (.bool cel_24.1)) (ir_checker_cell_pNCN_ev hcel_24) [0] rfl rfl (by decide) rfl rfl ⟨(fr_in rfl rfl (.cons (.base (Graph.enc.blws 0) (.refl _)) (.cons (rn_b (cp_blw (Graph.enc.blw _ 0))) (.cons (.base rfl (.refl _)) (.nil (Nat.zero_le _)))))), trivial⟩ ⟨(fr_outS rfl rfl (.cons (rn_b (Graph.enc.blws 0)) (.cons (rn_b (cp_blw (Graph.enc.blw _ 0))) (.cons (rn_b rfl) (.nil (Nat.zero_le _))))) rfl rfl), trivial⟩ ⟨.inl rfl, trivial⟩ rfl (.cons (fi_ptr rfl rfl rfl rfl) (.cons (.base rfl (.refl _)) (.nil (Nat.zero_le _)))) (rn_b rfl) ?_
 refine E_mv (v' := .bool cel_24.1) rfl ?_
 refine E_gsT (b := cel_24.1) rfl rfl rfl (fun hb => ?_) (fun hb => ?_)
 {
 rw [ite_t hb] at h
 refine E_mv (v' := .ptr 0 0 0) rfl (E_gh rfl (E_op0 (v' := (.cptr (Node.av n_01).cells 4)) rfl rfl (E_gh rfl (E_op0 (v' := .int .i64 n_01.A) rfl rfl (E_gh rfl (E_opw (v' := (.sl true 1 (List.map (avI .i64) [n_01.A]))) rfl (.refl _) rfl (E_gh rfl ?_)))))))
 obtain ⟨vis_25, hvis_25, h⟩ := bd_some h
 refine E_callF (S' := [.arr 0 [(.sl false 8 (List.map Graph.av vis_25.2.1)), (.cptr (Graph.av vis_25.2.2.1).cells 0), (.bool vis_25.2.2.2)]]) (r' := (.bool vis_25.1)) (ir_checker_is_pNCN_ev hvis_25) [0] rfl rfl (by decide) rfl rfl ⟨(fr_in rfl rfl (.cons (.base (Graph.enc.blws 0) (.refl _)) (.cons (rn_b (cp_blw (Graph.enc.blw _ 0))) (.cons (.base rfl (.refl _)) (.nil (Nat.zero_le _)))))), trivial⟩ ⟨(fr_outS rfl rfl (.cons (rn_b (Graph.enc.blws 0)) (.cons (rn_b (cp_blw (Graph.enc.blw _ 0))) (.cons (rn_b rfl) (.nil (Nat.zero_le _))))) rfl rfl), trivial⟩ ⟨.inl rfl, trivial⟩ rfl (.cons (fi_ptr rfl rfl rfl rfl) (.cons (.base rfl (.refl _)) (.cons (.base ((encI .i64).blws 0) .ex) (.nil (Nat.zero_le _))))) (rn_b rfl) ?_
 refine E_pt rfl rfl (E_mv (v' := .bool vis_25.1) rfl (E_nil ?_))
 exact E_jx _ h (wk_rn [some (0, 0)] rfl (Nat.le_of_ble_eq_true rfl) ⟨(rn_obS rfl rfl (.cons (rn_b (Graph.enc.blws 0)) (.cons (rn_b (cp_blw (Graph.enc.blw _ 0))) (.cons (rn_b rfl) (.nil (Nat.zero_le _))))) rfl), trivial⟩ ⟨(rn_b rfl), trivial⟩)
 }
 {
 rw [ite_f hb] at h
 refine E_gm rfl (E_gm rfl (E_gm rfl (E_gm rfl (E_pf rfl rfl (E_mv (v' := .bool false) rfl (E_nil ?_))))))
 exact E_jx _ h (wk_rn [some (0, 0)] rfl (Nat.le_of_ble_eq_true rfl) ⟨(rn_obS rfl rfl (.cons (rn_b (Graph.enc.blws 0)) (.cons (rn_b (cp_blw (Graph.enc.blw _ 0))) (.cons (rn_b rfl) (.nil (Nat.zero_le _))))) rfl), trivial⟩ ⟨(rn_b rfl), trivial⟩)
 }
 }
 {
 refine E_ret (E_blr (E_thr ?_))
 cases h
 exact ⟨trivial, _, _, rfl, gwk_rn [some (0, 0)] rfl (Nat.le_of_ble_eq_true rfl) ⟨(rn_obS rfl rfl (.cons (rn_b (Graph.enc.blws 0)) (.cons (rn_b (cp_blw (Graph.enc.blw _ 0))) (.cons (rn_b rfl) (.nil (Nat.zero_le _))))) rfl), trivial⟩, (rn_b rfl)⟩
 }
 }
 {
 rw [ite_f hb] at h
 refine E_sq (E_reg (E_op0 (v' := .bool (n_01.Op == 6)) rfl rfl (E_mv (v' := .bool (n_01.Op == 6)) rfl (E_nil (E_nx ?_)))))
 refine E_cs (t := (n_01.Op == 6)) rfl (fun hb => ?_) (fun hb => ?_)
 {
 rw [ite_t hb] at h
 refine E_jp h (fun s_27 => [(4, (.bool s_27.1))]) (fun s_27 => [.arr 0 [(.sl false 8 (List.map Graph.av s_27.2.1)), (.cptr (Graph.av s_27.2.2.1).cells 0), (.bool s_27.2.2.2)]]) (fun k_26 h => ?_) (fun s_27 h => ?_)
 {
 refine E_reg (E_mv (v' := .ptr 0 0 0) rfl (E_op0 (v' := (.cptr (Node.av n_01).cells 7)) rfl rfl (E_op0 (v' := .int .i64 n_01.Cell) rfl rfl ?_)))
 obtain ⟨cel_28, hcel_28, h⟩ := bd_some h
 refine E_callF (S' := [.arr 0 [(.sl false 8 (List.map Graph.av cel_28.2.1)), (.cptr (Graph.av cel_28.2.2.1).cells 0), (.bool cel_28.2.2.2)]]) (r' := (.bool cel_28.1)) (ir_checker_cell_pNCN_ev hcel_28) [0] rfl rfl (by decide) rfl rfl ⟨(fr_in rfl rfl (.cons (.base (Graph.enc.blws 0) (.refl _)) (.cons (rn_b (cp_blw (Graph.enc.blw _ 0))) (.cons (.base rfl (.refl _)) (.nil (Nat.zero_le _)))))), trivial⟩ ⟨(fr_outS rfl rfl (.cons (rn_b (Graph.enc.blws 0)) (.cons (rn_b (cp_blw (Graph.enc.blw _ 0))) (.cons (rn_b rfl) (.nil (Nat.zero_le _))))) rfl rfl), trivial⟩ ⟨.inl rfl, trivial⟩ rfl (.cons (fi_ptr rfl rfl rfl rfl) (.cons (.base rfl (.refl _)) (.nil (Nat.zero_le _)))) (rn_b rfl) ?_
 refine E_mv (v' := .bool cel_28.1) rfl ?_
 refine E_gsT (b := cel_28.1) rfl rfl rfl (fun hb => ?_) (fun hb => ?_)
 {
 rw [ite_t hb] at h
 refine E_mv (v' := .ptr 0 0 0) rfl (E_gh rfl (E_op0 (v' := (.cptr (Node.av n_01).cells 2)) rfl rfl (E_gh rfl (E_op0 (v' := .int .i64 n_01.D) rfl rfl (E_gh rfl (E_opw (v' := (.sl true 1 (List.map (avI .i64) [n_01.D]))) rfl (.refl _) rfl (E_gh rfl ?_)))))))
 obtain ⟨vis_29, hvis_29, h⟩ := bd_some h
 refine E_callF (S' := [.arr 0 [(.sl false 8 (List.map Graph.av vis_29.2.1)), (.cptr (Graph.av vis_29.2.2.1).cells 0), (.bool vis_29.2.2.2)]]) (r' := (.bool vis_29.1)) (ir_checker_is_pNCN_ev hvis_29) [0] rfl rfl (by decide) rfl rfl ⟨(fr_in rfl rfl (.cons (.base (Graph.enc.blws 0) (.refl _)) (.cons (rn_b (cp_blw (Graph.enc.blw _ 0))) (.cons (.base rfl (.refl _)) (.nil (Nat.zero_le _)))))), trivial⟩ ⟨(fr_outS rfl rfl (.cons (rn_b (Graph.enc.blws 0)) (.cons (rn_b (cp_blw (Graph.enc.blw _ 0))) (.cons (rn_b rfl) (.nil (Nat.zero_le _))))) rfl rfl), trivial⟩ ⟨.inl rfl, trivial⟩ rfl (.cons (fi_ptr rfl rfl rfl rfl) (.cons (.base rfl (.refl _)) (.cons (.base ((encI .i64).blws 0) .ex) (.nil (Nat.zero_le _))))) (rn_b rfl) ?_
 refine E_pt rfl rfl (E_mv (v' := .bool vis_29.1) rfl (E_nil ?_))
 exact E_jx _ h (wk_rn [some (0, 0)] rfl (Nat.le_of_ble_eq_true rfl) ⟨(rn_obS rfl rfl (.cons (rn_b (Graph.enc.blws 0)) (.cons (rn_b (cp_blw (Graph.enc.blw _ 0))) (.cons (rn_b rfl) (.nil (Nat.zero_le _))))) rfl), trivial⟩ ⟨(rn_b rfl), trivial⟩)
 }
 {
 rw [ite_f hb] at h
 refine E_gm rfl (E_gm rfl (E_gm rfl (E_gm rfl (E_pf rfl rfl (E_mv (v' := .bool false) rfl (E_nil ?_))))))
 exact E_jx _ h (wk_rn [some (0, 0)] rfl (Nat.le_of_ble_eq_true rfl) ⟨(rn_obS rfl rfl (.cons (rn_b (Graph.enc.blws 0)) (.cons (rn_b (cp_blw (Graph.enc.blw _ 0))) (.cons (rn_b rfl) (.nil (Nat.zero_le _))))) rfl), trivial⟩ ⟨(rn_b rfl), trivial⟩)
 }
 }
 {
 refine E_ret (E_blr (E_thr ?_))
 cases h
 exact ⟨trivial, _, _, rfl, gwk_rn [some (0, 0)] rfl (Nat.le_of_ble_eq_true rfl) ⟨(rn_obS rfl rfl (.cons (rn_b (Graph.enc.blws 0)) (.cons (rn_b (cp_blw (Graph.enc.blw _ 0))) (.cons (rn_b rfl) (.nil (Nat.zero_le _))))) rfl), trivial⟩, (rn_b rfl)⟩
 }
 }
 {
 rw [ite_f hb] at h
 refine E_sq (E_reg (E_op0 (v' := .bool (n_01.Op == 7)) rfl rfl (E_mv (v' := .bool (n_01.Op == 7)) rfl (E_nil (E_nx ?_)))))
 refine E_cs (t := (n_01.Op == 7)) rfl (fun hb => ?_) (fun hb => ?_)
 {
 rw [ite_t hb] at h
 refine E_jp h (fun s_31 => [(4, (.bool s_31.1))]) (fun s_31 => [.arr 0 [(.sl false 8 (List.map Graph.av s_31.2.1)), (.cptr (Graph.av s_31.2.2.1).cells 0), (.bool s_31.2.2.2)]]) (fun k_30 h => ?_) (fun s_31 h => ?_)
 {
 refine E_reg (E_mv (v' := .ptr 0 0 0) rfl (E_op0 (v' := (.cptr (Node.av n_01).cells 2)) rfl rfl (E_op0 (v' := .int .i64 n_01.D) rfl rfl (E_opw (v' := (.sl true 1 (List.map (avI .i64) [n_01.D]))) rfl (.refl _) rfl ?_))))
 obtain ⟨vis_32, hvis_32, h⟩ := bd_some h
 refine E_callF (S' := [.arr 0 [(.sl false 8 (List.map Graph.av vis_32.2.1)), (.cptr (Graph.av vis_32.2.2.1).cells 0), (.bool vis_32.2.2.2)]]) (r' := (.bool vis_32.1)) (ir_checker_is_pNCN_ev hvis_32) [0] rfl rfl (by decide) rfl rfl ⟨(fr_in rfl rfl (.cons (.base (Graph.enc.blws 0) (.refl _)) (.cons (rn_b (cp_blw (Graph.enc.blw _ 0))) (.cons (.base rfl (.refl _)) (.nil (Nat.zero_le _)))))), trivial⟩ ⟨(fr_outS rfl rfl (.cons (rn_b (Graph.enc.blws 0)) (.cons (rn_b (cp_blw (Graph.enc.blw _ 0))) (.cons (rn_b rfl) (.nil (Nat.zero_le _))))) rfl rfl), trivial⟩ ⟨.inl rfl, trivial⟩ rfl (.cons (fi_ptr rfl rfl rfl rfl) (.cons (.base rfl (.refl _)) (.cons (.base ((encI .i64).blws 0) .ex) (.nil (Nat.zero_le _))))) (rn_b rfl) ?_
 refine E_mv (v' := .bool vis_32.1) rfl ?_
 refine E_gsT (b := vis_32.1) rfl rfl rfl (fun hb => ?_) (fun hb => ?_)
 {
 rw [ite_t hb] at h
 refine E_mv (v' := .ptr 0 0 0) rfl (E_gh rfl (E_op0 (v' := (.cptr (Node.av n_01).cells 4)) rfl rfl (E_gh rfl (E_op0 (v' := .int .i64 n_01.A) rfl rfl (E_gh rfl (E_opw (v' := (.sl true 1 (List.map (avI .i64) [n_01.A]))) rfl (.refl _) rfl (E_gh rfl ?_)))))))
 obtain ⟨vis_33, hvis_33, h⟩ := bd_some h
 refine E_callF (S' := [.arr 0 [(.sl false 8 (List.map Graph.av vis_33.2.1)), (.cptr (Graph.av vis_33.2.2.1).cells 0), (.bool vis_33.2.2.2)]]) (r' := (.bool vis_33.1)) (ir_checker_is_pNCN_ev hvis_33) [0] rfl rfl (by decide) rfl rfl ⟨(fr_in rfl rfl (.cons (.base (Graph.enc.blws 0) (.refl _)) (.cons (rn_b (cp_blw (Graph.enc.blw _ 0))) (.cons (.base rfl (.refl _)) (.nil (Nat.zero_le _)))))), trivial⟩ ⟨(fr_outS rfl rfl (.cons (rn_b (Graph.enc.blws 0)) (.cons (rn_b (cp_blw (Graph.enc.blw _ 0))) (.cons (rn_b rfl) (.nil (Nat.zero_le _))))) rfl rfl), trivial⟩ ⟨.inl rfl, trivial⟩ rfl (.cons (fi_ptr rfl rfl rfl rfl) (.cons (.base rfl (.refl _)) (.cons (.base ((encI .i64).blws 0) .ex) (.nil (Nat.zero_le _))))) (rn_b rfl) ?_
 refine E_pt rfl rfl (E_mv (v' := .bool vis_33.1) rfl (E_nil ?_))
 exact E_jx _ h (wk_rn [some (0, 0)] rfl (Nat.le_of_ble_eq_true rfl) ⟨(rn_obS rfl rfl (.cons (rn_b (Graph.enc.blws 0)) (.cons (rn_b (cp_blw (Graph.enc.blw _ 0))) (.cons (rn_b rfl) (.nil (Nat.zero_le _))))) rfl), trivial⟩ ⟨(rn_b rfl), trivial⟩)
 }
 {
 rw [ite_f hb] at h
 refine E_gm rfl (E_gm rfl (E_gm rfl (E_gm rfl (E_pf rfl rfl (E_mv (v' := .bool false) rfl (E_nil ?_))))))
 exact E_jx _ h (wk_rn [some (0, 0)] rfl (Nat.le_of_ble_eq_true rfl) ⟨(rn_obS rfl rfl (.cons (rn_b (Graph.enc.blws 0)) (.cons (rn_b (cp_blw (Graph.enc.blw _ 0))) (.cons (rn_b rfl) (.nil (Nat.zero_le _))))) rfl), trivial⟩ ⟨(rn_b rfl), trivial⟩)
 }
 }
 {
 refine E_ret (E_blr (E_thr ?_))
 cases h
 exact ⟨trivial, _, _, rfl, gwk_rn [some (0, 0)] rfl (Nat.le_of_ble_eq_true rfl) ⟨(rn_obS rfl rfl (.cons (rn_b (Graph.enc.blws 0)) (.cons (rn_b (cp_blw (Graph.enc.blw _ 0))) (.cons (rn_b rfl) (.nil (Nat.zero_le _))))) rfl), trivial⟩, (rn_b rfl)⟩
 }
 }
 {
 rw [ite_f hb] at h
 refine E_sq (E_reg (E_op0 (v' := .bool (n_01.Op == 8)) rfl rfl (E_mv (v' := .bool (n_01.Op == 8)) rfl (E_nil (E_nx ?_)))))
 refine E_cs (t := (n_01.Op == 8)) rfl (fun hb => ?_) (fun hb => ?_)
 {
 rw [ite_t hb] at h
 refine E_jp h (fun s_35 => [(4, (.bool s_35.1))]) (fun s_35 => [.arr 0 [(.sl false 8 (List.map Graph.av s_35.2.1)), (.cptr (Graph.av s_35.2.2.1).cells 0), (.bool s_35.2.2.2)]]) (fun k_34 h => ?_) (fun s_35 h => ?_)
 {
 refine E_reg (E_mv (v' := .ptr 0 0 0) rfl (E_op0 (v' := (.cptr (Node.av n_01).cells 4)) rfl rfl (E_op0 (v' := .int .i64 n_01.A) rfl rfl (E_opw (v' := (.sl true 1 (List.map (avI .i64) [n_01.A]))) rfl (.refl _) rfl ?_))))
 obtain ⟨vis_36, hvis_36, h⟩ := bd_some h
 refine E_callF (S' := [.arr 0 [(.sl false 8 (List.map Graph.av vis_36.2.1)), (.cptr (Graph.av vis_36.2.2.1).cells 0), (.bool vis_36.2.2.2)]]) (r' := (.bool vis_36.1)) (ir_checker_is_pNCN_ev hvis_36) [0] rfl rfl (by decide) rfl rfl ⟨(fr_in rfl rfl (.cons (.base (Graph.enc.blws 0) (.refl _)) (.cons (rn_b (cp_blw (Graph.enc.blw _ 0))) (.cons (.base rfl (.refl _)) (.nil (Nat.zero_le _)))))), trivial⟩ ⟨(fr_outS rfl rfl (.cons (rn_b (Graph.enc.blws 0)) (.cons (rn_b (cp_blw (Graph.enc.blw _ 0))) (.cons (rn_b rfl) (.nil (Nat.zero_le _))))) rfl rfl), trivial⟩ ⟨.inl rfl, trivial⟩ rfl (.cons (fi_ptr rfl rfl rfl rfl) (.cons (.base rfl (.refl _)) (.cons (.base ((encI .i64).blws 0) .ex) (.nil (Nat.zero_le _))))) (rn_b rfl) ?_
 refine E_mv (v' := .bool vis_36.1) rfl ?_
 refine E_gsT (b := vis_36.1) rfl rfl rfl (fun hb => ?_) (fun hb => ?_)
 {
 rw [ite_t hb] at h
 refine E_mv (v' := .ptr 0 0 0) rfl (E_gh rfl (E_op0 (v' := (.cptr (Node.av n_01).cells 5)) rfl rfl (E_gh rfl (E_op0 (v' := .int .i64 n_01.B) rfl rfl (E_gh rfl (E_opw (v' := (.sl true 1 (List.map (avI .i64) [n_01.B]))) rfl (.refl _) rfl (E_gh rfl ?_)))))))
 obtain ⟨vis_37, hvis_37, h⟩ := bd_some h
 refine E_callF (S' := [.arr 0 [(.sl false 8 (List.map Graph.av vis_37.2.1)), (.cptr (Graph.av vis_37.2.2.1).cells 0), (.bool vis_37.2.2.2)]]) (r' := (.bool vis_37.1)) (ir_checker_is_pNCN_ev hvis_37) [0] rfl rfl (by decide) rfl rfl ⟨(fr_in rfl rfl (.cons (.base (Graph.enc.blws 0) (.refl _)) (.cons (rn_b (cp_blw (Graph.enc.blw _ 0))) (.cons (.base rfl (.refl _)) (.nil (Nat.zero_le _)))))), trivial⟩ ⟨(fr_outS rfl rfl (.cons (rn_b (Graph.enc.blws 0)) (.cons (rn_b (cp_blw (Graph.enc.blw _ 0))) (.cons (rn_b rfl) (.nil (Nat.zero_le _))))) rfl rfl), trivial⟩ ⟨.inl rfl, trivial⟩ rfl (.cons (fi_ptr rfl rfl rfl rfl) (.cons (.base rfl (.refl _)) (.cons (.base ((encI .i64).blws 0) .ex) (.nil (Nat.zero_le _))))) (rn_b rfl) ?_
 refine E_pt rfl rfl (E_mv (v' := .bool vis_37.1) rfl (E_nil ?_))
 exact E_jx _ h (wk_rn [some (0, 0)] rfl (Nat.le_of_ble_eq_true rfl) ⟨(rn_obS rfl rfl (.cons (rn_b (Graph.enc.blws 0)) (.cons (rn_b (cp_blw (Graph.enc.blw _ 0))) (.cons (rn_b rfl) (.nil (Nat.zero_le _))))) rfl), trivial⟩ ⟨(rn_b rfl), trivial⟩)
 }
 {
 rw [ite_f hb] at h
 refine E_gm rfl (E_gm rfl (E_gm rfl (E_gm rfl (E_pf rfl rfl (E_mv (v' := .bool false) rfl (E_nil ?_))))))
 exact E_jx _ h (wk_rn [some (0, 0)] rfl (Nat.le_of_ble_eq_true rfl) ⟨(rn_obS rfl rfl (.cons (rn_b (Graph.enc.blws 0)) (.cons (rn_b (cp_blw (Graph.enc.blw _ 0))) (.cons (rn_b rfl) (.nil (Nat.zero_le _))))) rfl), trivial⟩ ⟨(rn_b rfl), trivial⟩)
 }
 }
 {
 refine E_ret (E_blr (E_thr ?_))
 cases h
 exact ⟨trivial, _, _, rfl, gwk_rn [some (0, 0)] rfl (Nat.le_of_ble_eq_true rfl) ⟨(rn_obS rfl rfl (.cons (rn_b (Graph.enc.blws 0)) (.cons (rn_b (cp_blw (Graph.enc.blw _ 0))) (.cons (rn_b rfl) (.nil (Nat.zero_le _))))) rfl), trivial⟩, (rn_b rfl)⟩
 }
 }
 {
 rw [ite_f hb] at h
 refine E_sq (E_reg (E_op0 (v' := .bool (n_01.Op == 10)) rfl rfl (E_mv (v' := .bool (n_01.Op == 10)) rfl (E_nil (E_nx ?_)))))
 refine E_cs (t := (n_01.Op == 10)) rfl (fun hb => ?_) (fun hb => ?_)
 {
 rw [ite_t hb] at h
 refine E_sq (E_reg (E_mv (v' := .bool true) rfl (E_nil (E_nx (E_ret (E_blr (E_thr ?_)))))))
 cases h
 exact ⟨trivial, _, _, rfl, gwk_rn [some (0, 0)] rfl (Nat.le_of_ble_eq_true rfl) ⟨(rn_obS rfl rfl (.cons (rn_b (Graph.enc.blws 0)) (.cons (rn_b (cp_blw (Graph.enc.blw _ 0))) (.cons (rn_b rfl) (.nil (Nat.zero_le _))))) rfl), trivial⟩, (rn_b rfl)⟩
 }
 {
 rw [ite_f hb] at h
 refine E_as (E_sq (E_reg (E_op0 (v' := .bool (n_01.Op == 9)) rfl rfl (E_mv (v' := .bool (n_01.Op == 9)) rfl (E_nil (E_nx ?_))))))
 refine E_jp h (fun s_39 => [(0, (.ptr 0 0 0)), (3, (.cptr (Node.av n_01).cells 0)), (30, (.int .u8 n_01.Op)), (147, (.bool s_39))]) (fun s_39 => [.arr 0 [(.sl false 8 (List.map Graph.av c_all_00)), (.cptr (Graph.av c_g_00).cells 0), (.bool c_bound_00)]]) (fun k_38 h => ?_) (fun s_39 h => ?_)
 {
 refine E_cs (t := (n_01.Op == 9)) rfl (fun hb => ?_) (fun hb => ?_)
 {
 rw [ite_t hb] at h
 refine E_skip ?_
 exact E_jx _ h (wk_rn [some (0, 0)] rfl (Nat.le_of_ble_eq_true rfl) ⟨(rn_obS rfl rfl (.cons (rn_b (Graph.enc.blws 0)) (.cons (rn_b (cp_blw (Graph.enc.blw _ 0))) (.cons (rn_b rfl) (.nil (Nat.zero_le _))))) rfl), trivial⟩ ⟨(rn_ptr rfl rfl rfl rfl), (rn_b (cp_blw (Node.enc.blw _ 0))), (rn_b rfl), (rn_b rfl), trivial⟩)
 }
 {
 rw [ite_f hb] at h
 refine E_sq (E_reg (E_op0 (v' := .bool (n_01.Op == 14)) rfl rfl (E_mv (v' := .bool (n_01.Op == 14)) rfl (E_nil (E_nx ?_)))))
 refine E_cs (t := (n_01.Op == 14)) rfl (fun hb => ?_) (fun hb => ?_)
 {
 rw [ite_t hb] at h
 refine E_skip ?_
 exact E_jx _ h (wk_rn [some (0, 0)] rfl (Nat.le_of_ble_eq_true rfl) ⟨(rn_obS rfl rfl (.cons (rn_b (Graph.enc.blws 0)) (.cons (rn_b (cp_blw (Graph.enc.blw _ 0))) (.cons (rn_b rfl) (.nil (Nat.zero_le _))))) rfl), trivial⟩ ⟨(rn_ptr rfl rfl rfl rfl), (rn_b (cp_blw (Node.enc.blw _ 0))), (rn_b rfl), (rn_b rfl), trivial⟩)
 }
 {
 rw [ite_f hb] at h
 refine E_sq (E_reg (E_op0 (v' := .bool (n_01.Op == 18)) rfl rfl (E_mv (v' := .bool (n_01.Op == 18)) rfl (E_nil (E_nx ?_)))))
 refine E_cs (t := (n_01.Op == 18)) rfl (fun hb => ?_) (fun hb => ?_)
 {
 rw [ite_t hb] at h
 refine E_skip ?_
 exact E_jx _ h (wk_rn [some (0, 0)] rfl (Nat.le_of_ble_eq_true rfl) ⟨(rn_obS rfl rfl (.cons (rn_b (Graph.enc.blws 0)) (.cons (rn_b (cp_blw (Graph.enc.blw _ 0))) (.cons (rn_b rfl) (.nil (Nat.zero_le _))))) rfl), trivial⟩ ⟨(rn_ptr rfl rfl rfl rfl), (rn_b (cp_blw (Node.enc.blw _ 0))), (rn_b rfl), (rn_b rfl), trivial⟩)
 }
 {
 rw [ite_f hb] at h
 refine E_reg (E_op0 (v' := .bool (n_01.Op == 17)) rfl rfl (E_mv (v' := .bool (n_01.Op == 17)) rfl (E_nil ?_)))
 exact E_jx _ h (wk_rn [some (0, 0)] rfl (Nat.le_of_ble_eq_true rfl) ⟨(rn_obS rfl rfl (.cons (rn_b (Graph.enc.blws 0)) (.cons (rn_b (cp_blw (Graph.enc.blw _ 0))) (.cons (rn_b rfl) (.nil (Nat.zero_le _))))) rfl), trivial⟩ ⟨(rn_ptr rfl rfl rfl rfl), (rn_b (cp_blw (Node.enc.blw _ 0))), (rn_b rfl), (rn_b rfl), trivial⟩)
 }
 }
 }
 }
 {
 refine E_cs (t := s_39) rfl (fun hb => ?_) (fun hb => ?_)
 {
 rw [ite_t hb] at h
 refine E_sq (E_reg (E_mv (v' := .ptr 0 0 0) rfl (E_op0 (v' := (.cptr (Node.av n_01).cells 4)) rfl rfl (E_op0 (v' := .int .i64 n_01.A) rfl rfl (E_opw (v' := (.sl true 1 (List.map (avI .i64) [n_01.A]))) rfl (.refl _) rfl ?_)))))
 obtain ⟨vis_40, hvis_40, h⟩ := bd_some h
 refine E_callF (S' := [.arr 0 [(.sl false 8 (List.map Graph.av vis_40.2.1)), (.cptr (Graph.av vis_40.2.2.1).cells 0), (.bool vis_40.2.2.2)]]) (r' := (.bool vis_40.1)) (ir_checker_is_pNCN_ev hvis_40) [0] rfl rfl (by decide) rfl rfl ⟨(fr_in rfl rfl (.cons (.base (Graph.enc.blws 0) (.refl _)) (.cons (rn_b (cp_blw (Graph.enc.blw _ 0))) (.cons (.base rfl (.refl _)) (.nil (Nat.zero_le _)))))), trivial⟩ ⟨(fr_outS rfl rfl (.cons (rn_b (Graph.enc.blws 0)) (.cons (rn_b (cp_blw (Graph.enc.blw _ 0))) (.cons (rn_b rfl) (.nil (Nat.zero_le _))))) rfl rfl), trivial⟩ ⟨.inl rfl, trivial⟩ rfl (.cons (fi_ptr rfl rfl rfl rfl) (.cons (.base rfl (.refl _)) (.cons (.base ((encI .i64).blws 0) .ex) (.nil (Nat.zero_le _))))) (rn_b rfl) ?_
 refine E_mv (v' := .bool vis_40.1) rfl (E_nil (E_nx (E_ret (E_blr (E_thr ?_)))))
 cases h
 exact ⟨trivial, _, _, rfl, gwk_rn [some (0, 0)] rfl (Nat.le_of_ble_eq_true rfl) ⟨(rn_obS rfl rfl (.cons (rn_b (Graph.enc.blws 0)) (.cons (rn_b (cp_blw (Graph.enc.blw _ 0))) (.cons (rn_b rfl) (.nil (Nat.zero_le _))))) rfl), trivial⟩, (rn_b rfl)⟩
 }
 {
 rw [ite_f hb] at h
 refine E_sq (E_reg (E_op0 (v' := .bool (n_01.Op == 15)) rfl rfl (E_mv (v' := .bool (n_01.Op == 15)) rfl (E_nil (E_nx ?_)))))
 refine E_cs (t := (n_01.Op == 15)) rfl (fun hb => ?_) (fun hb => ?_)
 {
 rw [ite_t hb] at h
 refine E_jp h (fun s_42 => [(4, (.bool s_42.1))]) (fun s_42 => [.arr 0 [(.sl false 8 (List.map Graph.av s_42.2.1)), (.cptr (Graph.av s_42.2.2.1).cells 0), (.bool s_42.2.2.2)]]) (fun k_41 h => ?_) (fun s_42 h => ?_)
 {
 refine E_reg (E_op0 (v' := (.cptr (Node.av n_01).cells 2)) rfl rfl (E_op0 (v' := .int .i64 n_01.D) rfl rfl (E_op0 (v' := (.cptr (Node.av n_01).cells 3)) rfl rfl (E_op0 (v' := .int .i64 n_01.E) rfl rfl (E_op0 (v' := .bool (n_01.D != n_01.E)) rfl rfl (E_mv (v' := .bool (n_01.D != n_01.E)) rfl ?_))))))
 refine E_gsT (b := (n_01.D != n_01.E)) rfl rfl rfl (fun hb => ?_) (fun hb => ?_)
 {
 rw [ite_t hb] at h
 refine E_mv (v' := .ptr 0 0 0) rfl (E_gh rfl (E_op0 (v' := (.cptr (Node.av n_01).cells 2)) rfl rfl (E_gh rfl (E_op0 (v' := .int .i64 n_01.D) rfl rfl (E_gh rfl (E_op0 (v' := (.cptr (Node.av n_01).cells 3)) rfl rfl (E_gh rfl (E_op0 (v' := .int .i64 n_01.E) rfl rfl (E_gh rfl (E_opw (v' := (.sl true 1 (List.map (avI .i64) [n_01.D, n_01.E]))) rfl (.refl _) rfl (E_gh rfl ?_)))))))))))
 obtain ⟨vis_43, hvis_43, h⟩ := bd_some h
 refine E_callF (S' := [.arr 0 [(.sl false 8 (List.map Graph.av vis_43.2.1)), (.cptr (Graph.av vis_43.2.2.1).cells 0), (.bool vis_43.2.2.2)]]) (r' := (.bool vis_43.1)) (ir_checker_is_pNCN_ev hvis_43) [0] rfl rfl (by decide) rfl rfl ⟨(fr_in rfl rfl (.cons (.base (Graph.enc.blws 0) (.refl _)) (.cons (rn_b (cp_blw (Graph.enc.blw _ 0))) (.cons (.base rfl (.refl _)) (.nil (Nat.zero_le _)))))), trivial⟩ ⟨(fr_outS rfl rfl (.cons (rn_b (Graph.enc.blws 0)) (.cons (rn_b (cp_blw (Graph.enc.blw _ 0))) (.cons (rn_b rfl) (.nil (Nat.zero_le _))))) rfl rfl), trivial⟩ ⟨.inl rfl, trivial⟩ rfl (.cons (fi_ptr rfl rfl rfl rfl) (.cons (.base rfl (.refl _)) (.cons (.base ((encI .i64).blws 0) .ex) (.nil (Nat.zero_le _))))) (rn_b rfl) ?_
 refine E_pt rfl rfl (E_mv (v' := .bool vis_43.1) rfl (E_nil ?_))
 exact E_jx _ h (wk_rn [some (0, 0)] rfl (Nat.le_of_ble_eq_true rfl) ⟨(rn_obS rfl rfl (.cons (rn_b (Graph.enc.blws 0)) (.cons (rn_b (cp_blw (Graph.enc.blw _ 0))) (.cons (rn_b rfl) (.nil (Nat.zero_le _))))) rfl), trivial⟩ ⟨(rn_b rfl), trivial⟩)
 }
 {
 rw [ite_f hb] at h
 refine E_gm rfl (E_gm rfl (E_gm rfl (E_gm rfl (E_gm rfl (E_gm rfl (E_pf rfl rfl (E_mv (v' := .bool false) rfl (E_nil ?_))))))))
 exact E_jx _ h (wk_rn [some (0, 0)] rfl (Nat.le_of_ble_eq_true rfl) ⟨(rn_obS rfl rfl (.cons (rn_b (Graph.enc.blws 0)) (.cons (rn_b (cp_blw (Graph.enc.blw _ 0))) (.cons (rn_b rfl) (.nil (Nat.zero_le _))))) rfl), trivial⟩ ⟨(rn_b rfl), trivial⟩)
 }
 }
 {
 refine E_ret (E_blr (E_thr ?_))
 cases h
 exact ⟨trivial, _, _, rfl, gwk_rn [some (0, 0)] rfl (Nat.le_of_ble_eq_true rfl) ⟨(rn_obS rfl rfl (.cons (rn_b (Graph.enc.blws 0)) (.cons (rn_b (cp_blw (Graph.enc.blw _ 0))) (.cons (rn_b rfl) (.nil (Nat.zero_le _))))) rfl), trivial⟩, (rn_b rfl)⟩
 }
 }
 {
 rw [ite_f hb] at h
 refine E_sq (E_reg (E_op0 (v' := .bool (n_01.Op == 13)) rfl rfl (E_mv (v' := .bool (n_01.Op == 13)) rfl (E_nil (E_nx ?_)))))
 refine E_cs (t := (n_01.Op == 13)) rfl (fun hb => ?_) (fun hb => ?_)
 {
 rw [ite_t hb] at h
 refine E_sq (E_reg (E_mv (v' := .ptr 0 0 0) rfl (E_op0 (v' := (Node.av n_01)) rfl rfl ?_)))
 obtain ⟨arg_44, harg_44, h⟩ := bd_some h
 refine E_callF (S' := [.arr 0 [(.sl false 8 (List.map Graph.av arg_44.2.1)), (.cptr (Graph.av arg_44.2.2.1).cells 0), (.bool arg_44.2.2.2)]]) (r' := (.bool arg_44.1)) (ir_checker_args_pNCN_ev harg_44) [0] rfl rfl (by decide) rfl rfl ⟨(fr_in rfl rfl (.cons (.base (Graph.enc.blws 0) (.refl _)) (.cons (rn_b (cp_blw (Graph.enc.blw _ 0))) (.cons (.base rfl (.refl _)) (.nil (Nat.zero_le _)))))), trivial⟩ ⟨(fr_outS rfl rfl (.cons (rn_b (Graph.enc.blws 0)) (.cons (rn_b (cp_blw (Graph.enc.blw _ 0))) (.cons (rn_b rfl) (.nil (Nat.zero_le _))))) rfl rfl), trivial⟩ ⟨.inl rfl, trivial⟩ rfl (.cons (fi_ptr rfl rfl rfl rfl) (.cons (.base (Node.enc.blw _ 0) (.refl _)) (.nil (Nat.zero_le _)))) (rn_b rfl) ?_
 refine E_mv (v' := .bool arg_44.1) rfl (E_nil (E_nx (E_ret (E_blr (E_thr ?_)))))
 cases h
 exact ⟨trivial, _, _, rfl, gwk_rn [some (0, 0)] rfl (Nat.le_of_ble_eq_true rfl) ⟨(rn_obS rfl rfl (.cons (rn_b (Graph.enc.blws 0)) (.cons (rn_b (cp_blw (Graph.enc.blw _ 0))) (.cons (rn_b rfl) (.nil (Nat.zero_le _))))) rfl), trivial⟩, (rn_b rfl)⟩
 }
 {
 rw [ite_f hb] at h
 refine E_sq (E_reg (E_op0 (v' := .bool (n_01.Op == 11)) rfl rfl (E_mv (v' := .bool (n_01.Op == 11)) rfl (E_nil (E_nx ?_)))))
 refine E_cs (t := (n_01.Op == 11)) rfl (fun hb => ?_) (fun hb => ?_)
 {
 rw [ite_t hb] at h
 refine E_jp h (fun s_46 => [(4, (.bool s_46.1))]) (fun s_46 => [.arr 0 [(.sl false 8 (List.map Graph.av s_46.2.1)), (.cptr (Graph.av s_46.2.2.1).cells 0), (.bool s_46.2.2.2)]]) (fun k_45 h => ?_) (fun s_46 h => ?_)
 {
 refine E_reg (E_mv (v' := .ptr 0 0 0) rfl (E_op0 (v' := (Node.av n_01)) rfl rfl ?_))
 obtain ⟨arg_47, harg_47, h⟩ := bd_some h
 refine E_callF (S' := [.arr 0 [(.sl false 8 (List.map Graph.av arg_47.2.1)), (.cptr (Graph.av arg_47.2.2.1).cells 0), (.bool arg_47.2.2.2)]]) (r' := (.bool arg_47.1)) (ir_checker_args_pNCN_ev harg_47) [0] rfl rfl (by decide) rfl rfl ⟨(fr_in rfl rfl (.cons (.base (Graph.enc.blws 0) (.refl _)) (.cons (rn_b (cp_blw (Graph.enc.blw _ 0))) (.cons (.base rfl (.refl _)) (.nil (Nat.zero_le _)))))), trivial⟩ ⟨(fr_outS rfl rfl (.cons (rn_b (Graph.enc.blws 0)) (.cons (rn_b (cp_blw (Graph.enc.blw _ 0))) (.cons (rn_b rfl) (.nil (Nat.zero_le _))))) rfl rfl), trivial⟩ ⟨.inl rfl, trivial⟩ rfl (.cons (fi_ptr rfl rfl rfl rfl) (.cons (.base (Node.enc.blw _ 0) (.refl _)) (.nil (Nat.zero_le _)))) (rn_b rfl) ?_
 refine E_mv (v' := .bool arg_47.1) rfl ?_
 refine E_gsT (b := arg_47.1) rfl rfl rfl (fun hb => ?_) (fun hb => ?_)
 {
 rw [ite_t hb] at h
 refine E_op0 (v' := (.cptr (Node.av n_01).cells 2)) rfl rfl (E_gh rfl (E_op0 (v' := .int .i64 n_01.D) rfl rfl (E_gh rfl (E_op0 (v' := (.bool (n_01.D == (-1)))) rfl rfl (E_gh rfl (E_mv (v' := (.bool (n_01.D == (-1)))) rfl ?_))))))
 refine E_gsT (b := (n_01.D == (-1))) rfl rfl rfl (fun hb => ?_) (fun hb => ?_)
 {
 rw [ite_f hb] at h
 refine E_mv (v' := .ptr 0 0 0) rfl (E_gh rfl (E_op0 (v' := (.cptr (Node.av n_01).cells 2)) rfl rfl (E_gh rfl (E_op0 (v' := .int .i64 n_01.D) rfl rfl (E_gh rfl (E_opw (v' := (.sl true 1 (List.map (avI .i64) [n_01.D]))) rfl (.refl _) rfl (E_gh rfl ?_)))))))
 obtain ⟨vis_48, hvis_48, h⟩ := bd_some h
 refine E_callF (S' := [.arr 0 [(.sl false 8 (List.map Graph.av vis_48.2.1)), (.cptr (Graph.av vis_48.2.2.1).cells 0), (.bool vis_48.2.2.2)]]) (r' := (.bool vis_48.1)) (ir_checker_is_pNCN_ev hvis_48) [0] rfl rfl (by decide) rfl rfl ⟨(fr_in rfl rfl (.cons (.base (Graph.enc.blws 0) (.refl _)) (.cons (rn_b (cp_blw (Graph.enc.blw _ 0))) (.cons (.base rfl (.refl _)) (.nil (Nat.zero_le _)))))), trivial⟩ ⟨(fr_outS rfl rfl (.cons (rn_b (Graph.enc.blws 0)) (.cons (rn_b (cp_blw (Graph.enc.blw _ 0))) (.cons (rn_b rfl) (.nil (Nat.zero_le _))))) rfl rfl), trivial⟩ ⟨.inl rfl, trivial⟩ rfl (.cons (fi_ptr rfl rfl rfl rfl) (.cons (.base rfl (.refl _)) (.cons (.base ((encI .i64).blws 0) .ex) (.nil (Nat.zero_le _))))) (rn_b rfl) ?_
 refine E_gh rfl (E_mv (v' := .bool vis_48.1) rfl ?_)
 refine E_gsT (b := vis_48.1) rfl rfl rfl (fun hb => ?_) (fun hb => ?_)
 {
 rw [ite_t hb] at h
 refine E_mv (v' := .ptr 0 0 0) rfl (E_gh rfl (E_op0 (v' := .ptr 0 0 0) rfl rfl (E_gh rfl (E_op0 (v' := .ptr 0 0 0) rfl rfl (E_gh rfl (E_op (v' := .sl false 8 (List.map Graph.av vis_48.2.1)) (S' := [.arr 0 [(.sl false 8 (List.map Graph.av vis_48.2.1)), (.cptr (Graph.av vis_48.2.2.1).cells 0), (.bool vis_48.2.2.2)]]) rfl rfl rfl (E_gh rfl (E_op0 (v' := (.cptr (Node.av n_01).cells 6)) rfl rfl (E_gh rfl (E_op0 (v' := .int .i64 n_01.F) rfl rfl (E_gh rfl ?_)))))))))))
 obtain ⟨y_49, hy_49, h⟩ := bd_some h
 refine E_iadF rfl rfl hy_49 (E_gh rfl (E_op0 (v' := (.cptr (Graph.av y_49).cells 4)) rfl rfl (E_gh rfl (E_op0 (v' := .bool y_49.Result) rfl rfl (E_gh rfl (E_pt rfl rfl (E_gh rfl (E_mv (v' := .bool y_49.Result) rfl ?_))))))))
 refine E_gsT (b := y_49.Result) rfl rfl rfl (fun hb => ?_) (fun hb => ?_)
 {
 rw [ite_t hb] at h
 refine E_mv (v' := .ptr 0 0 0) rfl (E_gh rfl (E_op0 (v' := .ptr 0 0 0) rfl rfl (E_gh rfl (E_op0 (v' := .ptr 0 0 2) rfl rfl (E_gh rfl (E_op (v' := .bool vis_48.2.2.2) (S' := [.arr 0 [(.sl false 8 (List.map Graph.av vis_48.2.1)), (.cptr (Graph.av vis_48.2.2.1).cells 0), (.bool vis_48.2.2.2)]]) rfl rfl rfl (E_gh rfl (E_op0 (v' := .bool (!vis_48.2.2.2)) rfl rfl (E_gh rfl (E_mv (v' := .bool (!vis_48.2.2.2)) rfl ?_))))))))))
 refine E_gsT (b := (!vis_48.2.2.2)) rfl rfl rfl (fun hb => ?_) (fun hb => ?_)
 {
 rw [ite_f hb] at h
 refine E_op0 (v' := (.cptr (Node.av n_01).cells 2)) rfl rfl (E_gh rfl (E_op0 (v' := .int .i64 n_01.D) rfl rfl (E_gh rfl (E_op0 (v' := .bool (n_01.D == 0)) rfl rfl (E_gh rfl (E_pf rfl rfl (E_gh rfl (E_pt rfl rfl (E_gh rfl (E_pf rfl rfl (E_pt rfl rfl (E_mv (v' := .bool (n_01.D == 0)) rfl (E_nil ?_)))))))))))))
 exact E_jx _ h (wk_rn [some (0, 0)] rfl (Nat.le_of_ble_eq_true rfl) ⟨(rn_obS rfl rfl (.cons (rn_b (Graph.enc.blws 0)) (.cons (rn_b (cp_blw (Graph.enc.blw _ 0))) (.cons (rn_b rfl) (.nil (Nat.zero_le _))))) rfl), trivial⟩ ⟨(rn_b rfl), trivial⟩)
 }
 {
 rw [ite_t hb] at h
 refine E_gm rfl (E_gm rfl (E_gh rfl (E_pt rfl rfl (E_gh rfl (E_pt rfl rfl (E_gh rfl (E_pf rfl rfl (E_pt rfl rfl (E_mv (v' := .bool true) rfl (E_nil ?_))))))))))
 exact E_jx _ h (wk_rn [some (0, 0)] rfl (Nat.le_of_ble_eq_true rfl) ⟨(rn_obS rfl rfl (.cons (rn_b (Graph.enc.blws 0)) (.cons (rn_b (cp_blw (Graph.enc.blw _ 0))) (.cons (rn_b rfl) (.nil (Nat.zero_le _))))) rfl), trivial⟩ ⟨(rn_b rfl), trivial⟩)
 }
 }
 {
 rw [ite_f hb] at h
 refine E_gm rfl (E_gm rfl (E_gm rfl (E_gm rfl (E_gm rfl (E_gz rfl (E_gz rfl (E_gz rfl (E_gm rfl (E_gh rfl (E_pf rfl rfl (E_gh rfl (E_pf rfl rfl (E_pt rfl rfl (E_mv (v' := .bool false) rfl (E_nil ?_)))))))))))))))
 exact E_jx _ h (wk_rn [some (0, 0)] rfl (Nat.le_of_ble_eq_true rfl) ⟨(rn_obS rfl rfl (.cons (rn_b (Graph.enc.blws 0)) (.cons (rn_b (cp_blw (Graph.enc.blw _ 0))) (.cons (rn_b rfl) (.nil (Nat.zero_le _))))) rfl), trivial⟩ ⟨(rn_b rfl), trivial⟩)
 }
 }
 {
 rw [ite_f hb] at h
 refine E_gm rfl (E_gm rfl (E_gm rfl (E_gm rfl (E_gm rfl (E_gm rfl (E_gm rfl (E_gm rfl (E_gh rfl (E_pf rfl rfl (E_gh rfl (E_mv (v' := .bool false) rfl (E_gm rfl (E_gm rfl (E_gm rfl (E_gm rfl ?_)))))))))))))))
 refine E_gm rfl (E_gm rfl (E_gz rfl (E_gz rfl (E_gz rfl (E_gm rfl (E_gh rfl (E_pf rfl rfl (E_gh rfl (E_pf rfl rfl (E_pt rfl rfl (E_mv (v' := .bool false) rfl (E_nil ?_))))))))))))
 exact E_jx _ h (wk_rn [some (0, 0)] rfl (Nat.le_of_ble_eq_true rfl) ⟨(rn_obS rfl rfl (.cons (rn_b (Graph.enc.blws 0)) (.cons (rn_b (cp_blw (Graph.enc.blw _ 0))) (.cons (rn_b rfl) (.nil (Nat.zero_le _))))) rfl), trivial⟩ ⟨(rn_b rfl), trivial⟩)
 }
 }
 {
 rw [ite_t hb] at h
 refine E_gm rfl (E_gm rfl (E_gm rfl (E_gm rfl (E_gm rfl (E_gz rfl (E_gz rfl (E_gz rfl (E_gz rfl (E_gz rfl (E_gz rfl (E_gz rfl (E_gz rfl (E_gz rfl (E_gm rfl (E_gm rfl ?_)))))))))))))))
 refine E_gz rfl (E_gz rfl (E_gz rfl (E_gz rfl (E_gz rfl (E_gz rfl (E_gz rfl (E_gz rfl (E_gz rfl (E_gz rfl (E_gm rfl (E_gh rfl (E_pt rfl rfl (E_pt rfl rfl (E_mv (v' := .bool true) rfl (E_nil ?_)))))))))))))))
 exact E_jx _ h (wk_rn [some (0, 0)] rfl (Nat.le_of_ble_eq_true rfl) ⟨(rn_obS rfl rfl (.cons (rn_b (Graph.enc.blws 0)) (.cons (rn_b (cp_blw (Graph.enc.blw _ 0))) (.cons (rn_b rfl) (.nil (Nat.zero_le _))))) rfl), trivial⟩ ⟨(rn_b rfl), trivial⟩)
 }
 }
 {
 rw [ite_f hb] at h
 refine E_gm rfl (E_gm rfl (E_gm rfl (E_gz rfl (E_gz rfl (E_gz rfl (E_gz rfl (E_gz rfl (E_gz rfl (E_gz rfl (E_gz rfl (E_gz rfl (E_gz rfl (E_gz rfl (E_gz rfl (E_gz rfl ?_)))))))))))))))
 refine E_gz rfl (E_gz rfl (E_gz rfl (E_gz rfl (E_gz rfl (E_gz rfl (E_gz rfl (E_gz rfl (E_gz rfl (E_gz rfl (E_gz rfl (E_gz rfl (E_gz rfl (E_gz rfl (E_gz rfl (E_gm rfl ?_)))))))))))))))
 refine E_pf rfl rfl (E_mv (v' := .bool false) rfl (E_nil ?_))
 exact E_jx _ h (wk_rn [some (0, 0)] rfl (Nat.le_of_ble_eq_true rfl) ⟨(rn_obS rfl rfl (.cons (rn_b (Graph.enc.blws 0)) (.cons (rn_b (cp_blw (Graph.enc.blw _ 0))) (.cons (rn_b rfl) (.nil (Nat.zero_le _))))) rfl), trivial⟩ ⟨(rn_b rfl), trivial⟩)
 }
 }
 {
 refine E_ret (E_blr (E_thr ?_))
 cases h
 exact ⟨trivial, _, _, rfl, gwk_rn [some (0, 0)] rfl (Nat.le_of_ble_eq_true rfl) ⟨(rn_obS rfl rfl (.cons (rn_b (Graph.enc.blws 0)) (.cons (rn_b (cp_blw (Graph.enc.blw _ 0))) (.cons (rn_b rfl) (.nil (Nat.zero_le _))))) rfl), trivial⟩, (rn_b rfl)⟩
 }
 }
 {
 rw [ite_f hb] at h
 refine E_sq (E_reg (E_op0 (v' := .bool (n_01.Op == 12)) rfl rfl (E_mv (v' := .bool (n_01.Op == 12)) rfl (E_nil (E_nx ?_)))))
 refine E_cs (t := (n_01.Op == 12)) rfl (fun hb => ?_) (fun hb => ?_)
 {
 rw [ite_t hb] at h
 refine E_jp h (fun s_51 => [(4, (.bool s_51.1))]) (fun s_51 => [.arr 0 [(.sl false 8 (List.map Graph.av s_51.2.1)), (.cptr (Graph.av s_51.2.2.1).cells 0), (.bool s_51.2.2.2)]]) (fun k_50 h => ?_) (fun s_51 h => ?_)
 {
 refine E_reg (E_op0 (v' := (.cptr (Node.av n_01).cells 4)) rfl rfl (E_op0 (v' := .int .i64 n_01.A) rfl rfl (E_op0 (v' := (.bool (n_01.A == (-1)))) rfl rfl (E_mv (v' := (.bool (n_01.A == (-1)))) rfl ?_))))
 refine E_gsT (b := (n_01.A == (-1))) rfl rfl rfl (fun hb => ?_) (fun hb => ?_)
 {
 rw [ite_t hb] at h
 refine E_mv (v' := .ptr 0 0 0) rfl (E_gh rfl (E_op0 (v' := .ptr 0 0 0) rfl rfl (E_gh rfl (E_op0 (v' := .ptr 0 0 1) rfl rfl (E_gh rfl (E_op (v' := (.cptr (Graph.av c_g_00).cells 0)) (S' := [.arr 0 [(.sl false 8 (List.map Graph.av c_all_00)), (.cptr (Graph.av c_g_00).cells 0), (.bool c_bound_00)]]) rfl rfl rfl (E_gh rfl (E_op0 (v' := (.cptr (Graph.av c_g_00).cells 0)) rfl rfl (E_gh rfl (E_op0 (v' := (.cptr (Graph.av c_g_00).cells 4)) rfl rfl (E_gh rfl (E_op0 (v' := .bool c_g_00.Result) rfl rfl (E_gh rfl (E_op0 (v' := .bool (!c_g_00.Result)) rfl rfl (E_pt rfl rfl ?_)))))))))))))))
 refine E_mv (v' := .bool (!c_g_00.Result)) rfl ?_
 refine E_gsT (b := (!c_g_00.Result)) rfl rfl rfl (fun hb => ?_) (fun hb => ?_)
 {
 rw [ite_f hb] at h
 refine E_op0 (v' := (.cptr (Node.av n_01).cells 4)) rfl rfl (E_gh rfl (E_op0 (v' := .int .i64 n_01.A) rfl rfl (E_gh rfl (E_op0 (v' := (.bool (n_01.A != (-1)))) rfl rfl (E_gh rfl (E_mv (v' := (.bool (n_01.A != (-1)))) rfl ?_))))))
 refine E_gsT (b := (n_01.A != (-1))) rfl rfl rfl (fun hb => ?_) (fun hb => ?_)
 {
 rw [ite_t hb] at h
 refine E_mv (v' := .ptr 0 0 0) rfl (E_gh rfl (E_op0 (v' := .ptr 0 0 0) rfl rfl (E_gh rfl (E_op0 (v' := .ptr 0 0 1) rfl rfl (E_gh rfl (E_op (v' := (.cptr (Graph.av c_g_00).cells 0)) (S' := [.arr 0 [(.sl false 8 (List.map Graph.av c_all_00)), (.cptr (Graph.av c_g_00).cells 0), (.bool c_bound_00)]]) rfl rfl rfl (E_gh rfl (E_op0 (v' := (.cptr (Graph.av c_g_00).cells 0)) rfl rfl (E_gh rfl (E_op0 (v' := (.cptr (Graph.av c_g_00).cells 4)) rfl rfl (E_gh rfl (E_op0 (v' := .bool c_g_00.Result) rfl rfl (E_gh rfl (E_pt rfl rfl (E_gh rfl ?_)))))))))))))))
 refine E_mv (v' := .bool c_g_00.Result) rfl ?_
 refine E_gsT (b := c_g_00.Result) rfl rfl rfl (fun hb => ?_) (fun hb => ?_)
 {
 rw [ite_t hb] at h
 refine E_mv (v' := .ptr 0 0 0) rfl (E_gh rfl (E_op0 (v' := (.cptr (Node.av n_01).cells 4)) rfl rfl (E_gh rfl (E_op0 (v' := .int .i64 n_01.A) rfl rfl (E_gh rfl (E_opw (v' := (.sl true 1 (List.map (avI .i64) [n_01.A]))) rfl (.refl _) rfl (E_gh rfl ?_)))))))
 obtain ⟨vis_52, hvis_52, h⟩ := bd_some h
 refine E_callF (S' := [.arr 0 [(.sl false 8 (List.map Graph.av vis_52.2.1)), (.cptr (Graph.av vis_52.2.2.1).cells 0), (.bool vis_52.2.2.2)]]) (r' := (.bool vis_52.1)) (ir_checker_is_pNCN_ev hvis_52) [0] rfl rfl (by decide) rfl rfl ⟨(fr_in rfl rfl (.cons (.base (Graph.enc.blws 0) (.refl _)) (.cons (rn_b (cp_blw (Graph.enc.blw _ 0))) (.cons (.base rfl (.refl _)) (.nil (Nat.zero_le _)))))), trivial⟩ ⟨(fr_outS rfl rfl (.cons (rn_b (Graph.enc.blws 0)) (.cons (rn_b (cp_blw (Graph.enc.blw _ 0))) (.cons (rn_b rfl) (.nil (Nat.zero_le _))))) rfl rfl), trivial⟩ ⟨.inl rfl, trivial⟩ rfl (.cons (fi_ptr rfl rfl rfl rfl) (.cons (.base rfl (.refl _)) (.cons (.base ((encI .i64).blws 0) .ex) (.nil (Nat.zero_le _))))) (rn_b rfl) ?_
 refine E_gh rfl (E_pt rfl rfl (E_pf rfl rfl (E_mv (v' := .bool vis_52.1) rfl (E_nil ?_))))
 exact E_jx _ h (wk_rn [some (0, 0)] rfl (Nat.le_of_ble_eq_true rfl) ⟨(rn_obS rfl rfl (.cons (rn_b (Graph.enc.blws 0)) (.cons (rn_b (cp_blw (Graph.enc.blw _ 0))) (.cons (rn_b rfl) (.nil (Nat.zero_le _))))) rfl), trivial⟩ ⟨(rn_b rfl), trivial⟩)
 }
 {
 rw [ite_f hb] at h
 refine E_gm rfl (E_gm rfl (E_gm rfl (E_gm rfl (E_gh rfl (E_pf rfl rfl (E_pf rfl rfl (E_mv (v' := .bool false) rfl (E_nil ?_))))))))
 exact E_jx _ h (wk_rn [some (0, 0)] rfl (Nat.le_of_ble_eq_true rfl) ⟨(rn_obS rfl rfl (.cons (rn_b (Graph.enc.blws 0)) (.cons (rn_b (cp_blw (Graph.enc.blw _ 0))) (.cons (rn_b rfl) (.nil (Nat.zero_le _))))) rfl), trivial⟩ ⟨(rn_b rfl), trivial⟩)
 }
 }
 {
 rw [ite_f hb] at h
 refine E_gm rfl (E_gm rfl (E_gm rfl (E_gm rfl (E_gm rfl (E_gm rfl (E_gh rfl (E_pf rfl rfl (E_gh rfl (E_mv (v' := .bool false) rfl (E_gm rfl (E_gm rfl (E_gm rfl (E_gm rfl (E_gm rfl (E_gh rfl ?_)))))))))))))))
 refine E_pf rfl rfl (E_pf rfl rfl (E_mv (v' := .bool false) rfl (E_nil ?_)))
 exact E_jx _ h (wk_rn [some (0, 0)] rfl (Nat.le_of_ble_eq_true rfl) ⟨(rn_obS rfl rfl (.cons (rn_b (Graph.enc.blws 0)) (.cons (rn_b (cp_blw (Graph.enc.blw _ 0))) (.cons (rn_b rfl) (.nil (Nat.zero_le _))))) rfl), trivial⟩ ⟨(rn_b rfl), trivial⟩)
 }
 }
 {
 rw [ite_t hb] at h
 refine E_gm rfl (E_gm rfl (E_gm rfl (E_gz rfl (E_gz rfl (E_gz rfl (E_gz rfl (E_gz rfl (E_gz rfl (E_gz rfl (E_gm rfl (E_gm rfl (E_gz rfl (E_gz rfl (E_gz rfl (E_gz rfl ?_)))))))))))))))
 refine E_gz rfl (E_gm rfl (E_pt rfl rfl (E_mv (v' := .bool true) rfl (E_nil ?_))))
 exact E_jx _ h (wk_rn [some (0, 0)] rfl (Nat.le_of_ble_eq_true rfl) ⟨(rn_obS rfl rfl (.cons (rn_b (Graph.enc.blws 0)) (.cons (rn_b (cp_blw (Graph.enc.blw _ 0))) (.cons (rn_b rfl) (.nil (Nat.zero_le _))))) rfl), trivial⟩ ⟨(rn_b rfl), trivial⟩)
 }
 }
 {
 rw [ite_f hb] at h
 refine E_gm rfl (E_gm rfl (E_gm rfl (E_gm rfl (E_gm rfl (E_gm rfl (E_gm rfl (E_pf rfl rfl (E_mv (v' := .bool false) rfl (E_gh rfl (E_op0 (v' := (.cptr (Node.av n_01).cells 4)) rfl rfl (E_gh rfl (E_op0 (v' := .int .i64 n_01.A) rfl rfl (E_gh rfl (E_op0 (v' := (.bool (n_01.A != (-1)))) rfl rfl (E_gh rfl ?_)))))))))))))))
 refine E_mv (v' := (.bool (n_01.A != (-1)))) rfl ?_
 refine E_gsT (b := (n_01.A != (-1))) rfl rfl rfl (fun hb => ?_) (fun hb => ?_)
 {
 rw [ite_t hb] at h
 refine E_mv (v' := .ptr 0 0 0) rfl (E_gh rfl (E_op0 (v' := .ptr 0 0 0) rfl rfl (E_gh rfl (E_op0 (v' := .ptr 0 0 1) rfl rfl (E_gh rfl (E_op (v' := (.cptr (Graph.av c_g_00).cells 0)) (S' := [.arr 0 [(.sl false 8 (List.map Graph.av c_all_00)), (.cptr (Graph.av c_g_00).cells 0), (.bool c_bound_00)]]) rfl rfl rfl (E_gh rfl (E_op0 (v' := (.cptr (Graph.av c_g_00).cells 0)) rfl rfl (E_gh rfl (E_op0 (v' := (.cptr (Graph.av c_g_00).cells 4)) rfl rfl (E_gh rfl (E_op0 (v' := .bool c_g_00.Result) rfl rfl (E_gh rfl (E_pt rfl rfl (E_gh rfl ?_)))))))))))))))
 refine E_mv (v' := .bool c_g_00.Result) rfl ?_
 refine E_gsT (b := c_g_00.Result) rfl rfl rfl (fun hb => ?_) (fun hb => ?_)
 {
 rw [ite_t hb] at h
 refine E_mv (v' := .ptr 0 0 0) rfl (E_gh rfl (E_op0 (v' := (.cptr (Node.av n_01).cells 4)) rfl rfl (E_gh rfl (E_op0 (v' := .int .i64 n_01.A) rfl rfl (E_gh rfl (E_opw (v' := (.sl true 1 (List.map (avI .i64) [n_01.A]))) rfl (.refl _) rfl (E_gh rfl ?_)))))))
 obtain ⟨vis_53, hvis_53, h⟩ := bd_some h
 refine E_callF (S' := [.arr 0 [(.sl false 8 (List.map Graph.av vis_53.2.1)), (.cptr (Graph.av vis_53.2.2.1).cells 0), (.bool vis_53.2.2.2)]]) (r' := (.bool vis_53.1)) (ir_checker_is_pNCN_ev hvis_53) [0] rfl rfl (by decide) rfl rfl ⟨(fr_in rfl rfl (.cons (.base (Graph.enc.blws 0) (.refl _)) (.cons (rn_b (cp_blw (Graph.enc.blw _ 0))) (.cons (.base rfl (.refl _)) (.nil (Nat.zero_le _)))))), trivial⟩ ⟨(fr_outS rfl rfl (.cons (rn_b (Graph.enc.blws 0)) (.cons (rn_b (cp_blw (Graph.enc.blw _ 0))) (.cons (rn_b rfl) (.nil (Nat.zero_le _))))) rfl rfl), trivial⟩ ⟨.inl rfl, trivial⟩ rfl (.cons (fi_ptr rfl rfl rfl rfl) (.cons (.base rfl (.refl _)) (.cons (.base ((encI .i64).blws 0) .ex) (.nil (Nat.zero_le _))))) (rn_b rfl) ?_
 refine E_gh rfl (E_pt rfl rfl (E_pf rfl rfl (E_mv (v' := .bool vis_53.1) rfl (E_nil ?_))))
 exact E_jx _ h (wk_rn [some (0, 0)] rfl (Nat.le_of_ble_eq_true rfl) ⟨(rn_obS rfl rfl (.cons (rn_b (Graph.enc.blws 0)) (.cons (rn_b (cp_blw (Graph.enc.blw _ 0))) (.cons (rn_b rfl) (.nil (Nat.zero_le _))))) rfl), trivial⟩ ⟨(rn_b rfl), trivial⟩)
 }
 {
 rw [ite_f hb] at h
 refine E_gm rfl (E_gm rfl (E_gm rfl (E_gm rfl (E_gh rfl (E_pf rfl rfl (E_pf rfl rfl (E_mv (v' := .bool false) rfl (E_nil ?_))))))))
 exact E_jx _ h (wk_rn [some (0, 0)] rfl (Nat.le_of_ble_eq_true rfl) ⟨(rn_obS rfl rfl (.cons (rn_b (Graph.enc.blws 0)) (.cons (rn_b (cp_blw (Graph.enc.blw _ 0))) (.cons (rn_b rfl) (.nil (Nat.zero_le _))))) rfl), trivial⟩ ⟨(rn_b rfl), trivial⟩)
 }
 }
 {
 rw [ite_f hb] at h
 refine E_gm rfl (E_gm rfl (E_gm rfl (E_gm rfl (E_gm rfl (E_gm rfl (E_gh rfl (E_pf rfl rfl (E_gh rfl (E_mv (v' := .bool false) rfl (E_gm rfl (E_gm rfl (E_gm rfl (E_gm rfl (E_gm rfl (E_gh rfl ?_)))))))))))))))
 refine E_pf rfl rfl (E_pf rfl rfl (E_mv (v' := .bool false) rfl (E_nil ?_)))
 exact E_jx _ h (wk_rn [some (0, 0)] rfl (Nat.le_of_ble_eq_true rfl) ⟨(rn_obS rfl rfl (.cons (rn_b (Graph.enc.blws 0)) (.cons (rn_b (cp_blw (Graph.enc.blw _ 0))) (.cons (rn_b rfl) (.nil (Nat.zero_le _))))) rfl), trivial⟩ ⟨(rn_b rfl), trivial⟩)
 }
 }
 }
 {
 refine E_ret (E_blr (E_thr ?_))
 cases h
 exact ⟨trivial, _, _, rfl, gwk_rn [some (0, 0)] rfl (Nat.le_of_ble_eq_true rfl) ⟨(rn_obS rfl rfl (.cons (rn_b (Graph.enc.blws 0)) (.cons (rn_b (cp_blw (Graph.enc.blw _ 0))) (.cons (rn_b rfl) (.nil (Nat.zero_le _))))) rfl), trivial⟩, (rn_b rfl)⟩
 }
 }
 {
 rw [ite_f hb] at h
 refine E_skip (E_bln (E_nx (E_sq (E_reg (E_mv (v' := .bool false) rfl (E_nil (E_nx (E_ret ?_))))))))
 cases h
 exact ⟨trivial, _, _, rfl, gwk_rn [some (0, 0)] rfl (Nat.le_of_ble_eq_true rfl) ⟨(rn_obS rfl rfl (.cons (rn_b (Graph.enc.blws 0)) (.cons (rn_b (cp_blw (Graph.enc.blw _ 0))) (.cons (rn_b rfl) (.nil (Nat.zero_le _))))) rfl), trivial⟩, (rn_b rfl)⟩
 }
 }
 }
 }
 }
 }
 }
 }
 }
 }
 }
 }
 }
 }
 }
 }
 }
def fc53 : FC := (.seq (.reg [oO 2 (.box (.t 0)), oO 4 (.mv (.v (.int .i64 0)))] []) (.seq (.seq (.reg [oO 10 (.fad 0 (.t 2)), oO 11 (.load none (.t 10)), oO 12 (.len .sl (.t 11)), oO 13 (.bin .none .eql (.t 12) (.v (.int .i64 0))), oO 14 (.mv (.t 13)), ⟨(some 15), some (14, false), .op (.fad 0 (.t 2))⟩, ⟨(some 16), some (14, false), .op (.load none (.t 15))⟩, ⟨(some 17), some (14, false), .op (.len .sl (.t 16))⟩, ⟨(some 18), some (14, false), .op (.bin .none .gtr (.t 17) (.v (.int .i64 16)))⟩, oO 19 (.pick (.t 14) (.v (.bool true)) (.t 18)), oO 20 (.mv (.t 19)), ⟨(some 21), some (20, false), .op (.fad 0 (.t 2))⟩, ⟨(some 22), some (20, false), .op (.load none (.t 21))⟩, ⟨(some 23), some (20, false), .op (.iad none (some 8) (.t 22) (.v (.int .i64 0)))⟩, ⟨(some 24), some (20, false), .op (.fad 0 (.t 23))⟩, ⟨(some 25), some (20, false), .op (.load none (.t 24))⟩, ⟨(some 26), some (20, false), .op (.len .sl (.t 25))⟩, ⟨(some 27), some (20, false), .op (.bin .none .gtr (.t 26) (.v (.int .i64 0)))⟩, oO 28 (.pick (.t 20) (.v (.bool true)) (.t 27)), oO 29 (.mv (.t 28)), ⟨(some 30), some (29, false), .op (.fad 0 (.t 2))⟩, ⟨(some 31), some (29, false), .op (.load none (.t 30))⟩, ⟨(some 32), some (29, false), .op (.iad none (some 8) (.t 31) (.v (.int .i64 0)))⟩, ⟨(some 33), some (29, false), .op (.fad 4 (.t 32))⟩, ⟨(some 34), some (29, false), .op (.load none (.t 33))⟩, oO 35 (.pick (.t 29) (.v (.bool true)) (.t 34))] []) (.cond (.t 35) (.seq (.reg [oO 4 (.mv (.v (.int .i64 70)))] []) .ret) .skip)) (.seq (.seq (.reg [oO 36 (.fad 0 (.t 2)), oO 37 (.load none (.t 36)), oO 38 (.len .sl (.t 37)), oO 39 (.mv (.v (.int .i64 0)))] []) (.block 0 (.loop (.seq (.reg [oO 40 (.bin .none .lss (.t 39) (.t 38))] []) (.seq (.cond (.t 40) .skip (.exit 0)) (.seq (.block 1 (.seq (.reg [oO 41 (.mv (.t 39)), oO 5 (.mv (.t 41))] []) (.seq (.reg [oO 42 (.fad 0 (.t 2)), oO 43 (.load none (.t 42)), oO 44 (.fad 0 (.t 2)), oO 45 (.load none (.t 44)), oO 46 (.mv (.t 5)), oO 47 (.iad none (some 8) (.t 45) (.t 46)), oO 48 (.mv (.t 1)), oO 49 (.build [.nils, .nilp, (.bool false)] [(0, 1, (.t 43)), (1, 1, (.t 47)), (2, 1, (.t 48))]), oO 50 (.box (.t 49)), ⟨(some 51), none, .call 76 [(.t 50)]⟩, oO 52 (.un .not (.t 51))] []) (.cond (.t 52) (.seq (.reg [oO 4 (.mv (.v (.int .i64 70)))] []) .ret) .skip)))) (.reg [oO 53 (.bin .none .add (.t 39) (.v (.int .i64 1))), oO 39 (.mv (.t 53))] []))))))) (.seq (.seq (.reg [oO 54 (.fad 0 (.t 2)), oO 55 (.load none (.t 54)), oO 56 (.len .sl (.t 55)), oO 57 (.mv (.v (.int .i64 0)))] []) (.block 2 (.loop (.seq (.reg [oO 58 (.bin .none .lss (.t 57) (.t 56))] []) (.seq (.cond (.t 58) .skip (.exit 2)) (.seq (.block 3 (.seq (.reg [oO 59 (.mv (.t 57)), oO 6 (.mv (.t 59))] []) (.seq (.reg [oO 60 (.fad 0 (.t 2)), oO 61 (.load none (.t 60)), oO 62 (.fad 0 (.t 2)), oO 63 (.load none (.t 62)), oO 64 (.mv (.t 6)), oO 65 (.iad none (some 8) (.t 63) (.t 64)), oO 66 (.mv (.t 1)), oO 67 (.build [.nils, .nilp, (.bool false)] [(0, 1, (.t 61)), (1, 1, (.t 65)), (2, 1, (.t 66))]), oO 68 (.box (.t 67)), oO 7 (.mv (.t 68))] []) (.seq (.reg [oO 69 (.mv (.t 7)), oO 70 (.nchk (.t 69)), oO 71 (.fad 1 (.t 70)), oO 72 (.load none (.t 71)), oO 73 (.nchk (.t 72)), oO 74 (.fad 6 (.t 73)), oO 75 (.load none (.t 74)), oO 76 (.len .sl (.t 75)), oO 77 (.mv (.v (.int .i64 0)))] []) (.block 4 (.loop (.seq (.reg [oO 78 (.bin .none .lss (.t 77) (.t 76))] []) (.seq (.cond (.t 78) .skip (.exit 4)) (.seq (.block 5 (.seq (.reg [oO 79 (.iad none (some 12) (.t 75) (.t 77)), oO 80 (.load (some 12) (.t 79)), oO 9 (.new [(.int .u8 0), (.int .u8 0), (.int .i64 0), (.int .i64 0), (.int .i64 0), (.int .i64 0), (.int .i64 0), (.int .i64 0), (.int .u64 0), .nils, (.int .i64 0), (.int .i64 0)]), ⟨none, none, .op (.store 12 (.t 9) (.t 80))⟩] []) (.seq (.reg [oO 81 (.mv (.t 7)), oO 82 (.load (some 12) (.t 9)), ⟨(some 83), none, .call 77 [(.t 81), (.t 82)]⟩, oO 84 (.un .not (.t 83))] []) (.cond (.t 84) (.seq (.reg [oO 4 (.mv (.v (.int .i64 70)))] []) .ret) .skip)))) (.reg [oO 85 (.bin .none .add (.t 77) (.v (.int .i64 1))), oO 77 (.mv (.t 85))] [])))))))))) (.reg [oO 86 (.bin .none .add (.t 57) (.v (.int .i64 1))), oO 57 (.mv (.t 86))] []))))))) (.seq (.reg [oO 4 (.mv (.v (.int .i64 0)))] []) .ret)))))
theorem fn53 : Fn3 Tryd.prog 53 87 [(4, none)] fc53 := ⟨_, _, Tryd.func53, rfl, rfl, rfl, by kernel_rfl⟩
def ir_Check_s (g_00 : Graphs) (bound_01 : Bool) : Option Int :=
  (jp (fun (s_2 : (Bool × Bool)) => (if s_2.2 then (some 70) else ((rni (fun (i_5 : Nat) (s_4 : Unit) => (((getI g_00.Funcs (i_5 : Int)).bind fun y_6 => ((ir_checker_head_pNCN_s g_00.Funcs y_6 s_2.1).bind fun (hea_7 : (Bool × (List Graph) × Graph × Bool)) => (if (!hea_7.1) then (some (.ret (some 70))) else (some (.nxt ()))))) : Option (Stp Unit (Option Int)))) (List.length g_00.Funcs : Int) ()).bind (oc (fun (s_4 : Unit) => ((rni (fun (i_9 : Nat) (s_8 : Unit) => (((getI g_00.Funcs (i_9 : Int)).bind fun y_10 => ((rng (fun (i_12 : Nat) (n_13 : Node) (s_11 : ((List Graph) × Graph × Bool)) => (((ir_checker_node_pNCN_s s_11.1 s_11.2.1 s_11.2.2 n_13).bind fun (nod_15 : (Bool × (List Graph) × Graph × Bool)) => (if (!nod_15.1) then (some (.ret (some (.ret (some 70))))) else (some (.nxt (nod_15.2.1, nod_15.2.2.1, nod_15.2.2.2))))) : Option (Stp ((List Graph) × Graph × Bool) (Option (Stp Unit (Option Int)))))) y_10.Nodes (g_00.Funcs, y_10, s_2.1)).bind (oc (fun (s_11 : ((List Graph) × Graph × Bool)) => (some (.nxt ())))))) : Option (Stp Unit (Option Int)))) (List.length g_00.Funcs : Int) ()).bind (oc (fun (s_8 : Unit) => (some 0))))))))) (fun k_1 => (if ((List.length g_00.Funcs : Int) == 0) then (k_1 (bound_01, true)) else (if (decide ((List.length g_00.Funcs : Int) > 16)) then (k_1 (bound_01, true)) else ((getI g_00.Funcs 0).bind fun y_3 => (if (decide ((List.length y_3.Params : Int) > 0)) then (k_1 (bound_01, true)) else (k_1 (bound_01, y_3.Result))))))))
theorem ir_Check_ev {g_00 : Graphs} {bound_01 : Bool} {r : Int} (h : ir_Check_s g_00 bound_01 = some r) : PureEv Tryd.prog 53 [(Graphs.av g_00), (.bool bound_01)] (.int .i64 r) := by
 unfold ir_Check_s at h
 refine PureEv_end mixed fn53 (by simp) [9, 50, 68] 6 ?_
 unfold fc53
 refine E_sq (E_reg (E_op0 (v' := (.cptr (Graphs.av g_00).cells 0)) rfl rfl (E_mv (v' := .int .i64 0) rfl (E_nil (E_nx (E_as ?_))))))
 refine E_jp h (fun s_2 => [(1, (.bool s_2.1)), (2, (.cptr (Graphs.av g_00).cells 0)), (35, (.bool s_2.2))]) (fun s_2 => []) (fun k_1 h => ?_) (fun s_2 h => ?_)
 {
 refine E_reg (E_op0 (v' := (.cptr (Graphs.av g_00).cells 0)) rfl rfl (E_op0 (v' := .sl false 8 (List.map Graph.av g_00.Funcs)) rfl rfl (E_len rfl (E_op0 (v' := (.bool ((List.length g_00.Funcs : Int) == 0))) rfl rfl (E_mv (v' := (.bool ((List.length g_00.Funcs : Int) == 0))) rfl ?_)))))
 refine E_gsT (b := ((List.length g_00.Funcs : Int) == 0)) rfl rfl rfl (fun hb => ?_) (fun hb => ?_)
 {
 rw [ite_f hb] at h
 refine E_op0 (v' := (.cptr (Graphs.av g_00).cells 0)) rfl rfl (E_gh rfl (E_op0 (v' := .sl false 8 (List.map Graph.av g_00.Funcs)) rfl rfl (E_gh rfl (E_len rfl (E_gh rfl (E_op0 (v' := (.bool (decide ((List.length g_00.Funcs : Int) > 16)))) rfl rfl (E_pf rfl rfl (E_mv (v' := (.bool (decide ((List.length g_00.Funcs : Int) > 16)))) rfl ?_))))))))
 refine E_gsT (b := (decide ((List.length g_00.Funcs : Int) > 16))) rfl rfl rfl (fun hb => ?_) (fun hb => ?_)
 {
 rw [ite_f hb] at h
 refine E_op0 (v' := (.cptr (Graphs.av g_00).cells 0)) rfl rfl (E_gh rfl (E_op0 (v' := .sl false 8 (List.map Graph.av g_00.Funcs)) rfl rfl (E_gh rfl ?_)))
 obtain ⟨y_3, hy_3, h⟩ := bd_some h
 refine E_iadF rfl rfl hy_3 (E_gh rfl (E_op0 (v' := (.cptr (Graph.av y_3).cells 0)) rfl rfl (E_gh rfl (E_op0 (v' := (.sl false 1 (List.map (avI .i64) y_3.Params))) rfl rfl (E_gh rfl (E_len rfl (E_gh rfl (E_op0 (v' := (.bool (decide ((List.length y_3.Params : Int) > 0)))) rfl rfl (E_pf rfl rfl (E_mv (v' := (.bool (decide ((List.length y_3.Params : Int) > 0)))) rfl ?_))))))))))
 refine E_gsT (b := (decide ((List.length y_3.Params : Int) > 0))) rfl rfl rfl (fun hb => ?_) (fun hb => ?_)
 {
 rw [ite_f hb] at h
 refine E_op0 (v' := (.cptr (Graphs.av g_00).cells 0)) rfl rfl (E_gh rfl (E_op0 (v' := .sl false 8 (List.map Graph.av g_00.Funcs)) rfl rfl (E_gh rfl (E_iadF rfl rfl hy_3 (E_gh rfl (E_op0 (v' := (.cptr (Graph.av y_3).cells 4)) rfl rfl (E_gh rfl (E_op0 (v' := .bool y_3.Result) rfl rfl (E_pf rfl rfl (E_nil ?_))))))))))
 exact E_jx _ h (wk_aw ⟨(.refl _), (.refl _), (.refl _), trivial⟩)
 }
 {
 rw [ite_t hb] at h
 refine E_gm rfl (E_gm rfl (E_gm rfl (E_gm rfl (E_pt rfl rfl (E_nil ?_)))))
 exact E_jx _ h (wk_aw ⟨(.refl _), (.refl _), (.refl _), trivial⟩)
 }
 }
 {
 rw [ite_t hb] at h
 refine E_gm rfl (E_gm rfl (E_gm rfl (E_gm rfl (E_gm rfl (E_gm rfl (E_pt rfl rfl (E_mv (v' := .bool true) rfl (E_gm rfl (E_gm rfl (E_gm rfl (E_gm rfl (E_gm rfl (E_pt rfl rfl (E_nil ?_))))))))))))))
 exact E_jx _ h (wk_aw ⟨(.refl _), (.refl _), (.refl _), trivial⟩)
 }
 }
 {
 rw [ite_t hb] at h
 refine E_gm rfl (E_gm rfl (E_gm rfl (E_pt rfl rfl (E_mv (v' := .bool true) rfl (E_gm rfl (E_gm rfl (E_gm rfl (E_gm rfl (E_gm rfl (E_gm rfl (E_gm rfl (E_pt rfl rfl (E_mv (v' := .bool true) rfl (E_gm rfl (E_gm rfl ?_)))))))))))))))
 refine E_gm rfl (E_gm rfl (E_gm rfl (E_pt rfl rfl (E_nil ?_))))
 exact E_jx _ h (wk_aw ⟨(.refl _), (.refl _), (.refl _), trivial⟩)
 }
 }
 {
 refine E_sq ?_
 refine E_cs (t := s_2.2) rfl (fun hb => ?_) (fun hb => ?_)
 {
 rw [ite_t hb] at h
 refine E_sq (E_reg (E_mv (v' := .int .i64 70) rfl (E_nil (E_nx (E_ret (E_thr ?_))))))
 cases h
 exact ⟨trivial, _, rfl, (fz_b rfl (.refl _))⟩
 }
 {
 rw [ite_f hb] at h
 refine E_skip (E_nx (E_as (E_sq (E_reg (E_op0 (v' := (.cptr (Graphs.av g_00).cells 0)) rfl rfl (E_op0 (v' := .sl false 8 (List.map Graph.av g_00.Funcs)) rfl rfl (E_len rfl (E_mv (v' := .int .i64 0) rfl (E_nil (E_nx (E_sq ?_)))))))))))
 refine E_rniO (fun s_4 => [(1, (.bool s_2.1)), (2, (.cptr (Graphs.av g_00).cells 0))]) (fun s_4 => []) h (by decide) (by decide) (fun _ => ⟨rfl, rfl, rfl, rfl⟩) (wk_aw ⟨(.refl _), (.refl _), (.refl _), (.refl _), trivial⟩) (fun i_5 s_4 c hlt h => ?_) (fun s_4 fr' S' h hw => ?_)
 {
 refine E_sq (E_reg (E_mv (v' := .int .i64 (i_5 : Int)) rfl (E_mv (v' := .int .i64 (i_5 : Int)) rfl (E_nil (E_nx (E_sq (E_reg (E_op0 (v' := (.cptr (Graphs.av g_00).cells 0)) rfl rfl (E_op0 (v' := .sl false 8 (List.map Graph.av g_00.Funcs)) rfl rfl (E_op0 (v' := (.cptr (Graphs.av g_00).cells 0)) rfl rfl (E_op0 (v' := .sl false 8 (List.map Graph.av g_00.Funcs)) rfl rfl (E_mv (v' := .int .i64 (i_5 : Int)) rfl ?_))))))))))))
 obtain ⟨y_6, hy_6, h⟩ := bd_some h
 refine E_iadF rfl rfl hy_6 (E_mv (v' := .bool s_2.1) rfl (E_op0 (v' := (.agg [(.sl false 8 (List.map Graph.av g_00.Funcs)), (.cptr (Graph.av y_6).cells 0), (.bool s_2.1)])) rfl rfl (E_op (v' := .ptr 0 0 0) (S' := [.arr 0 [(.sl false 8 (List.map Graph.av g_00.Funcs)), (.cptr (Graph.av y_6).cells 0), (.bool s_2.1)]]) rfl rfl rfl ?_)))
 obtain ⟨hea_7, hhea_7, h⟩ := bd_some h
 refine E_callF (S' := [.arr 0 [(.sl false 8 (List.map Graph.av hea_7.2.1)), (.cptr (Graph.av hea_7.2.2.1).cells 0), (.bool hea_7.2.2.2)]]) (r' := (.bool hea_7.1)) (ir_checker_head_pNCN_ev hhea_7) [0] rfl rfl (by decide) rfl rfl ⟨(fr_in rfl rfl (.cons (.base (Graph.enc.blws 0) (.refl _)) (.cons (rn_b (cp_blw (Graph.enc.blw _ 0))) (.cons (.base rfl (.refl _)) (.nil (Nat.zero_le _)))))), trivial⟩ ⟨(fr_outS rfl rfl (.cons (rn_b (Graph.enc.blws 0)) (.cons (rn_b (cp_blw (Graph.enc.blw _ 0))) (.cons (rn_b rfl) (.nil (Nat.zero_le _))))) rfl rfl), trivial⟩ ⟨.inl rfl, trivial⟩ rfl (.cons (fi_ptr rfl rfl rfl rfl) (.nil (Nat.zero_le _))) (rn_b rfl) ?_
 refine E_op0 (v' := .bool (!hea_7.1)) rfl rfl (E_nil (E_nx ?_))
 refine E_cs (t := (!hea_7.1)) rfl (fun hb => ?_) (fun hb => ?_)
 {
 rw [ite_t hb] at h
 refine E_sq (E_reg (E_mv (v' := .int .i64 70) rfl (E_nil (E_nx (E_ret ?_)))))
 cases h
 refine L_rrO rfl (fun h => ?_)
 refine E_thr ?_
 cases h
 exact ⟨trivial, _, rfl, (fz_b rfl (.refl _))⟩
 }
 {
 rw [ite_f hb] at h
 refine E_skip ?_
 cases h
 exact L_nn rfl (wk_rn [] rfl (Nat.le_of_ble_eq_true rfl) trivial ⟨(rn_b rfl), (rn_b rfl), (rn_b rfl), (rn_b (cp_blw (Graphs.enc.blw _ 0))), trivial⟩)
 }
 }
 {
 refine X_nx hw (E_as (E_sq (E_reg (E_op0 (v' := (.cptr (Graphs.av g_00).cells 0)) rfl rfl (E_op0 (v' := .sl false 8 (List.map Graph.av g_00.Funcs)) rfl rfl (E_len rfl (E_mv (v' := .int .i64 0) rfl (E_nil (E_nx (E_sq ?_))))))))))
 refine E_rniO (fun s_8 => [(1, (.bool s_2.1)), (2, (.cptr (Graphs.av g_00).cells 0))]) (fun s_8 => []) h (by decide) (by decide) (fun _ => ⟨rfl, rfl, rfl, rfl⟩) (wk_aw ⟨(.refl _), (.refl _), (.refl _), (.refl _), trivial⟩) (fun i_9 s_8 c hlt h => ?_) (fun s_8 fr' S' h hw => ?_)
 {
 refine E_sq (E_reg (E_mv (v' := .int .i64 (i_9 : Int)) rfl (E_mv (v' := .int .i64 (i_9 : Int)) rfl (E_nil (E_nx (E_sq (E_reg (E_op0 (v' := (.cptr (Graphs.av g_00).cells 0)) rfl rfl (E_op0 (v' := .sl false 8 (List.map Graph.av g_00.Funcs)) rfl rfl (E_op0 (v' := (.cptr (Graphs.av g_00).cells 0)) rfl rfl (E_op0 (v' := .sl false 8 (List.map Graph.av g_00.Funcs)) rfl rfl (E_mv (v' := .int .i64 (i_9 : Int)) rfl ?_))))))))))))
 obtain ⟨y_10, hy_10, h⟩ := bd_some h
 refine E_iadF rfl rfl hy_10 (E_mv (v' := .bool s_2.1) rfl (E_op0 (v' := (.agg [(.sl false 8 (List.map Graph.av g_00.Funcs)), (.cptr (Graph.av y_10).cells 0), (.bool s_2.1)])) rfl rfl (E_op (v' := .ptr 0 0 0) (S' := [.arr 0 [(.sl false 8 (List.map Graph.av g_00.Funcs)), (.cptr (Graph.av y_10).cells 0), (.bool s_2.1)]]) rfl rfl rfl (E_mv (v' := .ptr 0 0 0) rfl (E_nil (E_nx (E_sq (E_reg (E_mv (v' := .ptr 0 0 0) rfl (E_op0 (v' := .ptr 0 0 0) rfl rfl (E_op0 (v' := .ptr 0 0 1) rfl rfl (E_op (v' := (.cptr (Graph.av y_10).cells 0)) (S' := [.arr 0 [(.sl false 8 (List.map Graph.av g_00.Funcs)), (.cptr (Graph.av y_10).cells 0), (.bool s_2.1)]]) rfl rfl rfl (E_op0 (v' := (.cptr (Graph.av y_10).cells 0)) rfl rfl (E_op0 (v' := (.cptr (Graph.av y_10).cells 6)) rfl rfl (E_op0 (v' := .sl false 12 (List.map Node.av y_10.Nodes)) rfl rfl ?_)))))))))))))))
 refine E_len rfl (E_mv (v' := .int .i64 0) rfl (E_nil (E_nx ?_)))
 refine E_rngO (fun s_11 => [(1, (.bool s_2.1)), (2, (.cptr (Graphs.av g_00).cells 0)), (7, (.ptr 0 0 0)), (56, (.int .i64 (List.length g_00.Funcs : Int))), (57, (.int .i64 (i_9 : Int))), (75, (.sl false 12 (List.map Node.av y_10.Nodes)))]) (fun s_11 => [.arr 0 [(.sl false 8 (List.map Graph.av s_11.1)), (.cptr (Graph.av s_11.2.1).cells 0), (.bool s_11.2.2)]]) h (by decide) (by decide) (fun _ => ⟨rfl, rfl, rfl, rfl⟩) (wk_rn [some (0, 0)] rfl (Nat.le_of_ble_eq_true rfl) ⟨(rn_ob rfl rfl (.cons (rn_b (Graph.enc.blws 0)) (.cons (rn_b (cp_blw (Graph.enc.blw _ 0))) (.cons (rn_b rfl) (.nil (Nat.zero_le _))))) rfl), trivial⟩ ⟨(rn_b rfl), (rn_b rfl), (rn_b rfl), (rn_b (cp_blw (Graphs.enc.blw _ 0))), (rn_ptr rfl rfl rfl rfl), (rn_b rfl), (rn_b rfl), (rn_b (Node.enc.blws 0)), trivial⟩) (fun i_12 n_13 s_11 c hx_14 hlt h => ?_) (fun s_11 fr' S' h hw => ?_)
 {
 refine E_sq (E_reg (E_iadF rfl rfl (getI_of hx_14) (E_op0 (v' := (Node.av n_13)) rfl rfl (E_op (v' := .ptr 1 0 0) (S' := [.arr 0 [(.sl false 8 (List.map Graph.av s_11.1)), (.cptr (Graph.av s_11.2.1).cells 0), (.bool s_11.2.2)], .arr 0 [(.int .u8 0), (.int .u8 0), (.int .i64 0), (.int .i64 0), (.int .i64 0), (.int .i64 0), (.int .i64 0), (.int .i64 0), (.int .u64 0), .nils, (.int .i64 0), (.int .i64 0)]]) rfl rfl rfl (E_do (S' := [.arr 0 [(.sl false 8 (List.map Graph.av s_11.1)), (.cptr (Graph.av s_11.2.1).cells 0), (.bool s_11.2.2)], .arr 0 [(.int .u8 n_13.Op), (.int .u8 n_13.By), (.int .i64 n_13.D), (.int .i64 n_13.E), (.int .i64 n_13.A), (.int .i64 n_13.B), (.int .i64 n_13.F), (.int .i64 n_13.Cell), (.int .u64 n_13.Imm), (.sl false 1 (List.map (avI .i64) n_13.Args)), (.int .i64 n_13.Next), (.int .i64 n_13.Else)]]) rfl rfl (E_nil (E_nx (E_sq (E_reg (E_mv (v' := .ptr 0 0 0) rfl (E_opw (v' := (Node.av n_13)) rfl (.aggL ⟨(.refl _), (.refl _), (.refl _), (.refl _), (.refl _), (.refl _), (.refl _), (.refl _), (.refl _), (.refl _), (.refl _), (.refl _), trivial⟩) rfl ?_)))))))))))
 obtain ⟨nod_15, hnod_15, h⟩ := bd_some h
 refine E_callF (S' := [.arr 0 [(.sl false 8 (List.map Graph.av nod_15.2.1)), (.cptr (Graph.av nod_15.2.2.1).cells 0), (.bool nod_15.2.2.2)], .arr 0 [(.int .u8 n_13.Op), (.int .u8 n_13.By), (.int .i64 n_13.D), (.int .i64 n_13.E), (.int .i64 n_13.A), (.int .i64 n_13.B), (.int .i64 n_13.F), (.int .i64 n_13.Cell), (.int .u64 n_13.Imm), (.sl false 1 (List.map (avI .i64) n_13.Args)), (.int .i64 n_13.Next), (.int .i64 n_13.Else)]]) (r' := (.bool nod_15.1)) (ir_checker_node_pNCN_ev hnod_15) [0] rfl rfl (by decide) rfl rfl ⟨(fr_in rfl rfl (.cons (.base (Graph.enc.blws 0) (.refl _)) (.cons (rn_b (cp_blw (Graph.enc.blw _ 0))) (.cons (.base rfl (.refl _)) (.nil (Nat.zero_le _)))))), trivial⟩ ⟨(fr_outS rfl rfl (.cons (rn_b (Graph.enc.blws 0)) (.cons (rn_b (cp_blw (Graph.enc.blw _ 0))) (.cons (rn_b rfl) (.nil (Nat.zero_le _))))) rfl rfl), trivial⟩ ⟨.inl rfl, .inr rfl, trivial⟩ rfl (.cons (fi_ptr rfl rfl rfl rfl) (.cons (.base (Node.enc.blw _ 0) (.refl _)) (.nil (Nat.zero_le _)))) (rn_b rfl) ?_
 refine E_op0 (v' := .bool (!nod_15.1)) rfl rfl (E_nil (E_nx ?_))
 refine E_cs (t := (!nod_15.1)) rfl (fun hb => ?_) (fun hb => ?_)
 {
 rw [ite_t hb] at h
 refine E_sq (E_reg (E_mv (v' := .int .i64 70) rfl (E_nil (E_nx (E_ret ?_)))))
 cases h
 refine L_rrO rfl (fun h => ?_)
 cases h
 refine L_rrO rfl (fun h => ?_)
 refine E_thr ?_
 cases h
 exact ⟨trivial, _, rfl, (fz_b rfl (.refl _))⟩
 }
 {
 rw [ite_f hb] at h
 refine E_skip ?_
 cases h
 exact L_nn rfl (wk_rn [some (0, 0)] rfl (Nat.le_of_ble_eq_true rfl) ⟨(rn_ob rfl rfl (.cons (rn_b (Graph.enc.blws 0)) (.cons (rn_b (cp_blw (Graph.enc.blw _ 0))) (.cons (rn_b rfl) (.nil (Nat.zero_le _))))) rfl), trivial⟩ ⟨(rn_b rfl), (rn_b rfl), (rn_b rfl), (rn_b (cp_blw (Graphs.enc.blw _ 0))), (rn_ptr rfl rfl rfl rfl), (rn_b rfl), (rn_b rfl), (rn_b (Node.enc.blws 0)), trivial⟩)
 }
 }
 {
 cases h
 exact X_nn rfl hw (wk_rn [] rfl (Nat.le_of_ble_eq_true rfl) trivial ⟨(rn_b rfl), (rn_b rfl), (rn_b rfl), (rn_b (cp_blw (Graphs.enc.blw _ 0))), trivial⟩)
 }
 }
 {
 refine X_nx hw (E_sq (E_reg (E_mv (v' := .int .i64 0) rfl (E_nil (E_nx (E_ret ?_))))))
 cases h
 exact ⟨trivial, _, rfl, (fz_b rfl (.refl _))⟩
 }
 }
 }
 }
def fc28 : FC := (.seq (.reg [oO 2 (.box (.t 0)), oO 4 (.mv (.v (.int .i64 0)))] []) (.seq (.seq (.reg [oO 6 (.load (some 1) (.t 2)), ⟨(some 7), none, .call 53 [(.t 6), (.v (.bool false))]⟩, oO 5 (.mv (.t 7))] []) (.seq (.reg [oO 8 (.mv (.t 5)), oO 9 (.bin .none .neq (.t 8) (.v (.int .i64 0)))] []) (.cond (.t 9) (.seq (.reg [oO 10 (.mv (.t 5)), oO 4 (.mv (.t 10))] []) .ret) .skip))) (.seq (.seq (.reg [oO 11 (.mv (.t 1)), oO 12 (.bin .none .lss (.t 11) (.v (.int .i64 0))), oO 13 (.mv (.t 12)), ⟨(some 14), some (13, false), .op (.mv (.t 1))⟩, ⟨(some 15), some (13, false), .op (.fad 0 (.t 2))⟩, ⟨(some 16), some (13, false), .op (.load none (.t 15))⟩, ⟨(some 17), some (13, false), .op (.len .sl (.t 16))⟩, ⟨(some 18), some (13, false), .op (.bin .none .geq (.t 14) (.t 17))⟩, oO 19 (.pick (.t 13) (.v (.bool true)) (.t 18))] []) (.cond (.t 19) (.seq (.reg [oO 4 (.mv (.v (.int .i64 2)))] []) .ret) .skip)) (.seq (.reg [oO 4 (.mv (.v (.int .i64 0)))] []) .ret))))
theorem fn28 : Fn3 Tryd.prog 28 20 [(4, none)] fc28 := ⟨_, _, Tryd.func28, rfl, rfl, rfl, by kernel_rfl⟩
def live_check_s (g_00 : Graphs) (f_01 : Int) : Option Int :=
  ((ir_Check_s g_00 false).bind fun che_1 => (if (che_1 != 0) then (some che_1) else (jp (fun (s_3 : Bool) => (if s_3 then (some 2) else (some 0))) (fun k_2 => (if (decide (f_01 < 0)) then (k_2 true) else (k_2 (decide (f_01 ≥ (List.length g_00.Funcs : Int)))))))))
theorem live_check_ev {g_00 : Graphs} {f_01 : Int} {r : Int} (h : live_check_s g_00 f_01 = some r) : PureEv Tryd.prog 28 [(Graphs.av g_00), (.int .i64 f_01)] (.int .i64 r) := by
 unfold live_check_s at h
 refine PureEv_end mixed fn28 (by simp) [] 6 ?_
 unfold fc28
 refine E_sq (E_reg (E_op0 (v' := (.cptr (Graphs.av g_00).cells 0)) rfl rfl (E_mv (v' := .int .i64 0) rfl (E_nil (E_nx (E_as (E_sq (E_reg (E_op0 (v' := (Graphs.av g_00)) rfl rfl ?_)))))))))
 obtain ⟨che_1, hche_1, h⟩ := bd_some h
 refine E_callW (ir_Check_ev  hche_1) rfl ⟨(.refl _), (.refl _), trivial⟩ (blwL_of ⟨(Graphs.enc.blw _ 0), rfl, trivial⟩) rfl (E_mv (v' := .int .i64 che_1) rfl (E_nil (E_nx (E_as (E_sq (E_reg (E_mv (v' := .int .i64 che_1) rfl (E_op0 (v' := .bool (che_1 != 0)) rfl rfl (E_nil (E_nx (E_sq ?_)))))))))))
 refine E_cs (t := (che_1 != 0)) rfl (fun hb => ?_) (fun hb => ?_)
 {
 rw [ite_t hb] at h
 refine E_sq (E_reg (E_mv (v' := .int .i64 che_1) rfl (E_mv (v' := .int .i64 che_1) rfl (E_nil (E_nx (E_ret (E_thr ?_)))))))
 cases h
 exact ⟨trivial, _, rfl, (fz_b rfl (.refl _))⟩
 }
 {
 rw [ite_f hb] at h
 refine E_skip (E_nx (E_as ?_))
 refine E_jp h (fun s_3 => [(19, (.bool s_3))]) (fun s_3 => []) (fun k_2 h => ?_) (fun s_3 h => ?_)
 {
 refine E_reg (E_mv (v' := .int .i64 f_01) rfl (E_op0 (v' := (.bool (decide (f_01 < 0)))) rfl rfl (E_mv (v' := (.bool (decide (f_01 < 0)))) rfl ?_)))
 refine E_gsT (b := (decide (f_01 < 0))) rfl rfl rfl (fun hb => ?_) (fun hb => ?_)
 {
 rw [ite_f hb] at h
 refine E_mv (v' := .int .i64 f_01) rfl (E_gh rfl (E_op0 (v' := (.cptr (Graphs.av g_00).cells 0)) rfl rfl (E_gh rfl (E_op0 (v' := .sl false 8 (List.map Graph.av g_00.Funcs)) rfl rfl (E_gh rfl (E_len rfl (E_gh rfl (E_op0 (v' := (.bool (decide (f_01 ≥ (List.length g_00.Funcs : Int))))) rfl rfl (E_pf rfl rfl (E_nil ?_))))))))))
 exact E_jx _ h (wk_aw ⟨(.refl _), trivial⟩)
 }
 {
 rw [ite_t hb] at h
 refine E_gm rfl (E_gm rfl (E_gm rfl (E_gm rfl (E_pt rfl rfl (E_nil ?_)))))
 exact E_jx _ h (wk_aw ⟨(.refl _), trivial⟩)
 }
 }
 {
 refine E_sq ?_
 refine E_cs (t := s_3) rfl (fun hb => ?_) (fun hb => ?_)
 {
 rw [ite_t hb] at h
 refine E_sq (E_reg (E_mv (v' := .int .i64 2) rfl (E_nil (E_nx (E_ret (E_thr ?_))))))
 cases h
 exact ⟨trivial, _, rfl, (fz_b rfl (.refl _))⟩
 }
 {
 rw [ite_f hb] at h
 refine E_skip (E_nx (E_sq (E_reg (E_mv (v' := .int .i64 0) rfl (E_nil (E_nx (E_ret ?_)))))))
 cases h
 exact ⟨trivial, _, rfl, (fz_b rfl (.refl _))⟩
 }
 }
 }
def slices_Index_r_s (s_00 : (List Int)) (v_01 : Int) : Option Int :=
  ((rni (fun (i_2 : Nat) (s_1 : Int) => (((getI s_00 (i_2 : Int)).bind fun y_3 => (if (s_1 == y_3) then (some (.ret (some (i_2 : Int)))) else (some (.nxt s_1)))) : Option (Stp Int (Option Int)))) (List.length s_00 : Int) v_01).bind (oc (fun (s_1 : Int) => (some (-1)))))
theorem slices_Index_r_ev {s_00 : (List Int)} {v_01 : Int} {r : Int} (h : slices_Index_r_s s_00 v_01 = some r) : Ev Tryd.prog 74 [(.ref 0 0 0 (List.length s_00) none), (.int .i64 v_01)] (hp [.arr 0 (flat (avI .i64) s_00)]) (.int .i64 r) (hp [.arr 0 (flat (avI .i64) s_00)]) := by
 unfold slices_Index_r_s at h
 refine Ev_end mixed fn74 (by simp) [] ?_
 unfold fc74
 refine E_sq (E_reg (E_mv (v' := .int .i64 0) rfl (E_nil (E_nx (E_as (E_sq (E_reg (E_mv (v' := (.ref 0 0 0 (List.length s_00) none)) rfl (E_lenR rfl (E_mv (v' := .int .i64 0) rfl (E_nil (E_nx (E_sq ?_)))))))))))))
 refine E_rniO (fun s_1 => [(0, (.ref 0 0 0 (List.length s_00) none)), (1, (.int .i64 s_1))]) (fun s_1 => [.arr 0 (flat (avI .i64) s_00)]) h (by decide) (by decide) (fun _ => ⟨rfl, rfl, rfl, rfl⟩) (wk_rn [some (0, 0)] rfl (Nat.le_of_ble_eq_true rfl) ⟨(rn_obS rfl rfl (.refl ((encI .i64).blwf 0 _)) rfl), trivial⟩ ⟨(rn_b rfl), (rn_b rfl), (rn_refL (encI .i64) rfl rfl rfl), (rn_b rfl), trivial⟩) (fun i_2 s_1 c hlt h => ?_) (fun s_1 fr' S' h hw => ?_)
 {
 refine E_sq (E_reg (E_mv (v' := .int .i64 (i_2 : Int)) rfl (E_mv (v' := .int .i64 (i_2 : Int)) rfl (E_nil (E_nx (E_sq (E_reg (E_mv (v' := .int .i64 s_1) rfl (E_mv (v' := (.ref 0 0 0 (List.length s_00) none)) rfl (E_mv (v' := .int .i64 (i_2 : Int)) rfl ?_))))))))))
 obtain ⟨y_3, hy_3, h⟩ := bd_some h
 refine E_iadR rfl rfl ⟨(getI_some hy_3).1, (getI_some hy_3).2.1⟩ ?_
 refine E_ldR (encI .i64) rfl rfl (by first | rfl | exact (Nat.add_zero _).symm | (simp only [Nat.zero_add]; exact (Nat.add_zero _).symm) | (simp only [Nat.zero_add, Nat.add_zero])) (getI_some hy_3).2.2 rfl (.refl _) ?_
 refine E_op0 (v' := .bool (s_1 == y_3)) rfl rfl (E_nil (E_nx ?_))
 refine E_cs (t := (s_1 == y_3)) rfl (fun hb => ?_) (fun hb => ?_)
 {
 rw [ite_t hb] at h
 refine E_sq (E_reg (E_mv (v' := .int .i64 (i_2 : Int)) rfl (E_mv (v' := .int .i64 (i_2 : Int)) rfl (E_nil (E_nx (E_ret ?_))))))
 cases h
 refine L_rrO rfl (fun h => ?_)
 refine E_thr ?_
 cases h
 exact ⟨trivial, _, _, rfl, gwk_rn [some (0, 0)] rfl (Nat.le_of_ble_eq_true rfl) ⟨(rn_obS rfl rfl (.refl ((encI .i64).blwf 0 _)) rfl), trivial⟩, (rn_b rfl)⟩
 }
 {
 rw [ite_f hb] at h
 refine E_skip ?_
 cases h
 exact L_nn rfl (wk_rn [some (0, 0)] rfl (Nat.le_of_ble_eq_true rfl) ⟨(rn_obS rfl rfl (.refl ((encI .i64).blwf 0 _)) rfl), trivial⟩ ⟨(rn_b rfl), (rn_b rfl), (rn_refL (encI .i64) rfl rfl rfl), (rn_b rfl), trivial⟩)
 }
 }
 {
 refine X_nx hw (E_sq (E_reg (E_mv (v' := .int .i64 (-1)) rfl (E_nil (E_nx (E_ret ?_))))))
 cases h
 exact ⟨trivial, _, _, rfl, gwk_rn [some (0, 0)] rfl (Nat.le_of_ble_eq_true rfl) ⟨(rn_obS rfl rfl (.refl ((encI .i64).blwf 0 _)) rfl), trivial⟩, (rn_b rfl)⟩
 }
def slices_Contains_r_s (s_00 : (List Int)) (v_01 : Int) : Option Bool :=
  ((slices_Index_r_s s_00 v_01).bind fun (ind_1 : Int) => (some (decide (ind_1 ≥ 0))))
theorem slices_Contains_r_ev {s_00 : (List Int)} {v_01 : Int} {r : Bool} (h : slices_Contains_r_s s_00 v_01 = some r) : Ev Tryd.prog 48 [(.ref 0 0 0 (List.length s_00) none), (.int .i64 v_01)] (hp [.arr 0 (flat (avI .i64) s_00)]) (.bool r) (hp [.arr 0 (flat (avI .i64) s_00)]) := by
  unfold slices_Contains_r_s at h
  refine Ev_end mixed fn48 (by simp) [] ?_
  unfold fc48
  refine E_sq ?_
  refine E_reg ?_
  refine E_mv (v' := (.bool false)) rfl ?_
  refine E_nil ?_
  refine E_nx ?_
  refine E_sq ?_
  refine E_reg ?_
  refine E_mv (v' := (.ref 0 0 0 (List.length s_00) none)) rfl ?_
  refine E_mv (v' := (.int .i64 v_01)) rfl ?_
  obtain ⟨ind_1, hind_1, h⟩ := bd_some h
  refine E_callF (S' := [.arr 0 (flat (avI .i64) s_00)]) (r' := (.int .i64 ind_1)) (slices_Index_r_ev hind_1) [0] rfl rfl (by decide) rfl rfl ⟨(fr_in rfl rfl (.refl ((encI .i64).blwf 0 _))), trivial⟩ ⟨(fr_outS rfl rfl (.refl ((encI .i64).blwf 0 _)) rfl rfl), trivial⟩ ⟨.inl rfl, trivial⟩ rfl (.cons (fi_ref rfl rfl rfl rfl) (.cons (.base rfl (.refl _)) (.nil (Nat.zero_le _)))) (rn_b rfl) ?_
  refine E_op0 (v' := (.bool (decide (ind_1 ≥ 0)))) rfl rfl ?_
  refine E_mv (v' := (.bool (decide (ind_1 ≥ 0)))) rfl ?_
  refine E_nil ?_
  refine E_nx ?_
  refine E_ret ?_
  cases h
  exact ⟨trivial, _, _, rfl, gwk_rn [some (0, 0)] rfl (Nat.le_of_ble_eq_true rfl) ⟨(rn_obS rfl rfl (.refl ((encI .i64).blwf 0 _)) rfl), trivial⟩, (rn_b rfl)⟩
def fc73 : FC := (.seq (.reg [oO 2 (.mv (.v .nils))] []) (.seq (.reg [oO 3 (.mv (.v .nils))] []) (.seq (.seq (.reg [oO 6 (.mv (.t 0)), oO 7 (.len .sl (.t 6)), oO 8 (.mv (.v (.int .i64 0)))] []) (.block 0 (.loop (.seq (.reg [oO 9 (.bin .none .lss (.t 8) (.t 7))] []) (.seq (.cond (.t 9) .skip (.exit 0)) (.seq (.block 1 (.seq (.reg [oO 10 (.iad none none (.t 6) (.t 8)), oO 11 (.load none (.t 10)), oO 5 (.mv (.t 11))] []) (.seq (.reg [oO 12 (.mv (.t 5)), oO 13 (.bin .none .geq (.t 12) (.v (.int .i64 0))), oO 14 (.mv (.t 13)), ⟨(some 15), some (14, true), .op (.mv (.t 3))⟩, ⟨(some 16), some (14, true), .op (.mv (.t 5))⟩, ⟨(some 17), some (14, true), .call 48 [(.t 15), (.t 16)]⟩, ⟨(some 18), some (14, true), .op (.un .not (.t 17))⟩, oO 19 (.pick (.t 14) (.t 18) (.v (.bool false)))] []) (.cond (.t 19) (.reg [oO 20 (.mv (.t 3)), oO 21 (.mv (.t 5)), oO 22 (.bsl none [(.int .i64 0)] 1 [(0, 1, (.t 21))]), oO 23 (.app none 8 (.t 20) (.t 22)), oO 3 (.mv (.t 23))] []) .skip)))) (.reg [oO 24 (.bin .none .add (.t 8) (.v (.int .i64 1))), oO 8 (.mv (.t 24))] []))))))) (.seq (.reg [oO 25 (.mv (.t 3)), oO 2 (.mv (.t 25))] []) .ret))))
theorem fn73 : Fn3 Tryd.prog 73 26 [(2, none)] fc73 := ⟨_, _, Tryd.func73, rfl, rfl, rfl, by kernel_rfl⟩
def ir_once_s (l_00 : (List Int)) : Option (List Int) :=
  ((rng (fun (i_2 : Nat) (p_3 : Int) (s_1 : (List Int)) => ((jp (fun (s_6 : Bool) => (if s_6 then ((appL 8 s_1 [p_3]).bind fun l_8 => (some (.nxt l_8))) else (some (.nxt s_1)))) (fun k_5 => (if (decide (p_3 ≥ 0)) then ((slices_Contains_r_s s_1 p_3).bind fun (con_7 : Bool) => (k_5 (!con_7))) else (k_5 false)))) : Option (Stp (List Int) (Option (List Int))))) l_00 []).bind (oc (fun (s_1 : (List Int)) => (some s_1))))
theorem ir_once_ev {l_00 : (List Int)} {r : (List Int)} (h : ir_once_s l_00 = some r) : PureEv Tryd.prog 73 [(.sl false 1 (List.map (avI .i64) l_00))] (.sl false 1 (List.map (avI .i64) r)) := by
 unfold ir_once_s at h
 refine PureEv_end mixed fn73 (by simp) [23] 6 ?_
 unfold fc73
 refine E_sq (E_reg (E_mv (v' := .nils) rfl (E_nil (E_nx (E_sq (E_reg (E_mv (v' := .nils) rfl (E_nil (E_nx (E_as (E_sq (E_reg (E_mv (v' := (.sl false 1 (List.map (avI .i64) l_00))) rfl (E_len rfl (E_mv (v' := .int .i64 0) rfl ?_)))))))))))))))
 refine E_nil (E_nx (E_sq ?_))
 refine E_rngO (fun s_1 => [(3, (.ref 0 1 0 (List.length s_1) none)), (6, (.sl false 1 (List.map (avI .i64) l_00)))]) (fun s_1 => [.arr 1 (flat (avI .i64) s_1)]) h (by decide) (by decide) (fun _ => ⟨rfl, rfl, rfl, rfl⟩) (wk_rn [none] rfl (Nat.le_of_ble_eq_true rfl) ⟨(rn_obN rfl rfl rfl), trivial⟩ ⟨(rn_b rfl), (rn_b rfl), (rn_nil rfl), (rn_b ((encI .i64).blws 0)), trivial⟩) (fun i_2 p_3 s_1 c hx_4 hlt h => ?_) (fun s_1 fr' S' h hw => ?_)
 {
 refine E_sq (E_reg (E_iadF rfl rfl (getI_of hx_4) (E_op0 (v' := .int .i64 p_3) rfl rfl (E_mv (v' := .int .i64 p_3) rfl (E_nil (E_nx ?_))))))
 refine E_jp h (fun s_6 => [(3, (.ref 0 1 0 (List.length s_1) none)), (5, (.int .i64 p_3)), (6, (.sl false 1 (List.map (avI .i64) l_00))), (7, (.int .i64 (List.length l_00 : Int))), (8, (.int .i64 (i_2 : Int))), (19, (.bool s_6))]) (fun s_6 => [.arr 1 (flat (avI .i64) s_1)]) (fun k_5 h => ?_) (fun s_6 h => ?_)
 {
 refine E_reg (E_mv (v' := .int .i64 p_3) rfl (E_op0 (v' := (.bool (decide (p_3 ≥ 0)))) rfl rfl (E_mv (v' := (.bool (decide (p_3 ≥ 0)))) rfl ?_)))
 refine E_gsT (b := (decide (p_3 ≥ 0))) rfl rfl rfl (fun hb => ?_) (fun hb => ?_)
 {
 rw [ite_t hb] at h
 refine E_mv (v' := (.ref 0 1 0 (List.length s_1) none)) rfl (E_gh rfl (E_mv (v' := .int .i64 p_3) rfl (E_gh rfl ?_)))
 obtain ⟨con_7, hcon_7, h⟩ := bd_some h
 refine E_callF (S' := [.arr 1 (flat (avI .i64) s_1)]) (r' := (.bool con_7)) (slices_Contains_r_ev hcon_7) [0] rfl rfl (by decide) rfl rfl ⟨(fr_in rfl rfl (.refl ((encI .i64).blwf 0 _))), trivial⟩ ⟨(fr_outS rfl rfl (.refl ((encI .i64).blwf 0 _)) rfl rfl), trivial⟩ ⟨.inl rfl, trivial⟩ rfl (.cons (fi_ref rfl rfl rfl rfl) (.cons (.base rfl (.refl _)) (.nil (Nat.zero_le _)))) (rn_b rfl) ?_
 refine E_gh rfl (E_op0 (v' := .bool (!con_7)) rfl rfl (E_pt rfl rfl (E_nil ?_)))
 exact E_jx _ h (wk_rn [some (0, 0)] rfl (Nat.le_of_ble_eq_true rfl) ⟨(rn_ob rfl rfl (.refl ((encI .i64).blwf 0 _)) rfl), trivial⟩ ⟨(rn_refL (encI .i64) rfl rfl rfl), (rn_b rfl), (rn_b ((encI .i64).blws 0)), (rn_b rfl), (rn_b rfl), (rn_b rfl), trivial⟩)
 }
 {
 rw [ite_f hb] at h
 refine E_gm rfl (E_gm rfl (E_gm rfl (E_pf rfl rfl (E_nil ?_))))
 exact E_jx _ h (wk_rn [some (0, 0)] rfl (Nat.le_of_ble_eq_true rfl) ⟨(rn_ob rfl rfl (.refl ((encI .i64).blwf 0 _)) rfl), trivial⟩ ⟨(rn_refL (encI .i64) rfl rfl rfl), (rn_b rfl), (rn_b ((encI .i64).blws 0)), (rn_b rfl), (rn_b rfl), (rn_b rfl), trivial⟩)
 }
 }
 {
 refine E_cs (t := s_6) rfl (fun hb => ?_) (fun hb => ?_)
 {
 rw [ite_t hb] at h
 refine E_reg (E_mv (v' := (.ref 0 1 0 (List.length s_1) none)) rfl (E_mv (v' := .int .i64 p_3) rfl (E_opw (v' := (.sl true 1 (List.map (avI .i64) [p_3]))) rfl (.refl _) rfl ?_)))
 obtain ⟨l_8, hl_8, h⟩ := bd_some h
 refine E_apL (S' := [.arr 2 (flat (avI .i64) l_8)]) (encI .i64) rfl (src_sl [p_3]) rfl hl_8 rfl (E_mv (v' := (.ref 0 2 0 (List.length l_8) none)) rfl (E_nil ?_))
 cases h
 exact L_nn rfl (wk_rn [some (0, 0)] rfl (Nat.le_of_ble_eq_true rfl) ⟨(rn_ob rfl rfl (.refl ((encI .i64).blwf 0 _)) rfl), trivial⟩ ⟨(rn_b rfl), (rn_b rfl), (rn_refL (encI .i64) rfl rfl rfl), (rn_b ((encI .i64).blws 0)), trivial⟩)
 }
 {
 rw [ite_f hb] at h
 refine E_skip ?_
 cases h
 exact L_nn rfl (wk_rn [some (0, 0)] rfl (Nat.le_of_ble_eq_true rfl) ⟨(rn_ob rfl rfl (.refl ((encI .i64).blwf 0 _)) rfl), trivial⟩ ⟨(rn_b rfl), (rn_b rfl), (rn_refL (encI .i64) rfl rfl rfl), (rn_b ((encI .i64).blws 0)), trivial⟩)
 }
 }
 }
 {
 refine X_nx hw (E_sq (E_reg (E_mv (v' := (.ref 0 1 0 (List.length s_1) none)) rfl (E_mv (v' := (.ref 0 1 0 (List.length s_1) none)) rfl (E_nil (E_nx (E_ret ?_)))))))
 cases h
 exact ⟨trivial, _, rfl, (fz_ref (encI .i64) (Nat.zero_le _) rfl)⟩
 }
def fc47 : FC := (.seq (.reg [oO 1 (.box (.t 0)), oO 2 (.mv (.v .nils))] []) (.seq (.seq (.reg [oO 3 (.fad 0 (.t 1)), oO 4 (.load none (.t 3))] []) (.block 0 (.seq (.seq (.reg [oO 6 (.bin .none .eql (.t 4) (.v (.int .u8 1))), oO 5 (.mv (.t 6))] []) (.cond (.t 5) .skip (.seq (.reg [oO 7 (.bin .none .eql (.t 4) (.v (.int .u8 2))), oO 5 (.mv (.t 7))] []) (.cond (.t 5) .skip (.seq (.reg [oO 8 (.bin .none .eql (.t 4) (.v (.int .u8 3))), oO 5 (.mv (.t 8))] []) (.cond (.t 5) .skip (.seq (.reg [oO 9 (.bin .none .eql (.t 4) (.v (.int .u8 4))), oO 5 (.mv (.t 9))] []) (.cond (.t 5) .skip (.seq (.reg [oO 10 (.bin .none .eql (.t 4) (.v (.int .u8 6))), oO 5 (.mv (.t 10))] []) (.cond (.t 5) .skip (.seq (.reg [oO 11 (.bin .none .eql (.t 4) (.v (.int .u8 7))), oO 5 (.mv (.t 11))] []) (.cond (.t 5) .skip (.seq (.reg [oO 12 (.bin .none .eql (.t 4) (.v (.int .u8 11))), oO 5 (.mv (.t 12))] []) (.cond (.t 5) .skip (.reg [oO 13 (.bin .none .eql (.t 4) (.v (.int .u8 16))), oO 5 (.mv (.t 13))] []))))))))))))))) (.cond (.t 5) (.seq (.reg [oO 14 (.fad 2 (.t 1)), oO 15 (.load none (.t 14)), oO 16 (.bsl none [(.int .i64 0)] 1 [(0, 1, (.t 15))]), ⟨(some 17), none, .call 73 [(.t 16)]⟩, oO 2 (.mv (.t 17))] []) .ret) (.seq (.reg [oO 19 (.bin .none .eql (.t 4) (.v (.int .u8 15))), oO 18 (.mv (.t 19))] []) (.cond (.t 18) (.seq (.reg [oO 20 (.fad 2 (.t 1)), oO 21 (.load none (.t 20)), oO 22 (.fad 3 (.t 1)), oO 23 (.load none (.t 22)), oO 24 (.bsl none [(.int .i64 0)] 2 [(0, 1, (.t 21)), (1, 1, (.t 23))]), ⟨(some 25), none, .call 73 [(.t 24)]⟩, oO 2 (.mv (.t 25))] []) .ret) .skip)))))) (.seq (.reg [oO 2 (.mv (.v .nils))] []) .ret)))
theorem fn47 : Fn3 Tryd.prog 47 26 [(2, none)] fc47 := ⟨_, _, Tryd.func47, rfl, rfl, rfl, by kernel_rfl⟩
def ir_Writes_s (n_00 : Node) : Option (List Int) :=
  (jp (fun (s_2 : Bool) => (if s_2 then ((ir_once_s ([n_00.D])).bind fun onc_3 => (some onc_3)) else (if (n_00.Op == 15) then ((ir_once_s ([n_00.D, n_00.E])).bind fun onc_4 => (some onc_4)) else (some [])))) (fun k_1 => (if (n_00.Op == 1) then (k_1 (n_00.Op == 1)) else (if (n_00.Op == 2) then (k_1 (n_00.Op == 2)) else (if (n_00.Op == 3) then (k_1 (n_00.Op == 3)) else (if (n_00.Op == 4) then (k_1 (n_00.Op == 4)) else (if (n_00.Op == 6) then (k_1 (n_00.Op == 6)) else (if (n_00.Op == 7) then (k_1 (n_00.Op == 7)) else (if (n_00.Op == 11) then (k_1 (n_00.Op == 11)) else (k_1 (n_00.Op == 16)))))))))))
theorem ir_Writes_ev {n_00 : Node} {r : (List Int)} (h : ir_Writes_s n_00 = some r) : PureEv Tryd.prog 47 [(Node.av n_00)] (.sl false 1 (List.map (avI .i64) r)) := by
 unfold ir_Writes_s at h
 refine PureEv_end mixed fn47 (by simp) [] 6 ?_
 unfold fc47
 refine E_sq (E_reg (E_op0 (v' := (.cptr (Node.av n_00).cells 0)) rfl rfl (E_mv (v' := .nils) rfl (E_nil (E_nx (E_as (E_sq (E_reg (E_op0 (v' := (.cptr (Node.av n_00).cells 0)) rfl rfl (E_op0 (v' := .int .u8 n_00.Op) rfl rfl (E_nil (E_nx (E_sq (E_block (E_as ?_)))))))))))))))
 refine E_sq (E_reg (E_op0 (v' := .bool (n_00.Op == 1)) rfl rfl (E_mv (v' := .bool (n_00.Op == 1)) rfl (E_nil (E_nx ?_)))))
 refine E_jp h (fun s_2 => [(1, (.cptr (Node.av n_00).cells 0)), (4, (.int .u8 n_00.Op)), (5, (.bool s_2))]) (fun s_2 => []) (fun k_1 h => ?_) (fun s_2 h => ?_)
 {
 refine E_cs (t := (n_00.Op == 1)) rfl (fun hb => ?_) (fun hb => ?_)
 {
 rw [ite_t hb] at h
 refine E_skip ?_
 exact E_jx _ h (wk_aw ⟨(.refl _), (.refl _), (.refl _), trivial⟩)
 }
 {
 rw [ite_f hb] at h
 refine E_sq (E_reg (E_op0 (v' := .bool (n_00.Op == 2)) rfl rfl (E_mv (v' := .bool (n_00.Op == 2)) rfl (E_nil (E_nx ?_)))))
 refine E_cs (t := (n_00.Op == 2)) rfl (fun hb => ?_) (fun hb => ?_)
 {
 rw [ite_t hb] at h
 refine E_skip ?_
 exact E_jx _ h (wk_aw ⟨(.refl _), (.refl _), (.refl _), trivial⟩)
 }
 {
 rw [ite_f hb] at h
 refine E_sq (E_reg (E_op0 (v' := .bool (n_00.Op == 3)) rfl rfl (E_mv (v' := .bool (n_00.Op == 3)) rfl (E_nil (E_nx ?_)))))
 refine E_cs (t := (n_00.Op == 3)) rfl (fun hb => ?_) (fun hb => ?_)
 {
 rw [ite_t hb] at h
 refine E_skip ?_
 exact E_jx _ h (wk_aw ⟨(.refl _), (.refl _), (.refl _), trivial⟩)
 }
 {
 rw [ite_f hb] at h
 refine E_sq (E_reg (E_op0 (v' := .bool (n_00.Op == 4)) rfl rfl (E_mv (v' := .bool (n_00.Op == 4)) rfl (E_nil (E_nx ?_)))))
 refine E_cs (t := (n_00.Op == 4)) rfl (fun hb => ?_) (fun hb => ?_)
 {
 rw [ite_t hb] at h
 refine E_skip ?_
 exact E_jx _ h (wk_aw ⟨(.refl _), (.refl _), (.refl _), trivial⟩)
 }
 {
 rw [ite_f hb] at h
 refine E_sq (E_reg (E_op0 (v' := .bool (n_00.Op == 6)) rfl rfl (E_mv (v' := .bool (n_00.Op == 6)) rfl (E_nil (E_nx ?_)))))
 refine E_cs (t := (n_00.Op == 6)) rfl (fun hb => ?_) (fun hb => ?_)
 {
 rw [ite_t hb] at h
 refine E_skip ?_
 exact E_jx _ h (wk_aw ⟨(.refl _), (.refl _), (.refl _), trivial⟩)
 }
 {
 rw [ite_f hb] at h
 refine E_sq (E_reg (E_op0 (v' := .bool (n_00.Op == 7)) rfl rfl (E_mv (v' := .bool (n_00.Op == 7)) rfl (E_nil (E_nx ?_)))))
 refine E_cs (t := (n_00.Op == 7)) rfl (fun hb => ?_) (fun hb => ?_)
 {
 rw [ite_t hb] at h
 refine E_skip ?_
 exact E_jx _ h (wk_aw ⟨(.refl _), (.refl _), (.refl _), trivial⟩)
 }
 {
 rw [ite_f hb] at h
 refine E_sq (E_reg (E_op0 (v' := .bool (n_00.Op == 11)) rfl rfl (E_mv (v' := .bool (n_00.Op == 11)) rfl (E_nil (E_nx ?_)))))
 refine E_cs (t := (n_00.Op == 11)) rfl (fun hb => ?_) (fun hb => ?_)
 {
 rw [ite_t hb] at h
 refine E_skip ?_
 exact E_jx _ h (wk_aw ⟨(.refl _), (.refl _), (.refl _), trivial⟩)
 }
 {
 rw [ite_f hb] at h
 refine E_reg (E_op0 (v' := .bool (n_00.Op == 16)) rfl rfl (E_mv (v' := .bool (n_00.Op == 16)) rfl (E_nil ?_)))
 exact E_jx _ h (wk_aw ⟨(.refl _), (.refl _), (.refl _), trivial⟩)
 }
 }
 }
 }
 }
 }
 }
 }
 {
 refine E_cs (t := s_2) rfl (fun hb => ?_) (fun hb => ?_)
 {
 rw [ite_t hb] at h
 refine E_sq (E_reg (E_op0 (v' := (.cptr (Node.av n_00).cells 2)) rfl rfl (E_op0 (v' := .int .i64 n_00.D) rfl rfl (E_opw (v' := (.sl true 1 (List.map (avI .i64) [n_00.D]))) rfl (.refl _) rfl ?_))))
 obtain ⟨onc_3, honc_3, h⟩ := bd_some h
 refine E_callW (ir_once_ev  honc_3) rfl ⟨.ex, trivial⟩ (blwL_of ⟨((encI .i64).blws 0), trivial⟩) ((encI .i64).blws 0) (E_mv (v' := (.sl false 1 (List.map (avI .i64) onc_3))) rfl (E_nil (E_nx (E_ret (E_blr (E_thr ?_))))))
 cases h
 exact ⟨trivial, _, rfl, (fz_b ((encI .i64).blws 0) (.refl _))⟩
 }
 {
 rw [ite_f hb] at h
 refine E_sq (E_reg (E_op0 (v' := .bool (n_00.Op == 15)) rfl rfl (E_mv (v' := .bool (n_00.Op == 15)) rfl (E_nil (E_nx ?_)))))
 refine E_cs (t := (n_00.Op == 15)) rfl (fun hb => ?_) (fun hb => ?_)
 {
 rw [ite_t hb] at h
 refine E_sq (E_reg (E_op0 (v' := (.cptr (Node.av n_00).cells 2)) rfl rfl (E_op0 (v' := .int .i64 n_00.D) rfl rfl (E_op0 (v' := (.cptr (Node.av n_00).cells 3)) rfl rfl (E_op0 (v' := .int .i64 n_00.E) rfl rfl (E_opw (v' := (.sl true 1 (List.map (avI .i64) [n_00.D, n_00.E]))) rfl (.refl _) rfl ?_))))))
 obtain ⟨onc_4, honc_4, h⟩ := bd_some h
 refine E_callW (ir_once_ev  honc_4) rfl ⟨.ex, trivial⟩ (blwL_of ⟨((encI .i64).blws 0), trivial⟩) ((encI .i64).blws 0) (E_mv (v' := (.sl false 1 (List.map (avI .i64) onc_4))) rfl (E_nil (E_nx (E_ret (E_blr (E_thr ?_))))))
 cases h
 exact ⟨trivial, _, rfl, (fz_b ((encI .i64).blws 0) (.refl _))⟩
 }
 {
 rw [ite_f hb] at h
 refine E_skip (E_bln (E_nx (E_sq (E_reg (E_mv (v' := .nils) rfl (E_nil (E_nx (E_ret ?_))))))))
 cases h
 exact ⟨trivial, _, rfl, (fz_b rfl .nil)⟩
 }
 }
 }
def fc59 : FC := (.seq (.reg [oO 1 (.box (.t 0)), oO 2 (.mv (.v .nils))] []) (.seq (.seq (.reg [oO 3 (.fad 0 (.t 1)), oO 4 (.load none (.t 3))] []) (.block 0 (.seq (.seq (.reg [oO 6 (.bin .none .eql (.t 4) (.v (.int .u8 2))), oO 5 (.mv (.t 6))] []) (.cond (.t 5) .skip (.seq (.reg [oO 7 (.bin .none .eql (.t 4) (.v (.int .u8 5))), oO 5 (.mv (.t 7))] []) (.cond (.t 5) .skip (.seq (.reg [oO 8 (.bin .none .eql (.t 4) (.v (.int .u8 7))), oO 5 (.mv (.t 8))] []) (.cond (.t 5) .skip (.seq (.reg [oO 9 (.bin .none .eql (.t 4) (.v (.int .u8 9))), oO 5 (.mv (.t 9))] []) (.cond (.t 5) .skip (.seq (.reg [oO 10 (.bin .none .eql (.t 4) (.v (.int .u8 12))), oO 5 (.mv (.t 10))] []) (.cond (.t 5) .skip (.seq (.reg [oO 11 (.bin .none .eql (.t 4) (.v (.int .u8 14))), oO 5 (.mv (.t 11))] []) (.cond (.t 5) .skip (.seq (.reg [oO 12 (.bin .none .eql (.t 4) (.v (.int .u8 17))), oO 5 (.mv (.t 12))] []) (.cond (.t 5) .skip (.reg [oO 13 (.bin .none .eql (.t 4) (.v (.int .u8 18))), oO 5 (.mv (.t 13))] []))))))))))))))) (.cond (.t 5) (.seq (.reg [oO 14 (.fad 4 (.t 1)), oO 15 (.load none (.t 14)), oO 16 (.bsl none [(.int .i64 0)] 1 [(0, 1, (.t 15))]), ⟨(some 17), none, .call 73 [(.t 16)]⟩, oO 2 (.mv (.t 17))] []) .ret) (.seq (.seq (.reg [oO 19 (.bin .none .eql (.t 4) (.v (.int .u8 3))), oO 18 (.mv (.t 19))] []) (.cond (.t 18) .skip (.reg [oO 20 (.bin .none .eql (.t 4) (.v (.int .u8 8))), oO 18 (.mv (.t 20))] []))) (.cond (.t 18) (.seq (.reg [oO 21 (.fad 4 (.t 1)), oO 22 (.load none (.t 21)), oO 23 (.fad 5 (.t 1)), oO 24 (.load none (.t 23)), oO 25 (.bsl none [(.int .i64 0)] 2 [(0, 1, (.t 22)), (1, 1, (.t 24))]), ⟨(some 26), none, .call 73 [(.t 25)]⟩, oO 2 (.mv (.t 26))] []) .ret) (.seq (.seq (.reg [oO 28 (.bin .none .eql (.t 4) (.v (.int .u8 11))), oO 27 (.mv (.t 28))] []) (.cond (.t 27) .skip (.reg [oO 29 (.bin .none .eql (.t 4) (.v (.int .u8 13))), oO 27 (.mv (.t 29))] []))) (.cond (.t 27) (.seq (.reg [oO 30 (.fad 9 (.t 1)), oO 31 (.load none (.t 30)), ⟨(some 32), none, .call 73 [(.t 31)]⟩, oO 2 (.mv (.t 32))] []) .ret) .skip)))))))) (.seq (.reg [oO 2 (.mv (.v .nils))] []) .ret)))
theorem fn59 : Fn3 Tryd.prog 59 33 [(2, none)] fc59 := ⟨_, _, Tryd.func59, rfl, rfl, rfl, by kernel_rfl⟩
def ir_Reads_s (n_00 : Node) : Option (List Int) :=
  (jp (fun (s_2 : Bool) => (if s_2 then ((ir_once_s ([n_00.A])).bind fun onc_3 => (some onc_3)) else (jp (fun (s_5 : Bool) => (if s_5 then ((ir_once_s ([n_00.A, n_00.B])).bind fun onc_6 => (some onc_6)) else (jp (fun (s_8 : Bool) => (if s_8 then ((ir_once_s n_00.Args).bind fun onc_9 => (some onc_9)) else (some []))) (fun k_7 => (if (n_00.Op == 11) then (k_7 (n_00.Op == 11)) else (k_7 (n_00.Op == 13))))))) (fun k_4 => (if (n_00.Op == 3) then (k_4 (n_00.Op == 3)) else (k_4 (n_00.Op == 8))))))) (fun k_1 => (if (n_00.Op == 2) then (k_1 (n_00.Op == 2)) else (if (n_00.Op == 5) then (k_1 (n_00.Op == 5)) else (if (n_00.Op == 7) then (k_1 (n_00.Op == 7)) else (if (n_00.Op == 9) then (k_1 (n_00.Op == 9)) else (if (n_00.Op == 12) then (k_1 (n_00.Op == 12)) else (if (n_00.Op == 14) then (k_1 (n_00.Op == 14)) else (if (n_00.Op == 17) then (k_1 (n_00.Op == 17)) else (k_1 (n_00.Op == 18)))))))))))
theorem ir_Reads_ev {n_00 : Node} {r : (List Int)} (h : ir_Reads_s n_00 = some r) : PureEv Tryd.prog 59 [(Node.av n_00)] (.sl false 1 (List.map (avI .i64) r)) := by
 unfold ir_Reads_s at h
 refine PureEv_end mixed fn59 (by simp) [] 6 ?_
 unfold fc59
 refine E_sq (E_reg (E_op0 (v' := (.cptr (Node.av n_00).cells 0)) rfl rfl (E_mv (v' := .nils) rfl (E_nil (E_nx (E_as (E_sq (E_reg (E_op0 (v' := (.cptr (Node.av n_00).cells 0)) rfl rfl (E_op0 (v' := .int .u8 n_00.Op) rfl rfl (E_nil (E_nx (E_sq (E_block (E_as ?_)))))))))))))))
 refine E_sq (E_reg (E_op0 (v' := .bool (n_00.Op == 2)) rfl rfl (E_mv (v' := .bool (n_00.Op == 2)) rfl (E_nil (E_nx ?_)))))
 refine E_jp h (fun s_2 => [(1, (.cptr (Node.av n_00).cells 0)), (4, (.int .u8 n_00.Op)), (5, (.bool s_2))]) (fun s_2 => []) (fun k_1 h => ?_) (fun s_2 h => ?_)
 {
 refine E_cs (t := (n_00.Op == 2)) rfl (fun hb => ?_) (fun hb => ?_)
 {
 rw [ite_t hb] at h
 refine E_skip ?_
 exact E_jx _ h (wk_aw ⟨(.refl _), (.refl _), (.refl _), trivial⟩)
 }
 {
 rw [ite_f hb] at h
 refine E_sq (E_reg (E_op0 (v' := .bool (n_00.Op == 5)) rfl rfl (E_mv (v' := .bool (n_00.Op == 5)) rfl (E_nil (E_nx ?_)))))
 refine E_cs (t := (n_00.Op == 5)) rfl (fun hb => ?_) (fun hb => ?_)
 {
 rw [ite_t hb] at h
 refine E_skip ?_
 exact E_jx _ h (wk_aw ⟨(.refl _), (.refl _), (.refl _), trivial⟩)
 }
 {
 rw [ite_f hb] at h
 refine E_sq (E_reg (E_op0 (v' := .bool (n_00.Op == 7)) rfl rfl (E_mv (v' := .bool (n_00.Op == 7)) rfl (E_nil (E_nx ?_)))))
 refine E_cs (t := (n_00.Op == 7)) rfl (fun hb => ?_) (fun hb => ?_)
 {
 rw [ite_t hb] at h
 refine E_skip ?_
 exact E_jx _ h (wk_aw ⟨(.refl _), (.refl _), (.refl _), trivial⟩)
 }
 {
 rw [ite_f hb] at h
 refine E_sq (E_reg (E_op0 (v' := .bool (n_00.Op == 9)) rfl rfl (E_mv (v' := .bool (n_00.Op == 9)) rfl (E_nil (E_nx ?_)))))
 refine E_cs (t := (n_00.Op == 9)) rfl (fun hb => ?_) (fun hb => ?_)
 {
 rw [ite_t hb] at h
 refine E_skip ?_
 exact E_jx _ h (wk_aw ⟨(.refl _), (.refl _), (.refl _), trivial⟩)
 }
 {
 rw [ite_f hb] at h
 refine E_sq (E_reg (E_op0 (v' := .bool (n_00.Op == 12)) rfl rfl (E_mv (v' := .bool (n_00.Op == 12)) rfl (E_nil (E_nx ?_)))))
 refine E_cs (t := (n_00.Op == 12)) rfl (fun hb => ?_) (fun hb => ?_)
 {
 rw [ite_t hb] at h
 refine E_skip ?_
 exact E_jx _ h (wk_aw ⟨(.refl _), (.refl _), (.refl _), trivial⟩)
 }
 {
 rw [ite_f hb] at h
 refine E_sq (E_reg (E_op0 (v' := .bool (n_00.Op == 14)) rfl rfl (E_mv (v' := .bool (n_00.Op == 14)) rfl (E_nil (E_nx ?_)))))
 refine E_cs (t := (n_00.Op == 14)) rfl (fun hb => ?_) (fun hb => ?_)
 {
 rw [ite_t hb] at h
 refine E_skip ?_
 exact E_jx _ h (wk_aw ⟨(.refl _), (.refl _), (.refl _), trivial⟩)
 }
 {
 rw [ite_f hb] at h
 refine E_sq (E_reg (E_op0 (v' := .bool (n_00.Op == 17)) rfl rfl (E_mv (v' := .bool (n_00.Op == 17)) rfl (E_nil (E_nx ?_)))))
 refine E_cs (t := (n_00.Op == 17)) rfl (fun hb => ?_) (fun hb => ?_)
 {
 rw [ite_t hb] at h
 refine E_skip ?_
 exact E_jx _ h (wk_aw ⟨(.refl _), (.refl _), (.refl _), trivial⟩)
 }
 {
 rw [ite_f hb] at h
 refine E_reg (E_op0 (v' := .bool (n_00.Op == 18)) rfl rfl (E_mv (v' := .bool (n_00.Op == 18)) rfl (E_nil ?_)))
 exact E_jx _ h (wk_aw ⟨(.refl _), (.refl _), (.refl _), trivial⟩)
 }
 }
 }
 }
 }
 }
 }
 }
 {
 refine E_cs (t := s_2) rfl (fun hb => ?_) (fun hb => ?_)
 {
 rw [ite_t hb] at h
 refine E_sq (E_reg (E_op0 (v' := (.cptr (Node.av n_00).cells 4)) rfl rfl (E_op0 (v' := .int .i64 n_00.A) rfl rfl (E_opw (v' := (.sl true 1 (List.map (avI .i64) [n_00.A]))) rfl (.refl _) rfl ?_))))
 obtain ⟨onc_3, honc_3, h⟩ := bd_some h
 refine E_callW (ir_once_ev  honc_3) rfl ⟨.ex, trivial⟩ (blwL_of ⟨((encI .i64).blws 0), trivial⟩) ((encI .i64).blws 0) (E_mv (v' := (.sl false 1 (List.map (avI .i64) onc_3))) rfl (E_nil (E_nx (E_ret (E_blr (E_thr ?_))))))
 cases h
 exact ⟨trivial, _, rfl, (fz_b ((encI .i64).blws 0) (.refl _))⟩
 }
 {
 rw [ite_f hb] at h
 refine E_as (E_sq (E_reg (E_op0 (v' := .bool (n_00.Op == 3)) rfl rfl (E_mv (v' := .bool (n_00.Op == 3)) rfl (E_nil (E_nx ?_))))))
 refine E_jp h (fun s_5 => [(1, (.cptr (Node.av n_00).cells 0)), (4, (.int .u8 n_00.Op)), (18, (.bool s_5))]) (fun s_5 => []) (fun k_4 h => ?_) (fun s_5 h => ?_)
 {
 refine E_cs (t := (n_00.Op == 3)) rfl (fun hb => ?_) (fun hb => ?_)
 {
 rw [ite_t hb] at h
 refine E_skip ?_
 exact E_jx _ h (wk_aw ⟨(.refl _), (.refl _), (.refl _), trivial⟩)
 }
 {
 rw [ite_f hb] at h
 refine E_reg (E_op0 (v' := .bool (n_00.Op == 8)) rfl rfl (E_mv (v' := .bool (n_00.Op == 8)) rfl (E_nil ?_)))
 exact E_jx _ h (wk_aw ⟨(.refl _), (.refl _), (.refl _), trivial⟩)
 }
 }
 {
 refine E_cs (t := s_5) rfl (fun hb => ?_) (fun hb => ?_)
 {
 rw [ite_t hb] at h
 refine E_sq (E_reg (E_op0 (v' := (.cptr (Node.av n_00).cells 4)) rfl rfl (E_op0 (v' := .int .i64 n_00.A) rfl rfl (E_op0 (v' := (.cptr (Node.av n_00).cells 5)) rfl rfl (E_op0 (v' := .int .i64 n_00.B) rfl rfl (E_opw (v' := (.sl true 1 (List.map (avI .i64) [n_00.A, n_00.B]))) rfl (.refl _) rfl ?_))))))
 obtain ⟨onc_6, honc_6, h⟩ := bd_some h
 refine E_callW (ir_once_ev  honc_6) rfl ⟨.ex, trivial⟩ (blwL_of ⟨((encI .i64).blws 0), trivial⟩) ((encI .i64).blws 0) (E_mv (v' := (.sl false 1 (List.map (avI .i64) onc_6))) rfl (E_nil (E_nx (E_ret (E_blr (E_thr ?_))))))
 cases h
 exact ⟨trivial, _, rfl, (fz_b ((encI .i64).blws 0) (.refl _))⟩
 }
 {
 rw [ite_f hb] at h
 refine E_as (E_sq (E_reg (E_op0 (v' := .bool (n_00.Op == 11)) rfl rfl (E_mv (v' := .bool (n_00.Op == 11)) rfl (E_nil (E_nx ?_))))))
 refine E_jp h (fun s_8 => [(1, (.cptr (Node.av n_00).cells 0)), (27, (.bool s_8))]) (fun s_8 => []) (fun k_7 h => ?_) (fun s_8 h => ?_)
 {
 refine E_cs (t := (n_00.Op == 11)) rfl (fun hb => ?_) (fun hb => ?_)
 {
 rw [ite_t hb] at h
 refine E_skip ?_
 exact E_jx _ h (wk_aw ⟨(.refl _), (.refl _), trivial⟩)
 }
 {
 rw [ite_f hb] at h
 refine E_reg (E_op0 (v' := .bool (n_00.Op == 13)) rfl rfl (E_mv (v' := .bool (n_00.Op == 13)) rfl (E_nil ?_)))
 exact E_jx _ h (wk_aw ⟨(.refl _), (.refl _), trivial⟩)
 }
 }
 {
 refine E_cs (t := s_8) rfl (fun hb => ?_) (fun hb => ?_)
 {
 rw [ite_t hb] at h
 refine E_sq (E_reg (E_op0 (v' := (.cptr (Node.av n_00).cells 9)) rfl rfl (E_op0 (v' := (.sl false 1 (List.map (avI .i64) n_00.Args))) rfl rfl ?_)))
 obtain ⟨onc_9, honc_9, h⟩ := bd_some h
 refine E_callW (ir_once_ev  honc_9) rfl ⟨(.refl _), trivial⟩ (blwL_of ⟨((encI .i64).blws 0), trivial⟩) ((encI .i64).blws 0) (E_mv (v' := (.sl false 1 (List.map (avI .i64) onc_9))) rfl (E_nil (E_nx (E_ret (E_blr (E_thr ?_))))))
 cases h
 exact ⟨trivial, _, rfl, (fz_b ((encI .i64).blws 0) (.refl _))⟩
 }
 {
 rw [ite_f hb] at h
 refine E_skip (E_bln (E_nx (E_sq (E_reg (E_mv (v' := .nils) rfl (E_nil (E_nx (E_ret ?_))))))))
 cases h
 exact ⟨trivial, _, rfl, (fz_b rfl .nil)⟩
 }
 }
 }
 }
 }
 }
def fc80 : FC := (.seq (.reg [oO 4 (.mv (.v (.bool false)))] []) (.seq (.reg [oO 5 (.mv (.t 0)), oO 6 (.bin .ptr .neq (.t 5) (.v .nilp)), oO 7 (.mv (.t 6)), ⟨(some 8), some (7, true), .op (.mv (.t 1))⟩, ⟨(some 9), some (7, true), .op (.bin .none .geq (.t 8) (.v (.int .i64 0)))⟩, oO 10 (.pick (.t 7) (.t 9) (.v (.bool false))), oO 11 (.mv (.t 10)), ⟨(some 12), some (11, true), .op (.mv (.t 1))⟩, ⟨(some 13), some (11, true), .op (.mv (.t 0))⟩, ⟨(some 14), some (11, true), .op (.nchk (.t 13))⟩, ⟨(some 15), some (11, true), .op (.fad 0 (.t 14))⟩, ⟨(some 16), some (11, true), .op (.load none (.t 15))⟩, ⟨(some 17), some (11, true), .op (.bin .none .lss (.t 12) (.t 16))⟩, oO 18 (.pick (.t 11) (.t 17) (.v (.bool false))), oO 4 (.mv (.t 18))] []) .ret))
theorem fn80 : Fn3 Tryd.prog 80 19 [(4, none)] fc80 := ⟨_, _, Tryd.func80, rfl, rfl, rfl, by kernel_rfl⟩
def bits_Set_may_pNR_s (s_n_00 : Int) (s_words_00 : (List Int)) (i_01 : Int) : Option (Bool × Int) :=
  (jp (fun (s_2 : Bool) => (some (s_2, s_n_00))) (fun k_1 => (if (decide (i_01 ≥ 0)) then (k_1 (decide (i_01 < s_n_00))) else (k_1 false))))
theorem bits_Set_may_pNR_ev {s_n_00 : Int} {s_words_00 : (List Int)} {i_01 : Int} {r : (Bool × Int)} (h : bits_Set_may_pNR_s s_n_00 s_words_00 i_01 = some r) : Ev Tryd.prog 80 [(.ptr 0 0 0), (.int .i64 i_01)] (hp [.arr 0 [(.int .i64 s_n_00), (.ref 1 0 0 (List.length s_words_00) none)], .arr 0 (flat (avI .u64) s_words_00)]) (.bool r.1) (hp [.arr 0 [(.int .i64 r.2), (.ref 1 0 0 (List.length s_words_00) none)], .arr 0 (flat (avI .u64) s_words_00)]) := by
 unfold bits_Set_may_pNR_s at h
 refine Ev_end mixed fn80 (by simp) [] ?_
 unfold fc80
 refine E_sq (E_reg (E_mv (v' := .bool false) rfl (E_nil (E_nx ?_))))
 refine E_jp h (fun s_2 => [(4, (.bool s_2))]) (fun s_2 => [.arr 0 [(.int .i64 s_n_00), (.ref 1 0 0 (List.length s_words_00) none)], .arr 0 (flat (avI .u64) s_words_00)]) (fun k_1 h => ?_) (fun s_2 h => ?_)
 {
 refine E_reg (E_mv (v' := .ptr 0 0 0) rfl (E_op0 (v' := .bool true) rfl rfl (E_mv (v' := .bool true) rfl (E_gh rfl (E_mv (v' := .int .i64 i_01) rfl (E_gh rfl (E_op0 (v' := (.bool (decide (i_01 ≥ 0)))) rfl rfl (E_pt rfl rfl (E_mv (v' := (.bool (decide (i_01 ≥ 0)))) rfl ?_)))))))))
 refine E_gsT (b := (decide (i_01 ≥ 0))) rfl rfl rfl (fun hb => ?_) (fun hb => ?_)
 {
 rw [ite_t hb] at h
 refine E_mv (v' := .int .i64 i_01) rfl (E_gh rfl (E_mv (v' := .ptr 0 0 0) rfl (E_gh rfl (E_op0 (v' := .ptr 0 0 0) rfl rfl (E_gh rfl (E_op0 (v' := .ptr 0 0 0) rfl rfl (E_gh rfl (E_op (v' := .int .i64 s_n_00) (S' := [.arr 0 [(.int .i64 s_n_00), (.ref 1 0 0 (List.length s_words_00) none)], .arr 0 (flat (avI .u64) s_words_00)]) rfl rfl rfl (E_gh rfl (E_op0 (v' := (.bool (decide (i_01 < s_n_00)))) rfl rfl (E_pt rfl rfl (E_mv (v' := (.bool (decide (i_01 < s_n_00)))) rfl (E_nil ?_)))))))))))))
 exact E_jx _ h (wk_rn [some (0, 0), some (1, 0)] rfl (Nat.le_of_ble_eq_true rfl) ⟨(rn_obS rfl rfl (.cons (rn_b rfl) (.cons (rn_refL (encI .u64) rfl rfl rfl) (.nil (Nat.zero_le _)))) rfl), (rn_obS rfl rfl (.refl ((encI .u64).blwf 0 _)) rfl), trivial⟩ ⟨(rn_b rfl), trivial⟩)
 }
 {
 rw [ite_f hb] at h
 refine E_gm rfl (E_gm rfl (E_gm rfl (E_gm rfl (E_gm rfl (E_pf rfl rfl (E_mv (v' := .bool false) rfl (E_nil ?_)))))))
 exact E_jx _ h (wk_rn [some (0, 0), some (1, 0)] rfl (Nat.le_of_ble_eq_true rfl) ⟨(rn_obS rfl rfl (.cons (rn_b rfl) (.cons (rn_refL (encI .u64) rfl rfl rfl) (.nil (Nat.zero_le _)))) rfl), (rn_obS rfl rfl (.refl ((encI .u64).blwf 0 _)) rfl), trivial⟩ ⟨(rn_b rfl), trivial⟩)
 }
 }
 {
 refine E_ret ?_
 cases h
 exact ⟨trivial, _, _, rfl, gwk_rn [some (0, 0), some (1, 0)] rfl (Nat.le_of_ble_eq_true rfl) ⟨(rn_obS rfl rfl (.cons (rn_b rfl) (.cons (rn_refL (encI .u64) rfl rfl rfl) (.nil (Nat.zero_le _)))) rfl), (rn_obS rfl rfl (.refl ((encI .u64).blwf 0 _)) rfl), trivial⟩, (rn_b rfl)⟩
 }
def fc79 : FC := (.seq (.reg [oO 4 (.mv (.v (.bool false)))] []) (.seq (.reg [oO 5 (.mv (.t 0)), oO 6 (.mv (.t 1)), ⟨(some 7), none, .call 80 [(.t 5), (.t 6)]⟩, oO 8 (.mv (.t 7)), ⟨(some 9), some (8, true), .op (.mv (.t 0))⟩, ⟨(some 10), some (8, true), .op (.nchk (.t 9))⟩, ⟨(some 11), some (8, true), .op (.fad 1 (.t 10))⟩, ⟨(some 12), some (8, true), .op (.load none (.t 11))⟩, ⟨(some 13), some (8, true), .op (.mv (.t 1))⟩, ⟨(some 14), some (8, true), .op (.bin .none .quo (.t 13) (.v (.int .i64 64)))⟩, ⟨(some 15), some (8, true), .op (.iad none none (.t 12) (.t 14))⟩, ⟨(some 16), some (8, true), .op (.load none (.t 15))⟩, ⟨(some 17), some (8, true), .op (.mv (.t 1))⟩, ⟨(some 18), some (8, true), .op (.bin .none .rem (.t 17) (.v (.int .i64 64)))⟩, ⟨(some 19), some (8, true), .op (.cint .u64 (.t 18))⟩, ⟨(some 20), some (8, true), .op (.bin .none .shr (.t 16) (.t 19))⟩, ⟨(some 21), some (8, true), .op (.bin .none .and (.t 20) (.v (.int .u64 1)))⟩, ⟨(some 22), some (8, true), .op (.bin .none .eql (.t 21) (.v (.int .u64 1)))⟩, oO 23 (.pick (.t 8) (.t 22) (.v (.bool false))), oO 4 (.mv (.t 23))] []) .ret))
theorem fn79 : Fn3 Tryd.prog 79 24 [(4, none)] fc79 := ⟨_, _, Tryd.func79, rfl, rfl, rfl, by kernel_rfl⟩
def bits_Set_Has_pNR_s (s_n_00 : Int) (s_words_00 : (List Int)) (i_01 : Int) : Option (Bool × Int) :=
  (jp (fun (s_2 : (Bool × Int)) => (some (s_2.1, s_2.2))) (fun k_1 => ((bits_Set_may_pNR_s s_n_00 s_words_00 i_01).bind fun (may_3 : (Bool × Int)) => (if may_3.1 then ((getI s_words_00 (I64 (Int.tdiv i_01 64))).bind fun y_4 => (gd (0 ≤ (U64 (Int.tmod i_01 64))) (k_1 (((bitAnd .u64 (shR .u64 y_4 (U64 (Int.tmod i_01 64))) 1) == 1), may_3.2)))) else (k_1 (false, may_3.2))))))
theorem bits_Set_Has_pNR_ev {s_n_00 : Int} {s_words_00 : (List Int)} {i_01 : Int} {r : (Bool × Int)} (h : bits_Set_Has_pNR_s s_n_00 s_words_00 i_01 = some r) : Ev Tryd.prog 79 [(.ptr 0 0 0), (.int .i64 i_01)] (hp [.arr 0 [(.int .i64 s_n_00), (.ref 1 0 0 (List.length s_words_00) none)], .arr 0 (flat (avI .u64) s_words_00)]) (.bool r.1) (hp [.arr 0 [(.int .i64 r.2), (.ref 1 0 0 (List.length s_words_00) none)], .arr 0 (flat (avI .u64) s_words_00)]) := by
 unfold bits_Set_Has_pNR_s at h
 refine Ev_end mixed fn79 (by simp) [] ?_
 unfold fc79
 refine E_sq (E_reg (E_mv (v' := .bool false) rfl (E_nil (E_nx ?_))))
 refine E_jp h (fun s_2 => [(4, (.bool s_2.1))]) (fun s_2 => [.arr 0 [(.int .i64 s_2.2), (.ref 1 0 0 (List.length s_words_00) none)], .arr 0 (flat (avI .u64) s_words_00)]) (fun k_1 h => ?_) (fun s_2 h => ?_)
 {
 refine E_reg (E_mv (v' := .ptr 0 0 0) rfl (E_mv (v' := .int .i64 i_01) rfl ?_))
 obtain ⟨may_3, hmay_3, h⟩ := bd_some h
 refine E_callF (S' := [.arr 0 [(.int .i64 may_3.2), (.ref 1 0 0 (List.length s_words_00) none)], .arr 0 (flat (avI .u64) s_words_00)]) (r' := (.bool may_3.1)) (bits_Set_may_pNR_ev hmay_3) [0, 1] rfl rfl (by decide) rfl rfl ⟨(fr_in rfl rfl (.cons (.base rfl (.refl _)) (.cons (fi_ref rfl rfl rfl rfl) (.nil (Nat.zero_le _))))), (fr_in rfl rfl (.refl ((encI .u64).blwf 0 _))), trivial⟩ ⟨(fr_outS rfl rfl (.cons (rn_b rfl) (.cons (fo_ref rfl rfl rfl rfl) (.nil (Nat.zero_le _)))) rfl rfl), (fr_outS rfl rfl (.refl ((encI .u64).blwf 0 _)) rfl rfl), trivial⟩ ⟨.inl rfl, .inl rfl, trivial⟩ rfl (.cons (fi_ptr rfl rfl rfl rfl) (.cons (.base rfl (.refl _)) (.nil (Nat.zero_le _)))) (rn_b rfl) ?_
 refine E_mv (v' := .bool may_3.1) rfl ?_
 refine E_gsT (b := may_3.1) rfl rfl rfl (fun hb => ?_) (fun hb => ?_)
 {
 rw [ite_t hb] at h
 refine E_mv (v' := .ptr 0 0 0) rfl (E_gh rfl (E_op0 (v' := .ptr 0 0 0) rfl rfl (E_gh rfl (E_op0 (v' := .ptr 0 0 1) rfl rfl (E_gh rfl (E_op (v' := (.ref 1 0 0 (List.length s_words_00) none)) (S' := [.arr 0 [(.int .i64 may_3.2), (.ref 1 0 0 (List.length s_words_00) none)], .arr 0 (flat (avI .u64) s_words_00)]) rfl rfl rfl (E_gh rfl (E_mv (v' := .int .i64 i_01) rfl (E_gh rfl (E_op0 (v' := (.int .i64 (I64 (Int.tdiv i_01 64)))) rfl rfl (E_gh rfl ?_)))))))))))
 obtain ⟨y_4, hy_4, h⟩ := bd_some h
 refine E_iadR rfl rfl ⟨(getI_some hy_4).1, (getI_some hy_4).2.1⟩ (E_gh rfl ?_)
 refine E_ldR (encI .u64) rfl rfl (by first | rfl | exact (Nat.add_zero _).symm | (simp only [Nat.zero_add]; exact (Nat.add_zero _).symm) | (simp only [Nat.zero_add, Nat.add_zero])) (getI_some hy_4).2.2 rfl (.refl _) ?_
 refine E_gh rfl (E_mv (v' := .int .i64 i_01) rfl (E_gh rfl (E_op0 (v' := .int .i64 (Int.tmod i_01 64)) rfl rfl (E_gh rfl (E_op0 (v' := (.int .u64 (U64 (Int.tmod i_01 64)))) rfl rfl (E_gh rfl ?_))))))
 obtain ⟨hg_5, h⟩ := gd_some h
 refine E_shr rfl rfl hg_5 (E_gh rfl (E_op0 (v' := (.int .u64 (bitAnd .u64 (shR .u64 y_4 (U64 (Int.tmod i_01 64))) 1))) rfl rfl (E_gh rfl (E_op0 (v' := (.bool ((bitAnd .u64 (shR .u64 y_4 (U64 (Int.tmod i_01 64))) 1) == 1))) rfl rfl (E_pt rfl rfl (E_mv (v' := (.bool ((bitAnd .u64 (shR .u64 y_4 (U64 (Int.tmod i_01 64))) 1) == 1))) rfl (E_nil ?_)))))))
 exact E_jx _ h (wk_rn [some (0, 0), some (1, 0)] rfl (Nat.le_of_ble_eq_true rfl) ⟨(rn_obS rfl rfl (.cons (rn_b rfl) (.cons (rn_refL (encI .u64) rfl rfl rfl) (.nil (Nat.zero_le _)))) rfl), (rn_obS rfl rfl (.refl ((encI .u64).blwf 0 _)) rfl), trivial⟩ ⟨(rn_b rfl), trivial⟩)
 }
 {
 rw [ite_f hb] at h
 refine E_gm rfl (E_gm rfl (E_gm rfl (E_gm rfl (E_gm rfl (E_gm rfl (E_gm rfl (E_gm rfl (E_gm rfl (E_gm rfl (E_gm rfl (E_gm rfl (E_gm rfl (E_pf rfl rfl (E_mv (v' := .bool false) rfl (E_nil ?_)))))))))))))))
 exact E_jx _ h (wk_rn [some (0, 0), some (1, 0)] rfl (Nat.le_of_ble_eq_true rfl) ⟨(rn_obS rfl rfl (.cons (rn_b rfl) (.cons (rn_refL (encI .u64) rfl rfl rfl) (.nil (Nat.zero_le _)))) rfl), (rn_obS rfl rfl (.refl ((encI .u64).blwf 0 _)) rfl), trivial⟩ ⟨(rn_b rfl), trivial⟩)
 }
 }
 {
 refine E_ret ?_
 cases h
 exact ⟨trivial, _, _, rfl, gwk_rn [some (0, 0), some (1, 0)] rfl (Nat.le_of_ble_eq_true rfl) ⟨(rn_obS rfl rfl (.cons (rn_b rfl) (.cons (rn_refL (encI .u64) rfl rfl rfl) (.nil (Nat.zero_le _)))) rfl), (rn_obS rfl rfl (.refl ((encI .u64).blwf 0 _)) rfl), trivial⟩, (rn_b rfl)⟩
 }
def fc60 : FC := (.seq (.reg [oO 4 (.mv (.v (.bool false)))] []) (.seq (.seq (.reg [oO 5 (.mv (.t 0)), oO 6 (.mv (.t 1)), ⟨(some 7), none, .call 80 [(.t 5), (.t 6)]⟩, oO 8 (.un .not (.t 7)), oO 9 (.mv (.t 8)), ⟨(some 10), some (9, false), .op (.mv (.t 0))⟩, ⟨(some 11), some (9, false), .op (.mv (.t 1))⟩, ⟨(some 12), some (9, false), .call 79 [(.t 10), (.t 11)]⟩, oO 13 (.pick (.t 9) (.v (.bool true)) (.t 12))] []) (.cond (.t 13) (.seq (.reg [oO 4 (.mv (.v (.bool false)))] []) .ret) .skip)) (.seq (.reg [oO 14 (.mv (.t 0)), oO 15 (.nchk (.t 14)), oO 16 (.fad 1 (.t 15)), oO 17 (.load none (.t 16)), oO 18 (.mv (.t 1)), oO 19 (.bin .none .quo (.t 18) (.v (.int .i64 64))), oO 20 (.iad none none (.t 17) (.t 19)), oO 21 (.load none (.t 20)), oO 22 (.mv (.t 1)), oO 23 (.bin .none .rem (.t 22) (.v (.int .i64 64))), oO 24 (.cint .u64 (.t 23)), oO 25 (.bin .none .shl (.v (.int .u64 1)) (.t 24)), oO 26 (.bin .none .or (.t 21) (.t 25)), oO 27 (.iad none none (.t 17) (.t 19)), ⟨none, none, .op (.store 1 (.t 27) (.t 26))⟩] []) (.seq (.reg [oO 4 (.mv (.v (.bool true)))] []) .ret))))
theorem fn60 : Fn3 Tryd.prog 60 28 [(4, none)] fc60 := ⟨_, _, Tryd.func60, rfl, rfl, rfl, by kernel_rfl⟩
def bits_Set_Add_pNR_s (s_n_00 : Int) (s_words_00 : (List Int)) (i_01 : Int) : Option (Bool × Int × (List Int)) :=
  (jp (fun (s_2 : (Int × Bool × Int)) => (if s_2.2.1 then (some (false, s_2.2.2, s_words_00)) else ((getI s_words_00 (I64 (Int.tdiv s_2.1 64))).bind fun y_5 => (gd (0 ≤ (U64 (Int.tmod s_2.1 64))) ((getI s_words_00 (I64 (Int.tdiv s_2.1 64))).bind fun y_7 => (some (true, s_2.2.2, (List.set s_words_00 (Int.toNat (I64 (Int.tdiv s_2.1 64))) (bitOr .u64 y_5 (shL .u64 1 (U64 (Int.tmod s_2.1 64)))))))))))) (fun k_1 => ((bits_Set_may_pNR_s s_n_00 s_words_00 i_01).bind fun (may_3 : (Bool × Int)) => (if (!may_3.1) then (k_1 (i_01, true, may_3.2)) else ((bits_Set_Has_pNR_s may_3.2 s_words_00 i_01).bind fun (has_4 : (Bool × Int)) => (k_1 (i_01, has_4.1, has_4.2)))))))
theorem bits_Set_Add_pNR_ev {s_n_00 : Int} {s_words_00 : (List Int)} {i_01 : Int} {r : (Bool × Int × (List Int))} (h : bits_Set_Add_pNR_s s_n_00 s_words_00 i_01 = some r) : Ev Tryd.prog 60 [(.ptr 0 0 0), (.int .i64 i_01)] (hp [.arr 0 [(.int .i64 s_n_00), (.ref 1 0 0 (List.length s_words_00) none)], .arr 0 (flat (avI .u64) s_words_00)]) (.bool r.1) (hp [.arr 0 [(.int .i64 r.2.1), (.ref 1 1 0 (List.length r.2.2) none)], .arr 1 (flat (avI .u64) r.2.2)]) := by
 unfold bits_Set_Add_pNR_s at h
 refine Ev_end mixed fn60 (by simp) [] ?_
 unfold fc60
 refine E_sq (E_reg (E_mv (v' := .bool false) rfl (E_nil (E_nx (E_as ?_)))))
 refine E_jp h (fun s_2 => [(0, (.ptr 0 0 0)), (1, (.int .i64 s_2.1)), (13, (.bool s_2.2.1))]) (fun s_2 => [.arr 0 [(.int .i64 s_2.2.2), (.ref 1 0 0 (List.length s_words_00) none)], .arr 0 (flat (avI .u64) s_words_00)]) (fun k_1 h => ?_) (fun s_2 h => ?_)
 {
 refine E_reg (E_mv (v' := .ptr 0 0 0) rfl (E_mv (v' := .int .i64 i_01) rfl ?_))
 obtain ⟨may_3, hmay_3, h⟩ := bd_some h
 refine E_callF (S' := [.arr 0 [(.int .i64 may_3.2), (.ref 1 0 0 (List.length s_words_00) none)], .arr 0 (flat (avI .u64) s_words_00)]) (r' := (.bool may_3.1)) (bits_Set_may_pNR_ev hmay_3) [0, 1] rfl rfl (by decide) rfl rfl ⟨(fr_in rfl rfl (.cons (.base rfl (.refl _)) (.cons (fi_ref rfl rfl rfl rfl) (.nil (Nat.zero_le _))))), (fr_in rfl rfl (.refl ((encI .u64).blwf 0 _))), trivial⟩ ⟨(fr_outS rfl rfl (.cons (rn_b rfl) (.cons (fo_ref rfl rfl rfl rfl) (.nil (Nat.zero_le _)))) rfl rfl), (fr_outS rfl rfl (.refl ((encI .u64).blwf 0 _)) rfl rfl), trivial⟩ ⟨.inl rfl, .inl rfl, trivial⟩ rfl (.cons (fi_ptr rfl rfl rfl rfl) (.cons (.base rfl (.refl _)) (.nil (Nat.zero_le _)))) (rn_b rfl) ?_
 refine E_op0 (v' := .bool (!may_3.1)) rfl rfl (E_mv (v' := .bool (!may_3.1)) rfl ?_)
 refine E_gsT (b := (!may_3.1)) rfl rfl rfl (fun hb => ?_) (fun hb => ?_)
 {
 rw [ite_f hb] at h
 refine E_mv (v' := .ptr 0 0 0) rfl (E_gh rfl (E_mv (v' := .int .i64 i_01) rfl (E_gh rfl ?_)))
 obtain ⟨has_4, hhas_4, h⟩ := bd_some h
 refine E_callF (S' := [.arr 0 [(.int .i64 has_4.2), (.ref 1 0 0 (List.length s_words_00) none)], .arr 0 (flat (avI .u64) s_words_00)]) (r' := (.bool has_4.1)) (bits_Set_Has_pNR_ev hhas_4) [0, 1] rfl rfl (by decide) rfl rfl ⟨(fr_in rfl rfl (.cons (.base rfl (.refl _)) (.cons (fi_ref rfl rfl rfl rfl) (.nil (Nat.zero_le _))))), (fr_in rfl rfl (.refl ((encI .u64).blwf 0 _))), trivial⟩ ⟨(fr_outS rfl rfl (.cons (rn_b rfl) (.cons (fo_ref rfl rfl rfl rfl) (.nil (Nat.zero_le _)))) rfl rfl), (fr_outS rfl rfl (.refl ((encI .u64).blwf 0 _)) rfl rfl), trivial⟩ ⟨.inl rfl, .inl rfl, trivial⟩ rfl (.cons (fi_ptr rfl rfl rfl rfl) (.cons (.base rfl (.refl _)) (.nil (Nat.zero_le _)))) (rn_b rfl) ?_
 refine E_pf rfl rfl (E_nil ?_)
 exact E_jx _ h (wk_rn [some (0, 0), some (1, 0)] rfl (Nat.le_of_ble_eq_true rfl) ⟨(rn_obS rfl rfl (.cons (rn_b rfl) (.cons (rn_refL (encI .u64) rfl rfl rfl) (.nil (Nat.zero_le _)))) rfl), (rn_obS rfl rfl (.refl ((encI .u64).blwf 0 _)) rfl), trivial⟩ ⟨(rn_ptr rfl rfl rfl rfl), (rn_b rfl), (rn_b rfl), trivial⟩)
 }
 {
 rw [ite_t hb] at h
 refine E_gm rfl (E_gm rfl (E_pt rfl rfl (E_nil ?_)))
 exact E_jx _ h (wk_rn [some (0, 0), some (1, 0)] rfl (Nat.le_of_ble_eq_true rfl) ⟨(rn_obS rfl rfl (.cons (rn_b rfl) (.cons (rn_refL (encI .u64) rfl rfl rfl) (.nil (Nat.zero_le _)))) rfl), (rn_obS rfl rfl (.refl ((encI .u64).blwf 0 _)) rfl), trivial⟩ ⟨(rn_ptr rfl rfl rfl rfl), (rn_b rfl), (rn_b rfl), trivial⟩)
 }
 }
 {
 refine E_sq ?_
 refine E_cs (t := s_2.2.1) rfl (fun hb => ?_) (fun hb => ?_)
 {
 rw [ite_t hb] at h
 refine E_sq (E_reg (E_mv (v' := .bool false) rfl (E_nil (E_nx (E_ret (E_thr ?_))))))
 cases h
 exact ⟨trivial, _, _, rfl, gwk_rn [some (0, 0), some (1, 0)] rfl (Nat.le_of_ble_eq_true rfl) ⟨(rn_obS rfl rfl (.cons (rn_b rfl) (.cons (rn_refL (encI .u64) rfl rfl rfl) (.nil (Nat.zero_le _)))) rfl), (rn_obV rfl rfl (.refl ((encI .u64).blwf 0 _)) rfl rfl), trivial⟩, (rn_b rfl)⟩
 }
 {
 rw [ite_f hb] at h
 refine E_skip (E_nx (E_sq (E_reg (E_mv (v' := .ptr 0 0 0) rfl (E_op0 (v' := .ptr 0 0 0) rfl rfl (E_op0 (v' := .ptr 0 0 1) rfl rfl (E_op (v' := (.ref 1 0 0 (List.length s_words_00) none)) (S' := [.arr 0 [(.int .i64 s_2.2.2), (.ref 1 0 0 (List.length s_words_00) none)], .arr 0 (flat (avI .u64) s_words_00)]) rfl rfl rfl (E_mv (v' := .int .i64 s_2.1) rfl (E_op0 (v' := (.int .i64 (I64 (Int.tdiv s_2.1 64)))) rfl rfl ?_)))))))))
 obtain ⟨y_5, hy_5, h⟩ := bd_some h
 refine E_iadR rfl rfl ⟨(getI_some hy_5).1, (getI_some hy_5).2.1⟩ ?_
 refine E_ldR (encI .u64) rfl rfl (by first | rfl | exact (Nat.add_zero _).symm | (simp only [Nat.zero_add]; exact (Nat.add_zero _).symm) | (simp only [Nat.zero_add, Nat.add_zero])) (getI_some hy_5).2.2 rfl (.refl _) ?_
 refine E_mv (v' := .int .i64 s_2.1) rfl (E_op0 (v' := .int .i64 (Int.tmod s_2.1 64)) rfl rfl (E_op0 (v' := (.int .u64 (U64 (Int.tmod s_2.1 64)))) rfl rfl ?_))
 obtain ⟨hg_6, h⟩ := gd_some h
 refine E_shl rfl rfl hg_6 (E_op0 (v' := (.int .u64 (bitOr .u64 y_5 (shL .u64 1 (U64 (Int.tmod s_2.1 64)))))) rfl rfl ?_)
 obtain ⟨y_7, hy_7, h⟩ := bd_some h
 refine E_iadR rfl rfl ⟨(getI_some hy_7).1, (getI_some hy_7).2.1⟩ ?_
 refine E_stR (y := y_7) (y' := (bitOr .u64 y_5 (shL .u64 1 (U64 (Int.tmod s_2.1 64))))) (S' := [.arr 0 [(.int .i64 s_2.2.2), (.ref 1 0 0 (List.length s_words_00) none)], .arr 0 (flat (avI .u64) (List.set s_words_00 (Int.toNat (I64 (Int.tdiv s_2.1 64))) (bitOr .u64 y_5 (shL .u64 1 (U64 (Int.tmod s_2.1 64))))))]) (encI .u64) rfl rfl rfl (by first | rfl | exact (Nat.add_zero _).symm | (simp only [Nat.zero_add]; exact (Nat.add_zero _).symm) | (simp only [Nat.zero_add, Nat.add_zero])) (getI_some hy_7).2.2 rfl rfl (Nat.le_of_ble_eq_true rfl) rfl rfl ?_
 try rw [show List.length s_words_00 = List.length (List.set s_words_00 (Int.toNat (I64 (Int.tdiv s_2.1 64))) (bitOr .u64 y_5 (shL .u64 1 (U64 (Int.tmod s_2.1 64))))) by simp only [List.length_set]]
 refine E_nil (E_nx (E_sq (E_reg (E_mv (v' := .bool true) rfl (E_nil (E_nx (E_ret ?_)))))))
 cases h
 exact ⟨trivial, _, _, rfl, gwk_rn [some (0, 0), some (1, 0)] rfl (Nat.le_of_ble_eq_true rfl) ⟨(rn_obS rfl rfl (.cons (rn_b rfl) (.cons (rn_refL (encI .u64) rfl rfl rfl) (.nil (Nat.zero_le _)))) rfl), (rn_obV rfl rfl (.refl ((encI .u64).blwf 0 _)) rfl rfl), trivial⟩, (rn_b rfl)⟩
 }
 }
def fc58 : FC := (.seq (.reg [oO 4 (.mv (.v (.bool false)))] []) (.seq (.seq (.reg [oO 5 (.mv (.t 0)), oO 6 (.mv (.t 1)), ⟨(some 7), none, .call 79 [(.t 5), (.t 6)]⟩, oO 8 (.un .not (.t 7))] []) (.cond (.t 8) (.seq (.reg [oO 4 (.mv (.v (.bool false)))] []) .ret) .skip)) (.seq (.reg [oO 9 (.mv (.t 0)), oO 10 (.nchk (.t 9)), oO 11 (.fad 1 (.t 10)), oO 12 (.load none (.t 11)), oO 13 (.mv (.t 1)), oO 14 (.bin .none .quo (.t 13) (.v (.int .i64 64))), oO 15 (.iad none none (.t 12) (.t 14)), oO 16 (.load none (.t 15)), oO 17 (.mv (.t 1)), oO 18 (.bin .none .rem (.t 17) (.v (.int .i64 64))), oO 19 (.cint .u64 (.t 18)), oO 20 (.bin .none .shl (.v (.int .u64 1)) (.t 19)), oO 21 (.bin .none .andNot (.t 16) (.t 20)), oO 22 (.iad none none (.t 12) (.t 14)), ⟨none, none, .op (.store 1 (.t 22) (.t 21))⟩] []) (.seq (.reg [oO 4 (.mv (.v (.bool true)))] []) .ret))))
theorem fn58 : Fn3 Tryd.prog 58 23 [(4, none)] fc58 := ⟨_, _, Tryd.func58, rfl, rfl, rfl, by kernel_rfl⟩
def bits_Set_Del_pNR_s (s_n_00 : Int) (s_words_00 : (List Int)) (i_01 : Int) : Option (Bool × Int × (List Int)) :=
  ((bits_Set_Has_pNR_s s_n_00 s_words_00 i_01).bind fun (has_1 : (Bool × Int)) => (if (!has_1.1) then (some (false, has_1.2, s_words_00)) else ((getI s_words_00 (I64 (Int.tdiv i_01 64))).bind fun y_2 => (gd (0 ≤ (U64 (Int.tmod i_01 64))) ((getI s_words_00 (I64 (Int.tdiv i_01 64))).bind fun y_4 => (some (true, has_1.2, (List.set s_words_00 (Int.toNat (I64 (Int.tdiv i_01 64))) (bitAndnot .u64 y_2 (shL .u64 1 (U64 (Int.tmod i_01 64))))))))))))
theorem bits_Set_Del_pNR_ev {s_n_00 : Int} {s_words_00 : (List Int)} {i_01 : Int} {r : (Bool × Int × (List Int))} (h : bits_Set_Del_pNR_s s_n_00 s_words_00 i_01 = some r) : Ev Tryd.prog 58 [(.ptr 0 0 0), (.int .i64 i_01)] (hp [.arr 0 [(.int .i64 s_n_00), (.ref 1 0 0 (List.length s_words_00) none)], .arr 0 (flat (avI .u64) s_words_00)]) (.bool r.1) (hp [.arr 0 [(.int .i64 r.2.1), (.ref 1 1 0 (List.length r.2.2) none)], .arr 1 (flat (avI .u64) r.2.2)]) := by
 unfold bits_Set_Del_pNR_s at h
 refine Ev_end mixed fn58 (by simp) [] ?_
 unfold fc58
 refine E_sq (E_reg (E_mv (v' := .bool false) rfl (E_nil (E_nx (E_as (E_sq (E_reg (E_mv (v' := .ptr 0 0 0) rfl (E_mv (v' := .int .i64 i_01) rfl ?_)))))))))
 obtain ⟨has_1, hhas_1, h⟩ := bd_some h
 refine E_callF (S' := [.arr 0 [(.int .i64 has_1.2), (.ref 1 0 0 (List.length s_words_00) none)], .arr 0 (flat (avI .u64) s_words_00)]) (r' := (.bool has_1.1)) (bits_Set_Has_pNR_ev hhas_1) [0, 1] rfl rfl (by decide) rfl rfl ⟨(fr_in rfl rfl (.cons (.base rfl (.refl _)) (.cons (fi_ref rfl rfl rfl rfl) (.nil (Nat.zero_le _))))), (fr_in rfl rfl (.refl ((encI .u64).blwf 0 _))), trivial⟩ ⟨(fr_outS rfl rfl (.cons (rn_b rfl) (.cons (fo_ref rfl rfl rfl rfl) (.nil (Nat.zero_le _)))) rfl rfl), (fr_outS rfl rfl (.refl ((encI .u64).blwf 0 _)) rfl rfl), trivial⟩ ⟨.inl rfl, .inl rfl, trivial⟩ rfl (.cons (fi_ptr rfl rfl rfl rfl) (.cons (.base rfl (.refl _)) (.nil (Nat.zero_le _)))) (rn_b rfl) ?_
 refine E_op0 (v' := .bool (!has_1.1)) rfl rfl (E_nil (E_nx (E_sq ?_)))
 refine E_cs (t := (!has_1.1)) rfl (fun hb => ?_) (fun hb => ?_)
 {
 rw [ite_t hb] at h
 refine E_sq (E_reg (E_mv (v' := .bool false) rfl (E_nil (E_nx (E_ret (E_thr ?_))))))
 cases h
 exact ⟨trivial, _, _, rfl, gwk_rn [some (0, 0), some (1, 0)] rfl (Nat.le_of_ble_eq_true rfl) ⟨(rn_obS rfl rfl (.cons (rn_b rfl) (.cons (rn_refL (encI .u64) rfl rfl rfl) (.nil (Nat.zero_le _)))) rfl), (rn_obV rfl rfl (.refl ((encI .u64).blwf 0 _)) rfl rfl), trivial⟩, (rn_b rfl)⟩
 }
 {
 rw [ite_f hb] at h
 refine E_skip (E_nx (E_sq (E_reg (E_mv (v' := .ptr 0 0 0) rfl (E_op0 (v' := .ptr 0 0 0) rfl rfl (E_op0 (v' := .ptr 0 0 1) rfl rfl (E_op (v' := (.ref 1 0 0 (List.length s_words_00) none)) (S' := [.arr 0 [(.int .i64 has_1.2), (.ref 1 0 0 (List.length s_words_00) none)], .arr 0 (flat (avI .u64) s_words_00)]) rfl rfl rfl (E_mv (v' := .int .i64 i_01) rfl (E_op0 (v' := (.int .i64 (I64 (Int.tdiv i_01 64)))) rfl rfl ?_)))))))))
 obtain ⟨y_2, hy_2, h⟩ := bd_some h
 refine E_iadR rfl rfl ⟨(getI_some hy_2).1, (getI_some hy_2).2.1⟩ ?_
 refine E_ldR (encI .u64) rfl rfl (by first | rfl | exact (Nat.add_zero _).symm | (simp only [Nat.zero_add]; exact (Nat.add_zero _).symm) | (simp only [Nat.zero_add, Nat.add_zero])) (getI_some hy_2).2.2 rfl (.refl _) ?_
 refine E_mv (v' := .int .i64 i_01) rfl (E_op0 (v' := .int .i64 (Int.tmod i_01 64)) rfl rfl (E_op0 (v' := (.int .u64 (U64 (Int.tmod i_01 64)))) rfl rfl ?_))
 obtain ⟨hg_3, h⟩ := gd_some h
 refine E_shl rfl rfl hg_3 (E_op0 (v' := (.int .u64 (bitAndnot .u64 y_2 (shL .u64 1 (U64 (Int.tmod i_01 64)))))) rfl rfl ?_)
 obtain ⟨y_4, hy_4, h⟩ := bd_some h
 refine E_iadR rfl rfl ⟨(getI_some hy_4).1, (getI_some hy_4).2.1⟩ ?_
 refine E_stR (y := y_4) (y' := (bitAndnot .u64 y_2 (shL .u64 1 (U64 (Int.tmod i_01 64))))) (S' := [.arr 0 [(.int .i64 has_1.2), (.ref 1 0 0 (List.length s_words_00) none)], .arr 0 (flat (avI .u64) (List.set s_words_00 (Int.toNat (I64 (Int.tdiv i_01 64))) (bitAndnot .u64 y_2 (shL .u64 1 (U64 (Int.tmod i_01 64))))))]) (encI .u64) rfl rfl rfl (by first | rfl | exact (Nat.add_zero _).symm | (simp only [Nat.zero_add]; exact (Nat.add_zero _).symm) | (simp only [Nat.zero_add, Nat.add_zero])) (getI_some hy_4).2.2 rfl rfl (Nat.le_of_ble_eq_true rfl) rfl rfl ?_
 try rw [show List.length s_words_00 = List.length (List.set s_words_00 (Int.toNat (I64 (Int.tdiv i_01 64))) (bitAndnot .u64 y_2 (shL .u64 1 (U64 (Int.tmod i_01 64))))) by simp only [List.length_set]]
 refine E_nil (E_nx (E_sq (E_reg (E_mv (v' := .bool true) rfl (E_nil (E_nx (E_ret ?_)))))))
 cases h
 exact ⟨trivial, _, _, rfl, gwk_rn [some (0, 0), some (1, 0)] rfl (Nat.le_of_ble_eq_true rfl) ⟨(rn_obS rfl rfl (.cons (rn_b rfl) (.cons (rn_refL (encI .u64) rfl rfl rfl) (.nil (Nat.zero_le _)))) rfl), (rn_obV rfl rfl (.refl ((encI .u64).blwf 0 _)) rfl rfl), trivial⟩, (rn_b rfl)⟩
 }
def bits_Set_List_pNR_s (fuel : Nat) (s_n_00 : Int) (s_words_00 : (List Int)) : Option ((List Int) × Int) :=
  ((rni (fun (i_2 : Nat) (s_1 : (List Int)) => (((getI s_words_00 (i_2 : Int)).bind fun y_3 => ((whileN (fun (s_4 : (Int × (List Int))) => ((if (s_4.1 != 0) then ((math_bits_TrailingZeros64_s s_4.1).bind fun tra_5 => ((appL 8 s_4.2 [(I64 ((I64 (64 * (i_2 : Int))) + tra_5))]).bind fun l_6 => (some (.nxt ((bitAnd .u64 s_4.1 (U64 (s_4.1 - 1))), l_6))))) else (some (.brk (s_4.1, s_4.2)))) : Option (Stp (Int × (List Int)) (Option (Stp (List Int) (Option ((List Int) × Int))))))) fuel (y_3, s_1)).bind (oc (fun (s_4 : (Int × (List Int))) => (some (.nxt s_4.2)))))) : Option (Stp (List Int) (Option ((List Int) × Int))))) (List.length s_words_00 : Int) []).bind (oc (fun (s_1 : (List Int)) => (some (s_1, s_n_00)))))
theorem bits_Set_List_pNR_ev {fuel : Nat} {s_n_00 : Int} {s_words_00 : (List Int)} {r : ((List Int) × Int)} (h : bits_Set_List_pNR_s fuel s_n_00 s_words_00 = some r) : Ev Tryd.prog 61 [(.ptr 0 0 0)] (hp [.arr 0 [(.int .i64 s_n_00), (.ref 1 0 0 (List.length s_words_00) none)], .arr 0 (flat (avI .u64) s_words_00)]) (.sl false 1 (List.map (avI .i64) r.1)) (hp [.arr 0 [(.int .i64 r.2), (.ref 1 0 0 (List.length s_words_00) none)], .arr 0 (flat (avI .u64) s_words_00)]) := by
 unfold bits_Set_List_pNR_s at h
 refine Ev_end mixed fn61 (by simp) [31] ?_
 unfold fc61
 refine E_sq (E_reg (E_mv (v' := .nils) rfl (E_nil (E_nx (E_sq (E_reg (E_mv (v' := .nils) rfl (E_nil (E_nx (E_as (E_sq (E_reg (E_mv (v' := .ptr 0 0 0) rfl (E_op0 (v' := .bool true) rfl rfl (E_nil ?_)))))))))))))))
 refine E_nx (E_sq (E_ct rfl (E_sq (E_reg (E_mv (v' := .ptr 0 0 0) rfl (E_op0 (v' := .ptr 0 0 0) rfl rfl (E_op0 (v' := .ptr 0 0 1) rfl rfl (E_op (v' := (.ref 1 0 0 (List.length s_words_00) none)) (S' := [.arr 0 [(.int .i64 s_n_00), (.ref 1 0 0 (List.length s_words_00) none)], .arr 0 (flat (avI .u64) s_words_00)]) rfl rfl rfl (E_lenR rfl (E_mv (v' := .int .i64 0) rfl (E_nil (E_nx ?_))))))))))))
 refine E_rniO (fun s_1 => [(3, (.ref 2 1 0 (List.length s_1) none)), (11, (.ref 1 0 0 (List.length s_words_00) none))]) (fun s_1 => [.arr 0 [(.int .i64 s_n_00), (.ref 1 0 0 (List.length s_words_00) none)], .arr 0 (flat (avI .u64) s_words_00), .arr 1 (flat (avI .i64) s_1)]) h (by decide) (by decide) (fun _ => ⟨rfl, rfl, rfl, rfl⟩) (wk_rn [some (0, 0), some (1, 0), none] rfl (Nat.le_of_ble_eq_true rfl) ⟨(rn_obS rfl rfl (.cons (rn_b rfl) (.cons (rn_refL (encI .u64) rfl rfl rfl) (.nil (Nat.zero_le _)))) rfl), (rn_obS rfl rfl (.refl ((encI .u64).blwf 0 _)) rfl), (rn_obN rfl rfl rfl), trivial⟩ ⟨(rn_b rfl), (rn_b rfl), (rn_nil rfl), (rn_refL (encI .u64) rfl rfl rfl), trivial⟩) (fun i_2 s_1 c hlt h => ?_) (fun s_1 fr' S' h hw => ?_)
 {
 refine E_sq (E_reg (E_mv (v' := .int .i64 (i_2 : Int)) rfl ?_))
 obtain ⟨y_3, hy_3, h⟩ := bd_some h
 refine E_iadR rfl rfl ⟨(getI_some hy_3).1, (getI_some hy_3).2.1⟩ ?_
 refine E_ldR (encI .u64) rfl rfl (by first | rfl | exact (Nat.add_zero _).symm | (simp only [Nat.zero_add]; exact (Nat.add_zero _).symm) | (simp only [Nat.zero_add, Nat.add_zero])) (getI_some hy_3).2.2 rfl (.refl _) ?_
 refine E_mv (v' := .int .i64 (i_2 : Int)) rfl (E_mv (v' := .int .u64 y_3) rfl (E_nil (E_nx ?_)))
 refine E_whileO (fun s_4 => [(3, (.ref 2 1 0 (List.length s_4.2) none)), (4, (.int .i64 (i_2 : Int))), (5, (.int .u64 s_4.1)), (11, (.ref 1 0 0 (List.length s_words_00) none)), (12, (.int .i64 (List.length s_words_00 : Int))), (13, (.int .i64 (i_2 : Int)))]) (fun s_4 => [.arr 0 [(.int .i64 s_n_00), (.ref 1 0 0 (List.length s_words_00) none)], .arr 0 (flat (avI .u64) s_words_00), .arr 1 (flat (avI .i64) s_4.2)]) h (wk_rn [some (0, 0), some (1, 0), some (2, 0)] rfl (Nat.le_of_ble_eq_true rfl) ⟨(rn_obS rfl rfl (.cons (rn_b rfl) (.cons (rn_refL (encI .u64) rfl rfl rfl) (.nil (Nat.zero_le _)))) rfl), (rn_obS rfl rfl (.refl ((encI .u64).blwf 0 _)) rfl), (rn_ob rfl rfl (.refl ((encI .i64).blwf 0 _)) rfl), trivial⟩ ⟨(rn_refL (encI .i64) rfl rfl rfl), (rn_b rfl), (rn_b rfl), (rn_refL (encI .u64) rfl rfl rfl), (rn_b rfl), (rn_b rfl), trivial⟩) (fun s_4 c h => ?_) (fun s_4 fr' S' h hw => ?_)
 {
 refine E_as (E_sq (E_reg (E_mv (v' := .int .u64 s_4.1) rfl (E_op0 (v' := .bool (s_4.1 != 0)) rfl rfl (E_nil (E_nx (E_sq ?_)))))))
 refine E_cs (t := (s_4.1 != 0)) rfl (fun hb => ?_) (fun hb => ?_)
 {
 rw [ite_t hb] at h
 refine E_skip (E_nx (E_sq (E_block (E_reg (E_mv (v' := (.ref 2 1 0 (List.length s_4.2) none)) rfl (E_mv (v' := .int .i64 (i_2 : Int)) rfl (E_op0 (v' := (.int .i64 (I64 (64 * (i_2 : Int))))) rfl rfl (E_mv (v' := .int .u64 s_4.1) rfl ?_))))))))
 obtain ⟨tra_5, htra_5, h⟩ := bd_some h
 refine E_callW (math_bits_TrailingZeros64_ev  htra_5) rfl ⟨(.refl _), trivial⟩ (blwL_of ⟨rfl, trivial⟩) rfl (E_op0 (v' := (.int .i64 (I64 ((I64 (64 * (i_2 : Int))) + tra_5)))) rfl rfl (E_opw (v' := (.sl true 1 (List.map (avI .i64) [(I64 ((I64 (64 * (i_2 : Int))) + tra_5))]))) rfl (.refl _) rfl ?_))
 obtain ⟨l_6, hl_6, h⟩ := bd_some h
 refine E_apL (S' := [.arr 0 [(.int .i64 s_n_00), (.ref 1 0 0 (List.length s_words_00) none)], .arr 0 (flat (avI .u64) s_words_00), .arr 2 (flat (avI .i64) l_6)]) (encI .i64) rfl (src_sl [(I64 ((I64 (64 * (i_2 : Int))) + tra_5))]) rfl hl_6 rfl (E_mv (v' := (.ref 2 2 0 (List.length l_6) none)) rfl (E_nil (E_bln (E_nx (E_reg (E_mv (v' := .int .u64 s_4.1) rfl (E_mv (v' := .int .u64 s_4.1) rfl (E_op0 (v' := (.int .u64 (U64 (s_4.1 - 1)))) rfl rfl (E_op0 (v' := (.int .u64 (bitAnd .u64 s_4.1 (U64 (s_4.1 - 1))))) rfl rfl (E_mv (v' := (.int .u64 (bitAnd .u64 s_4.1 (U64 (s_4.1 - 1))))) rfl (E_nil ?_)))))))))))
 cases h
 exact L_nn rfl (wk_rn [some (0, 0), some (1, 0), some (2, 0)] rfl (Nat.le_of_ble_eq_true rfl) ⟨(rn_obS rfl rfl (.cons (rn_b rfl) (.cons (rn_refL (encI .u64) rfl rfl rfl) (.nil (Nat.zero_le _)))) rfl), (rn_obS rfl rfl (.refl ((encI .u64).blwf 0 _)) rfl), (rn_ob rfl rfl (.refl ((encI .i64).blwf 0 _)) rfl), trivial⟩ ⟨(rn_refL (encI .i64) rfl rfl rfl), (rn_b rfl), (rn_b rfl), (rn_refL (encI .u64) rfl rfl rfl), (rn_b rfl), (rn_b rfl), trivial⟩)
 }
 {
 rw [ite_f hb] at h
 refine E_exit (E_the ?_)
 cases h
 exact L_bk rfl rfl rfl (wk_rn [some (0, 0), some (1, 0), some (2, 0)] rfl (Nat.le_of_ble_eq_true rfl) ⟨(rn_obS rfl rfl (.cons (rn_b rfl) (.cons (rn_refL (encI .u64) rfl rfl rfl) (.nil (Nat.zero_le _)))) rfl), (rn_obS rfl rfl (.refl ((encI .u64).blwf 0 _)) rfl), (rn_ob rfl rfl (.refl ((encI .i64).blwf 0 _)) rfl), trivial⟩ ⟨(rn_refL (encI .i64) rfl rfl rfl), (rn_b rfl), (rn_b rfl), (rn_refL (encI .u64) rfl rfl rfl), (rn_b rfl), (rn_b rfl), trivial⟩)
 }
 }
 {
 cases h
 exact X_nn rfl hw (wk_rn [some (0, 0), some (1, 0), some (2, 0)] rfl (Nat.le_of_ble_eq_true rfl) ⟨(rn_obS rfl rfl (.cons (rn_b rfl) (.cons (rn_refL (encI .u64) rfl rfl rfl) (.nil (Nat.zero_le _)))) rfl), (rn_obS rfl rfl (.refl ((encI .u64).blwf 0 _)) rfl), (rn_ob rfl rfl (.refl ((encI .i64).blwf 0 _)) rfl), trivial⟩ ⟨(rn_b rfl), (rn_b rfl), (rn_refL (encI .i64) rfl rfl rfl), (rn_refL (encI .u64) rfl rfl rfl), trivial⟩)
 }
 }
 {
 refine X_nx hw (E_sq (E_reg (E_mv (v' := (.ref 2 1 0 (List.length s_1) none)) rfl (E_mv (v' := (.ref 2 1 0 (List.length s_1) none)) rfl (E_nil (E_nx (E_ret ?_)))))))
 cases h
 exact ⟨trivial, _, _, rfl, (gwk_rn (S' := [.arr 0 [(.int .i64 s_n_00), (.ref 1 0 0 (List.length s_words_00) none)], .arr 0 (flat (avI .u64) s_words_00), .arr 1 (flat (avI .i64) s_1)]) [some (0, 0), some (1, 0), some (2, 0)] rfl (Nat.le_of_ble_eq_true rfl) ⟨(rn_obS rfl rfl (.cons (rn_b rfl) (.cons (rn_refL (encI .u64) rfl rfl rfl) (.nil (Nat.zero_le _)))) rfl), (rn_obS rfl rfl (.refl ((encI .u64).blwf 0 _)) rfl), (rn_ob rfl rfl (.refl ((encI .i64).blwf 0 _)) rfl), trivial⟩).trans (gwk_fz 2 6 rfl ⟨⟨rfl, ⟨(fz_b rfl (.refl _)), (fz_b rfl (.refl _)), trivial⟩⟩, ⟨rfl, fzL_id ((encI .u64).blwf 2 _)⟩, trivial⟩), ⟨(.ref 2 1 0 (List.length s_1) none), (rn_refL (encI .i64) rfl rfl rfl), _, rfl, (fz_ref (encI .i64) (Nat.le_of_ble_eq_true rfl) rfl)⟩⟩
 }
def fc56 : FC := (.seq (.reg [oO 4 (.mv (.v (.bool false)))] []) (.seq (.reg [oO 5 (.mv (.v (.bool false)))] []) (.seq (.seq (.reg [oO 8 (.mv (.t 1)), ⟨(some 9), none, .call 61 [(.t 8)]⟩, oO 10 (.len .sl (.t 9)), oO 11 (.mv (.v (.int .i64 0)))] []) (.block 0 (.loop (.seq (.reg [oO 12 (.bin .none .lss (.t 11) (.t 10))] []) (.seq (.cond (.t 12) .skip (.exit 0)) (.seq (.block 1 (.seq (.reg [oO 13 (.iad none none (.t 9) (.t 11)), oO 14 (.load none (.t 13)), oO 7 (.mv (.t 14))] []) (.seq (.reg [oO 15 (.mv (.t 0)), oO 16 (.mv (.t 7)), ⟨(some 17), none, .call 60 [(.t 15), (.t 16)]⟩] []) (.cond (.t 17) (.reg [oO 5 (.mv (.v (.bool true)))] []) .skip)))) (.reg [oO 18 (.bin .none .add (.t 11) (.v (.int .i64 1))), oO 11 (.mv (.t 18))] []))))))) (.seq (.reg [oO 19 (.mv (.t 5)), oO 4 (.mv (.t 19))] []) .ret))))
theorem fn56 : Fn3 Tryd.prog 56 20 [(4, none)] fc56 := ⟨_, _, Tryd.func56, rfl, rfl, rfl, by kernel_rfl⟩
def bits_Set_Or_pNR_pNR_s (fuel : Nat) (s_n_00 : Int) (s_words_00 : (List Int)) (t_n_01 : Int) (t_words_01 : (List Int)) : Option (Bool × Int × (List Int) × Int) :=
  ((bits_Set_List_pNR_s fuel t_n_01 t_words_01).bind fun (vli_1 : ((List Int) × Int)) => ((rng (fun (i_3 : Nat) (i_4 : Int) (s_2 : (Bool × Int × (List Int))) => (((bits_Set_Add_pNR_s s_2.2.1 s_2.2.2 i_4).bind fun (add_6 : (Bool × Int × (List Int))) => (if add_6.1 then (some (.nxt (true, add_6.2.1, add_6.2.2))) else (some (.nxt (s_2.1, add_6.2.1, add_6.2.2))))) : Option (Stp (Bool × Int × (List Int)) (Option (Bool × Int × (List Int) × Int))))) vli_1.1 (false, s_n_00, s_words_00)).bind (oc (fun (s_2 : (Bool × Int × (List Int))) => (some (s_2.1, s_2.2.1, s_2.2.2, vli_1.2))))))
theorem bits_Set_Or_pNR_pNR_ev {fuel : Nat} {s_n_00 : Int} {s_words_00 : (List Int)} {t_n_01 : Int} {t_words_01 : (List Int)} {r : (Bool × Int × (List Int) × Int)} (h : bits_Set_Or_pNR_pNR_s fuel s_n_00 s_words_00 t_n_01 t_words_01 = some r) : Ev Tryd.prog 56 [(.ptr 0 0 0), (.ptr 2 0 0)] (hp [.arr 0 [(.int .i64 s_n_00), (.ref 1 0 0 (List.length s_words_00) none)], .arr 0 (flat (avI .u64) s_words_00), .arr 0 [(.int .i64 t_n_01), (.ref 3 0 0 (List.length t_words_01) none)], .arr 0 (flat (avI .u64) t_words_01)]) (.bool r.1) (hp [.arr 0 [(.int .i64 r.2.1), (.ref 1 1 0 (List.length r.2.2.1) none)], .arr 1 (flat (avI .u64) r.2.2.1), .arr 0 [(.int .i64 r.2.2.2), (.ref 3 0 0 (List.length t_words_01) none)], .arr 0 (flat (avI .u64) t_words_01)]) := by
 unfold bits_Set_Or_pNR_pNR_s at h
 refine Ev_end mixed fn56 (by simp) [] ?_
 unfold fc56
 refine E_sq (E_reg (E_mv (v' := .bool false) rfl (E_nil (E_nx (E_sq (E_reg (E_mv (v' := .bool false) rfl (E_nil (E_nx (E_as (E_sq (E_reg (E_mv (v' := .ptr 2 0 0) rfl ?_)))))))))))))
 obtain ⟨vli_1, hvli_1, h⟩ := bd_some h
 refine E_callF (S' := [.arr 0 [(.int .i64 s_n_00), (.ref 1 0 0 (List.length s_words_00) none)], .arr 0 (flat (avI .u64) s_words_00), .arr 0 [(.int .i64 vli_1.2), (.ref 3 0 0 (List.length t_words_01) none)], .arr 0 (flat (avI .u64) t_words_01)]) (r' := (.sl false 1 (List.map (avI .i64) vli_1.1))) (bits_Set_List_pNR_ev (fuel := fuel) hvli_1) [2, 3] rfl rfl (by decide) rfl rfl ⟨(fr_in rfl rfl (.cons (.base rfl (.refl _)) (.cons (fi_ref rfl rfl rfl rfl) (.nil (Nat.zero_le _))))), (fr_in rfl rfl (.refl ((encI .u64).blwf 0 _))), trivial⟩ ⟨(fr_outS rfl rfl (.cons (rn_b rfl) (.cons (fo_ref rfl rfl rfl rfl) (.nil (Nat.zero_le _)))) rfl rfl), (fr_outS rfl rfl (.refl ((encI .u64).blwf 0 _)) rfl rfl), trivial⟩ ⟨.inr rfl, .inr rfl, .inl rfl, .inl rfl, trivial⟩ rfl (.cons (fi_ptr rfl rfl rfl rfl) (.nil (Nat.zero_le _))) (rn_b ((encI .i64).blws 0)) ?_
 refine E_len rfl (E_mv (v' := .int .i64 0) rfl (E_nil (E_nx (E_sq ?_))))
 refine E_rngO (fun s_2 => [(0, (.ptr 0 0 0)), (5, (.bool s_2.1)), (9, (.sl false 1 (List.map (avI .i64) vli_1.1)))]) (fun s_2 => [.arr 0 [(.int .i64 s_2.2.1), (.ref 1 1 0 (List.length s_2.2.2) none)], .arr 1 (flat (avI .u64) s_2.2.2), .arr 0 [(.int .i64 vli_1.2), (.ref 3 0 0 (List.length t_words_01) none)], .arr 0 (flat (avI .u64) t_words_01)]) h (by decide) (by decide) (fun _ => ⟨rfl, rfl, rfl, rfl⟩) (wk_rn [some (0, 0), some (1, 0), some (2, 0), some (3, 0)] rfl (Nat.le_of_ble_eq_true rfl) ⟨(rn_obS rfl rfl (.cons (rn_b rfl) (.cons (rn_refL (encI .u64) rfl rfl rfl) (.nil (Nat.zero_le _)))) rfl), (rn_obV rfl rfl (.refl ((encI .u64).blwf 0 _)) rfl rfl), (rn_obS rfl rfl (.cons (rn_b rfl) (.cons (rn_refL (encI .u64) rfl rfl rfl) (.nil (Nat.zero_le _)))) rfl), (rn_obS rfl rfl (.refl ((encI .u64).blwf 0 _)) rfl), trivial⟩ ⟨(rn_b rfl), (rn_b rfl), (rn_ptr rfl rfl rfl rfl), (rn_b rfl), (rn_b ((encI .i64).blws 0)), trivial⟩) (fun i_3 i_4 s_2 c hx_5 hlt h => ?_) (fun s_2 fr' S' h hw => ?_)
 {
 refine E_sq (E_reg (E_iadF rfl rfl (getI_of hx_5) (E_op0 (v' := .int .i64 i_4) rfl rfl (E_mv (v' := .int .i64 i_4) rfl (E_nil (E_nx (E_sq (E_reg (E_mv (v' := .ptr 0 0 0) rfl (E_mv (v' := .int .i64 i_4) rfl ?_))))))))))
 obtain ⟨add_6, hadd_6, h⟩ := bd_some h
 refine E_callF (S' := [.arr 0 [(.int .i64 add_6.2.1), (.ref 1 2 0 (List.length add_6.2.2) none)], .arr 2 (flat (avI .u64) add_6.2.2), .arr 0 [(.int .i64 vli_1.2), (.ref 3 0 0 (List.length t_words_01) none)], .arr 0 (flat (avI .u64) t_words_01)]) (r' := (.bool add_6.1)) (bits_Set_Add_pNR_ev hadd_6) [0, 1] rfl rfl (by decide) rfl rfl ⟨(fr_in rfl rfl (.cons (.base rfl (.refl _)) (.cons (fi_ref rfl rfl rfl rfl) (.nil (Nat.zero_le _))))), (fr_in rfl rfl (.refl ((encI .u64).blwf 0 _))), trivial⟩ ⟨(fr_outS rfl rfl (.cons (rn_b rfl) (.cons (fo_ref rfl rfl rfl rfl) (.nil (Nat.zero_le _)))) rfl rfl), (fr_out rfl rfl (.refl ((encI .u64).blwf 0 _)) rfl rfl), trivial⟩ ⟨.inl rfl, .inl rfl, .inr rfl, .inr rfl, trivial⟩ rfl (.cons (fi_ptr rfl rfl rfl rfl) (.cons (.base rfl (.refl _)) (.nil (Nat.zero_le _)))) (rn_b rfl) ?_
 refine E_nil (E_nx ?_)
 refine E_cs (t := add_6.1) rfl (fun hb => ?_) (fun hb => ?_)
 {
 rw [ite_t hb] at h
 refine E_reg (E_mv (v' := .bool true) rfl (E_nil ?_))
 cases h
 exact L_nn rfl (wk_rn [some (0, 0), some (1, 0), some (2, 0), some (3, 0)] rfl (Nat.le_of_ble_eq_true rfl) ⟨(rn_obS rfl rfl (.cons (rn_b rfl) (.cons (rn_refL (encI .u64) rfl rfl rfl) (.nil (Nat.zero_le _)))) rfl), (rn_obV rfl rfl (.refl ((encI .u64).blwf 0 _)) rfl rfl), (rn_obS rfl rfl (.cons (rn_b rfl) (.cons (rn_refL (encI .u64) rfl rfl rfl) (.nil (Nat.zero_le _)))) rfl), (rn_obS rfl rfl (.refl ((encI .u64).blwf 0 _)) rfl), trivial⟩ ⟨(rn_b rfl), (rn_b rfl), (rn_ptr rfl rfl rfl rfl), (rn_b rfl), (rn_b ((encI .i64).blws 0)), trivial⟩)
 }
 {
 rw [ite_f hb] at h
 refine E_skip ?_
 cases h
 exact L_nn rfl (wk_rn [some (0, 0), some (1, 0), some (2, 0), some (3, 0)] rfl (Nat.le_of_ble_eq_true rfl) ⟨(rn_obS rfl rfl (.cons (rn_b rfl) (.cons (rn_refL (encI .u64) rfl rfl rfl) (.nil (Nat.zero_le _)))) rfl), (rn_obV rfl rfl (.refl ((encI .u64).blwf 0 _)) rfl rfl), (rn_obS rfl rfl (.cons (rn_b rfl) (.cons (rn_refL (encI .u64) rfl rfl rfl) (.nil (Nat.zero_le _)))) rfl), (rn_obS rfl rfl (.refl ((encI .u64).blwf 0 _)) rfl), trivial⟩ ⟨(rn_b rfl), (rn_b rfl), (rn_ptr rfl rfl rfl rfl), (rn_b rfl), (rn_b ((encI .i64).blws 0)), trivial⟩)
 }
 }
 {
 refine X_nx hw (E_sq (E_reg (E_mv (v' := .bool s_2.1) rfl (E_mv (v' := .bool s_2.1) rfl (E_nil (E_nx (E_ret ?_)))))))
 cases h
 exact ⟨trivial, _, _, rfl, gwk_rn [some (0, 0), some (1, 0), some (2, 0), some (3, 0)] rfl (Nat.le_of_ble_eq_true rfl) ⟨(rn_obS rfl rfl (.cons (rn_b rfl) (.cons (rn_refL (encI .u64) rfl rfl rfl) (.nil (Nat.zero_le _)))) rfl), (rn_obV rfl rfl (.refl ((encI .u64).blwf 0 _)) rfl rfl), (rn_obS rfl rfl (.cons (rn_b rfl) (.cons (rn_refL (encI .u64) rfl rfl rfl) (.nil (Nat.zero_le _)))) rfl), (rn_obS rfl rfl (.refl ((encI .u64).blwf 0 _)) rfl), trivial⟩, (rn_b rfl)⟩
 }
def fc78 : FC := (.seq (.reg [oO 2 (.mv (.v .nils))] []) (.seq (.seq (.reg [oO 3 (.mv (.t 0)), oO 4 (.bin .flat .eql (.t 3) (.v .nils))] []) (.cond (.t 4) (.seq (.reg [oO 2 (.mv (.v .nils))] []) .ret) .skip)) (.seq (.reg [oO 5 (.bsl none [(.int .u64 0)] 0 []), oO 6 (.mv (.t 0)), oO 7 (.app none 8 (.t 5) (.t 6)), oO 2 (.mv (.t 7))] []) .ret)))
theorem fn78 : Fn3 Tryd.prog 78 8 [(2, none)] fc78 := ⟨_, _, Tryd.func78, rfl, rfl, rfl, by kernel_rfl⟩
def slices_Clone_r_s (s_00 : List Int) : Option (List Int) :=
  ((appL 8 [] s_00).bind fun l_1 => (some l_1))
theorem slices_Clone_r_ev {s_00 : List Int} {r : List Int} (h : slices_Clone_r_s s_00 = some r) : Ev Tryd.prog 78 [.ref 0 0 0 (List.length s_00) none] (hp [.arr 0 (flat (avI .u64) s_00)]) (.ref 1 1 0 (List.length r) none) (hp [.arr 0 (flat (avI .u64) s_00), .arr 1 (flat (avI .u64) r)]) := by
 unfold slices_Clone_r_s at h
 obtain ⟨l_1, hl_1, h2⟩ := bd_some h
 clear h
 refine Ev_rf (sz := 1) rfl (fun hx => ?_) (fun hx => ?_) (fun hx => ?_)
 {
 obtain rfl : s_00 = [] := by simpa using hx
 have e : l_1 = [] := by unfold appL at hl_1; split at hl_1 <;> simp_all
 subst e
 refine Ev_end mixed fn78 (by simp) [5] ?_
 unfold fc78
 refine E_sq (E_reg (E_mv (v' := .nils) rfl (E_nil (E_nx (E_as (E_sq (E_reg (E_mv (v' := .nils) rfl (E_op0 (v' := .bool true) rfl rfl (E_nil (E_nx (E_sq ?_))))))))))))
 refine E_cs (t := true) rfl (fun hb => ?_) (fun hb => ?_)
 {
 refine E_sq (E_reg (E_mv (v' := .nils) rfl (E_nil (E_nx (E_ret (E_thr ?_))))))
 cases h2
 exact ⟨trivial, _, _, rfl, gwk_rn [some (0, 0), none] rfl (Nat.le_of_ble_eq_true rfl) ⟨(rn_obS rfl rfl (.refl ((encI .u64).blwf 0 _)) rfl), (rn_obN rfl rfl rfl), trivial⟩, (rn_nil rfl)⟩
 }
 {
 cases hb
 }
 }
 {
 obtain rfl : s_00 = [] := by simpa using hx
 refine Ev_end mixed fn78 (by simp) [5] ?_
 unfold fc78
 refine E_sq (E_reg (E_mv (v' := .nils) rfl (E_nil (E_nx (E_as (E_sq (E_reg (E_mv (v' := .snn 1) rfl (E_op0 (v' := .bool false) rfl rfl (E_nil (E_nx (E_sq ?_))))))))))))
 refine E_cs (t := false) rfl (fun hb => ?_) (fun hb => ?_)
 {
 cases hb
 }
 {
 refine E_skip (E_nx (E_sq (E_reg (E_op (v' := .ref 1 0 0 0 none) (S' := [.arr 0 (flat (avI .u64) []), .arr 0 []]) rfl rfl rfl (E_mv (v' := .snn 1) rfl (E_apL (S' := [.arr 0 (flat (avI .u64) []), .arr 1 (flat (avI .u64) l_1)]) (encI .u64) (l := []) rfl (rfl) rfl hl_1 rfl (E_mv (v' := (.ref 1 1 0 (List.length l_1) none)) rfl (E_nil (E_nx (E_ret ?_))))))))))
 cases h2
 exact ⟨trivial, _, _, rfl, gwk_rn [some (0, 0), some (1, 0)] rfl (Nat.le_of_ble_eq_true rfl) ⟨(rn_obS rfl rfl (.refl ((encI .u64).blwf 0 _)) rfl), (rn_ob rfl rfl (.refl ((encI .u64).blwf 0 _)) rfl), trivial⟩, (rn_refL (encI .u64) rfl rfl rfl)⟩
 }
 }
 {
 obtain ⟨x, xs, rfl⟩ : ∃ x xs, s_00 = x :: xs := by cases s_00 with | nil => exact (hx rfl).elim | cons x xs => exact ⟨x, xs, rfl⟩
 refine Ev_end mixed fn78 (by simp) [5] ?_
 unfold fc78
 refine E_sq (E_reg (E_mv (v' := .nils) rfl (E_nil (E_nx (E_as (E_sq (E_reg (E_mv (v' := (.ref 0 0 0 (List.length (x :: xs)) none)) rfl (E_op0 (v' := .bool false) rfl rfl (E_nil (E_nx (E_sq ?_))))))))))))
 refine E_cs (t := false) rfl (fun hb => ?_) (fun hb => ?_)
 {
 cases hb
 }
 {
 refine E_skip (E_nx (E_sq (E_reg (E_op (v' := .ref 1 0 0 0 none) (S' := [.arr 0 (flat (avI .u64) (x :: xs)), .arr 0 []]) rfl rfl rfl (E_mv (v' := (.ref 0 0 0 (List.length (x :: xs)) none)) rfl (E_apL (S' := [.arr 0 (flat (avI .u64) (x :: xs)), .arr 1 (flat (avI .u64) l_1)]) (encI .u64) (l := []) rfl (src_ref (encI .u64) rfl) rfl hl_1 rfl (E_mv (v' := (.ref 1 1 0 (List.length l_1) none)) rfl (E_nil (E_nx (E_ret ?_))))))))))
 cases h2
 exact ⟨trivial, _, _, rfl, gwk_rn [some (0, 0), some (1, 0)] rfl (Nat.le_of_ble_eq_true rfl) ⟨(rn_obS rfl rfl (.refl ((encI .u64).blwf 0 _)) rfl), (rn_ob rfl rfl (.refl ((encI .u64).blwf 0 _)) rfl), trivial⟩, (rn_refL (encI .u64) rfl rfl rfl)⟩
 }
 }
def fc57 : FC := (.seq (.reg [oO 2 (.mv (.v .nilp))] []) (.seq (.seq (.reg [oO 3 (.mv (.t 0)), oO 4 (.bin .ptr .eql (.t 3) (.v .nilp))] []) (.cond (.t 4) (.seq (.reg [oO 2 (.mv (.v .nilp))] []) .ret) .skip)) (.seq (.reg [oO 5 (.mv (.t 0)), oO 6 (.nchk (.t 5)), oO 7 (.fad 0 (.t 6)), oO 8 (.load none (.t 7)), oO 9 (.mv (.t 0)), oO 10 (.nchk (.t 9)), oO 11 (.fad 1 (.t 10)), oO 12 (.load none (.t 11)), ⟨(some 13), none, .call 78 [(.t 12)]⟩, oO 14 (.build [(.int .i64 0), .nils] [(0, 1, (.t 8)), (1, 1, (.t 13))]), oO 15 (.box (.t 14)), oO 2 (.mv (.t 15))] [(3, 8)]) .ret)))
theorem fn57 : Fn3 Tryd.prog 57 16 [(2, none)] fc57 := ⟨_, _, Tryd.func57, rfl, rfl, rfl, by kernel_rfl⟩
def bits_Set_Copy_pNR_o_s (s_n_00 : Int) (s_words_00 : (List Int)) : Option (Int × Int × (List Int)) :=
  ((slices_Clone_r_s s_words_00).bind fun (clo_1 : (List Int)) => (some (s_n_00, s_n_00, clo_1)))
theorem bits_Set_Copy_pNR_o_ev {s_n_00 : Int} {s_words_00 : (List Int)} {r : (Int × Int × (List Int))} (h : bits_Set_Copy_pNR_o_s s_n_00 s_words_00 = some r) : Ev Tryd.prog 57 [(.ptr 0 0 0)] (hp [.arr 0 [(.int .i64 s_n_00), (.ref 1 0 0 (List.length s_words_00) none)], .arr 0 (flat (avI .u64) s_words_00)]) (.ptr 2 0 0) (hp [.arr 0 [(.int .i64 r.1), (.ref 1 0 0 (List.length s_words_00) none)], .arr 0 (flat (avI .u64) s_words_00), .arr 0 [(.int .i64 r.2.1), (.ref 3 1 0 (List.length r.2.2) none)], .arr 1 (flat (avI .u64) r.2.2)]) := by
  unfold bits_Set_Copy_pNR_o_s at h
  refine Ev_end mixed fn57 (by simp) [15] ?_
  unfold fc57
  refine E_sq ?_
  refine E_reg ?_
  refine E_mv (v' := .nilp) rfl ?_
  refine E_nil ?_
  refine E_nx ?_
  refine E_as ?_
  refine E_sq ?_
  refine E_reg ?_
  refine E_mv (v' := (.ptr 0 0 0)) rfl ?_
  refine E_op0 (v' := (.bool false)) rfl rfl ?_
  refine E_nil ?_
  refine E_nx ?_
  refine E_sq ?_
  refine E_cf rfl ?_
  refine E_skip ?_
  refine E_nx ?_
  refine E_sq ?_
  refine E_regp ?_
  refine E_mv (v' := (.ptr 0 0 0)) rfl ?_
  refine E_op0 (v' := (.ptr 0 0 0)) rfl rfl ?_
  refine E_op0 (v' := (.ptr 0 0 0)) rfl rfl ?_
  refine E_op (v' := (.int .i64 s_n_00)) (S' := [.arr 0 [(.int .i64 s_n_00), (.ref 1 0 0 (List.length s_words_00) none)], .arr 0 (flat (avI .u64) s_words_00)]) rfl rfl rfl ?_
  refine E_mv (v' := (.ptr 0 0 0)) rfl ?_
  refine E_op0 (v' := (.ptr 0 0 0)) rfl rfl ?_
  refine E_op0 (v' := (.ptr 0 0 1)) rfl rfl ?_
  refine E_op (v' := (.ref 1 0 0 (List.length s_words_00) none)) (S' := [.arr 0 [(.int .i64 s_n_00), (.ref 1 0 0 (List.length s_words_00) none)], .arr 0 (flat (avI .u64) s_words_00)]) rfl rfl rfl ?_
  obtain ⟨clo_1, hclo_1, h⟩ := bd_some h
  refine E_callF (S' := [.arr 0 [(.int .i64 s_n_00), (.ref 1 0 0 (List.length s_words_00) none)], .arr 0 (flat (avI .u64) s_words_00), .arr 1 (flat (avI .u64) clo_1)]) (r' := (.ref 2 1 0 (List.length clo_1) none)) (slices_Clone_r_ev hclo_1) [1] rfl rfl (by decide) rfl rfl ⟨(fr_in rfl rfl (.refl ((encI .u64).blwf 0 _))), trivial⟩ ⟨(fr_outS rfl rfl (.refl ((encI .u64).blwf 0 _)) rfl rfl), (fr_outN rfl rfl (.refl ((encI .u64).blwf 0 _)) rfl), trivial⟩ ⟨.inr rfl, .inl rfl, trivial⟩ rfl (.cons (fi_ref rfl rfl rfl rfl) (.nil (Nat.zero_le _))) (fo_ref rfl rfl rfl rfl) ?_
  refine E_op0 (v' := (.agg [(.int .i64 s_n_00), (.ref 2 1 0 (List.length clo_1) none)])) rfl rfl ?_
  refine E_op (v' := .ptr 3 0 0) (S' := [.arr 0 [(.int .i64 s_n_00), (.ref 1 0 0 (List.length s_words_00) none)], .arr 0 (flat (avI .u64) s_words_00), .arr 1 (flat (avI .u64) clo_1), .arr 0 [(.int .i64 s_n_00), (.ref 2 1 0 (List.length clo_1) none)]]) rfl rfl rfl ?_
  refine E_mv (v' := (.ptr 3 0 0)) rfl ?_
  refine E_nil ?_
  refine And.intro (by simp [okLog, nthL, okPair, hp, fpOf]) ?_
  refine E_nx ?_
  refine E_ret ?_
  cases h
  exact ⟨trivial, _, _, rfl, gwk_rn [some (0, 0), some (1, 0), some (3, 0), some (2, 0)] rfl (Nat.le_of_ble_eq_true rfl) ⟨(rn_obS rfl rfl (.cons (rn_b rfl) (.cons (rn_refL (encI .u64) rfl rfl rfl) (.nil (Nat.zero_le _)))) rfl), (rn_obS rfl rfl (.refl ((encI .u64).blwf 0 _)) rfl), (rn_ob rfl rfl (.cons (rn_b rfl) (.cons (rn_refL (encI .u64) rfl rfl rfl) (.nil (Nat.zero_le _)))) rfl), (rn_ob rfl rfl (.refl ((encI .u64).blwf 0 _)) rfl), trivial⟩, (rn_ptr rfl rfl rfl rfl)⟩
def fc54 : FC := (.seq (.reg [oO 2 (.mv (.v .nilp))] []) (.seq (.reg [oO 3 (.mv (.t 0)), oO 4 (.mn true (.t 3) (.v (.int .i64 0))), oO 5 (.mn false (.t 4) (.v (.int .i64 1048576))), oO 0 (.mv (.t 5))] []) (.seq (.reg [oO 6 (.mv (.t 0)), oO 7 (.mv (.t 0)), oO 8 (.bin .none .add (.t 7) (.v (.int .i64 63))), oO 9 (.bin .none .quo (.t 8) (.v (.int .i64 64))), oO 10 (.mksl none 8 [(.int .u64 0)] (.t 9) (.t 9)), oO 11 (.build [(.int .i64 0), .nils] [(0, 1, (.t 6)), (1, 1, (.t 10))]), oO 12 (.box (.t 11)), oO 2 (.mv (.t 12))] []) .ret)))
theorem fn54 : Fn3 Tryd.prog 54 13 [(2, none)] fc54 := ⟨_, _, Tryd.func54, rfl, rfl, rfl, by kernel_rfl⟩
def bits_New_o_s (n_00 : Int) : Option (Int × (List Int)) :=
  ((mkL 8 (I64 (Int.tdiv (I64 ((if 1048576 < (if 0 > n_00 then 0 else n_00) then 1048576 else (if 0 > n_00 then 0 else n_00)) + 63)) 64)) (I64 (Int.tdiv (I64 ((if 1048576 < (if 0 > n_00 then 0 else n_00) then 1048576 else (if 0 > n_00 then 0 else n_00)) + 63)) 64)) 0).bind fun m_1 => (some ((if 1048576 < (if 0 > n_00 then 0 else n_00) then 1048576 else (if 0 > n_00 then 0 else n_00)), m_1)))
theorem bits_New_o_ev {n_00 : Int} {r : (Int × (List Int))} (h : bits_New_o_s n_00 = some r) : Ev Tryd.prog 54 [(.int .i64 n_00)] (hp []) (.ptr 0 0 0) (hp [.arr 0 [(.int .i64 r.1), (.ref 1 1 0 (List.length r.2) none)], .arr 1 (flat (avI .u64) r.2)]) := by
  unfold bits_New_o_s at h
  refine Ev_end mixed fn54 (by simp) [10, 12] ?_
  unfold fc54
  refine E_sq ?_
  refine E_reg ?_
  refine E_mv (v' := .nilp) rfl ?_
  refine E_nil ?_
  refine E_nx ?_
  refine E_sq ?_
  refine E_reg ?_
  refine E_mv (v' := (.int .i64 n_00)) rfl ?_
  refine E_op0 (v' := (.int .i64 (if 0 > n_00 then 0 else n_00))) rfl rfl ?_
  refine E_op0 (v' := (.int .i64 (if 1048576 < (if 0 > n_00 then 0 else n_00) then 1048576 else (if 0 > n_00 then 0 else n_00)))) rfl rfl ?_
  refine E_mv (v' := (.int .i64 (if 1048576 < (if 0 > n_00 then 0 else n_00) then 1048576 else (if 0 > n_00 then 0 else n_00)))) rfl ?_
  refine E_nil ?_
  refine E_nx ?_
  refine E_sq ?_
  refine E_reg ?_
  refine E_mv (v' := (.int .i64 (if 1048576 < (if 0 > n_00 then 0 else n_00) then 1048576 else (if 0 > n_00 then 0 else n_00)))) rfl ?_
  refine E_mv (v' := (.int .i64 (if 1048576 < (if 0 > n_00 then 0 else n_00) then 1048576 else (if 0 > n_00 then 0 else n_00)))) rfl ?_
  refine E_op0 (v' := (.int .i64 (I64 ((if 1048576 < (if 0 > n_00 then 0 else n_00) then 1048576 else (if 0 > n_00 then 0 else n_00)) + 63)))) rfl rfl ?_
  refine E_op0 (v' := (.int .i64 (I64 (Int.tdiv (I64 ((if 1048576 < (if 0 > n_00 then 0 else n_00) then 1048576 else (if 0 > n_00 then 0 else n_00)) + 63)) 64)))) rfl rfl ?_
  obtain ⟨m_1, hm_1, h⟩ := bd_some h
  refine E_mkL (x := 0) (S' := [.arr 0 (flat (avI .u64) m_1)]) (encI .u64) rfl rfl rfl rfl hm_1 rfl ?_
  refine E_op0 (v' := (.agg [(.int .i64 (if 1048576 < (if 0 > n_00 then 0 else n_00) then 1048576 else (if 0 > n_00 then 0 else n_00))), (.ref 0 0 0 (List.length m_1) none)])) rfl rfl ?_
  refine E_op (v' := .ptr 1 0 0) (S' := [.arr 0 (flat (avI .u64) m_1), .arr 0 [(.int .i64 (if 1048576 < (if 0 > n_00 then 0 else n_00) then 1048576 else (if 0 > n_00 then 0 else n_00))), (.ref 0 0 0 (List.length m_1) none)]]) rfl rfl rfl ?_
  refine E_mv (v' := (.ptr 1 0 0)) rfl ?_
  refine E_nil ?_
  refine E_nx ?_
  refine E_ret ?_
  cases h
  exact ⟨trivial, _, _, rfl, gwk_rn [some (1, 0), some (0, 0)] rfl (Nat.le_of_ble_eq_true rfl) ⟨(rn_ob rfl rfl (.cons (rn_b rfl) (.cons (rn_refL (encI .u64) rfl rfl rfl) (.nil (Nat.zero_le _)))) rfl), (rn_ob rfl rfl (.refl ((encI .u64).blwf 0 _)) rfl), trivial⟩, (rn_ptr rfl rfl rfl rfl)⟩
end Go.Proofs.YtgoejecjmodjiaaDoor

