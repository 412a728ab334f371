/- What the functions compute, and that they do (printed by wip/gen/gen.py), part 1. -/
import Derived.Test.YtgoejecjmodjiaaDoorWlH2
import Derived.Test.YtgoejecjmodjiaaDoorRows
import Derived.Test.YtgoejecjmodjiaaDoorLvC2
namespace Go.Proofs.YtgoejecjmodjiaaDoor
open Go Go.Ab
set_option maxRecDepth 20000
set_option maxHeartbeats 2000000
set_option linter.unusedVariables false
set_option linter.unusedSimpArgs false
def fc18 : FC := (.seq (.reg [oO 4 (.mv (.v (.bool false)))] []) (.seq (.seq (.reg [oO 7 (.mv (.t 0)), oO 8 (.len .sl (.t 7)), oO 9 (.mv (.v (.int .i64 0)))] []) (.block 0 (.loop (.seq (.reg [oO 10 (.bin .none .lss (.t 9) (.t 8))] []) (.seq (.cond (.t 10) .skip (.exit 0)) (.seq (.block 1 (.seq (.reg [oO 11 (.iad none none (.t 7) (.t 9)), oO 12 (.load none (.t 11)), oO 6 (.mv (.t 12))] []) (.seq (.reg [oO 13 (.mv (.t 6)), oO 14 (.mv (.t 1)), oO 15 (.bin .none .eql (.t 13) (.t 14))] []) (.cond (.t 15) (.seq (.reg [oO 4 (.mv (.v (.bool true)))] []) .ret) .skip)))) (.reg [oO 16 (.bin .none .add (.t 9) (.v (.int .i64 1))), oO 9 (.mv (.t 16))] []))))))) (.seq (.reg [oO 4 (.mv (.v (.bool false)))] []) .ret)))
theorem fn18 : Fn3 Tryd.prog 18 17 [(4, none)] fc18 := ⟨_, _, Tryd.func18, rfl, rfl, rfl, by kernel_rfl⟩
def windlassref07_In_s (l_00 : (List Int)) (n_01 : Int) : Option Bool :=
  ((rng (fun (i_2 : Nat) (x_3 : Int) (s_1 : Int) => ((if (x_3 == s_1) then (some (.ret (some true))) else (some (.nxt s_1))) : Option (Stp Int (Option Bool)))) l_00 n_01).bind (oc (fun (s_1 : Int) => (some false))))
theorem windlassref07_In_ev {l_00 : (List Int)} {n_01 : Int} {r : Bool} (h : windlassref07_In_s l_00 n_01 = some r) : PureEv Tryd.prog 18 [(.sl false 1 (List.map (avI .i64) l_00)), (.int .i64 n_01)] (.bool r) := by
 unfold windlassref07_In_s at h
 refine PureEv_end mixed fn18 (by simp) [] 6 ?_
 unfold fc18
 refine E_sq (E_reg (E_mv (v' := .bool false) rfl (E_nil (E_nx (E_as (E_sq (E_reg (E_mv (v' := (.sl false 1 (List.map (avI .i64) l_00))) rfl (E_len rfl (E_mv (v' := .int .i64 0) rfl (E_nil (E_nx (E_sq ?_)))))))))))))
 refine E_rngO (fun s_1 => [(1, (.int .i64 s_1)), (7, (.sl false 1 (List.map (avI .i64) l_00)))]) (fun s_1 => []) h (by decide) (by decide) (fun _ => ⟨rfl, rfl, rfl, rfl⟩) (wk_aw ⟨(.refl _), (.refl _), (.refl _), (.refl _), trivial⟩) (fun i_2 x_3 s_1 c hx_4 hlt h => ?_) (fun s_1 fr' S' h hw => ?_)
 {
 refine E_sq (E_reg (E_iadF rfl rfl (getI_of hx_4) (E_op0 (v' := .int .i64 x_3) rfl rfl (E_mv (v' := .int .i64 x_3) rfl (E_nil (E_nx (E_sq (E_reg (E_mv (v' := .int .i64 x_3) rfl (E_mv (v' := .int .i64 s_1) rfl (E_op0 (v' := .bool (x_3 == s_1)) rfl rfl (E_nil (E_nx ?_)))))))))))))
 refine E_cs (t := (x_3 == s_1)) rfl (fun hb => ?_) (fun hb => ?_)
 {
 rw [ite_t hb] at h
 refine E_sq (E_reg (E_mv (v' := .bool true) rfl (E_nil (E_nx (E_ret ?_)))))
 cases h
 refine L_rrO rfl (fun h => ?_)
 refine E_thr ?_
 cases h
 exact ⟨trivial, _, rfl, (fz_b rfl (.refl _))⟩
 }
 {
 rw [ite_f hb] at h
 refine E_skip ?_
 cases h
 exact L_nn rfl (wk_aw ⟨(.refl _), (.refl _), (.refl _), (.refl _), trivial⟩)
 }
 }
 {
 refine X_nx hw (E_sq (E_reg (E_mv (v' := .bool false) rfl (E_nil (E_nx (E_ret ?_))))))
 cases h
 exact ⟨trivial, _, rfl, (fz_b rfl (.refl _))⟩
 }
def fc23 : FC := (.seq (.reg [oO 1 (.box (.t 0)), oO 2 (.mv (.v .nils))] []) (.seq (.seq (.reg [oO 3 (.fad 0 (.t 1)), oO 4 (.load none (.t 3)), oO 5 (.bin .none .lss (.t 4) (.v (.int .u8 1))), oO 6 (.mv (.t 5)), ⟨(some 7), some (6, false), .op (.fad 0 (.t 1))⟩, ⟨(some 8), some (6, false), .op (.load none (.t 7))⟩, ⟨(some 9), some (6, false), .op (.bin .none .gtr (.t 8) (.v (.int .u8 18)))⟩, oO 10 (.pick (.t 6) (.v (.bool true)) (.t 9)), oO 11 (.mv (.t 10)), ⟨(some 12), some (11, false), .op (.fad 0 (.t 1))⟩, ⟨(some 13), some (11, false), .op (.load none (.t 12))⟩, ⟨(some 14), some (11, false), .op (.bin .none .eql (.t 13) (.v (.int .u8 12)))⟩, oO 15 (.pick (.t 11) (.v (.bool true)) (.t 14)), oO 16 (.mv (.t 15)), ⟨(some 17), some (16, false), .op (.fad 0 (.t 1))⟩, ⟨(some 18), some (16, false), .op (.load none (.t 17))⟩, ⟨(some 19), some (16, false), .op (.bin .none .eql (.t 18) (.v (.int .u8 14)))⟩, oO 20 (.pick (.t 16) (.v (.bool true)) (.t 19)), oO 21 (.mv (.t 20)), ⟨(some 22), some (21, false), .op (.fad 0 (.t 1))⟩, ⟨(some 23), some (21, false), .op (.load none (.t 22))⟩, ⟨(some 24), some (21, false), .op (.bin .none .eql (.t 23) (.v (.int .u8 18)))⟩, oO 25 (.pick (.t 21) (.v (.bool true)) (.t 24))] []) (.cond (.t 25) (.seq (.reg [oO 2 (.mv (.v .nils))] []) .ret) .skip)) (.seq (.seq (.reg [oO 26 (.fad 0 (.t 1)), oO 27 (.load none (.t 26)), oO 28 (.bin .none .eql (.t 27) (.v (.int .u8 9))), oO 29 (.mv (.t 28)), ⟨(some 30), some (29, true), .op (.fad 11 (.t 1))⟩, ⟨(some 31), some (29, true), .op (.load none (.t 30))⟩, ⟨(some 32), some (29, true), .op (.fad 10 (.t 1))⟩, ⟨(some 33), some (29, true), .op (.load none (.t 32))⟩, ⟨(some 34), some (29, true), .op (.bin .none .neq (.t 31) (.t 33))⟩, oO 35 (.pick (.t 29) (.t 34) (.v (.bool false)))] []) (.cond (.t 35) (.seq (.reg [oO 36 (.fad 10 (.t 1)), oO 37 (.load none (.t 36)), oO 38 (.fad 11 (.t 1)), oO 39 (.load none (.t 38)), oO 40 (.bsl none [(.int .i64 0)] 2 [(0, 1, (.t 37)), (1, 1, (.t 39))]), oO 2 (.mv (.t 40))] []) .ret) .skip)) (.seq (.reg [oO 41 (.fad 10 (.t 1)), oO 42 (.load none (.t 41)), oO 43 (.bsl none [(.int .i64 0)] 1 [(0, 1, (.t 42))]), oO 2 (.mv (.t 43))] []) .ret))))
theorem fn23 : Fn3 Tryd.prog 23 44 [(2, none)] fc23 := ⟨_, _, Tryd.func23, rfl, rfl, rfl, by kernel_rfl⟩
def windlassref07_Next_s (n_00 : Node) : Option (List Int) :=
  (jp (fun (s_2 : Bool) => (if s_2 then (some []) else (jp (fun (s_4 : Bool) => (if s_4 then (some [n_00.Next, n_00.Else]) else (some [n_00.Next]))) (fun k_3 => (if (n_00.Op == 9) then (k_3 (n_00.Else != n_00.Next)) else (k_3 false)))))) (fun k_1 => (if (decide (n_00.Op < 1)) then (k_1 true) else (if (decide (n_00.Op > 18)) then (k_1 true) else (if (n_00.Op == 12) then (k_1 true) else (if (n_00.Op == 14) then (k_1 true) else (k_1 (n_00.Op == 18))))))))
theorem windlassref07_Next_ev {n_00 : Node} {r : (List Int)} (h : windlassref07_Next_s n_00 = some r) : PureEv Tryd.prog 23 [(Node.av n_00)] (.sl false 1 (List.map (avI .i64) r)) := by
 unfold windlassref07_Next_s at h
 refine PureEv_end mixed fn23 (by simp) [] 6 ?_
 unfold fc23
 refine E_sq (E_reg (E_op0 (v' := (.cptr (Node.av n_00).cells 0)) rfl rfl (E_mv (v' := .nils) rfl (E_nil (E_nx (E_as ?_))))))
 refine E_jp h (fun s_2 => [(1, (.cptr (Node.av n_00).cells 0)), (25, (.bool s_2))]) (fun s_2 => []) (fun k_1 h => ?_) (fun s_2 h => ?_)
 {
 refine E_reg (E_op0 (v' := (.cptr (Node.av n_00).cells 0)) rfl rfl (E_op0 (v' := .int .u8 n_00.Op) rfl rfl (E_op0 (v' := (.bool (decide (n_00.Op < 1)))) rfl rfl (E_mv (v' := (.bool (decide (n_00.Op < 1)))) rfl ?_))))
 refine E_gsT (b := (decide (n_00.Op < 1))) rfl rfl rfl (fun hb => ?_) (fun hb => ?_)
 {
 rw [ite_f hb] at h
 refine E_op0 (v' := (.cptr (Node.av n_00).cells 0)) rfl rfl (E_gh rfl (E_op0 (v' := .int .u8 n_00.Op) rfl rfl (E_gh rfl (E_op0 (v' := (.bool (decide (n_00.Op > 18)))) rfl rfl (E_pf rfl rfl (E_mv (v' := (.bool (decide (n_00.Op > 18)))) rfl ?_))))))
 refine E_gsT (b := (decide (n_00.Op > 18))) rfl rfl rfl (fun hb => ?_) (fun hb => ?_)
 {
 rw [ite_f hb] at h
 refine E_op0 (v' := (.cptr (Node.av n_00).cells 0)) rfl rfl (E_gh rfl (E_op0 (v' := .int .u8 n_00.Op) rfl rfl (E_gh rfl (E_op0 (v' := .bool (n_00.Op == 12)) rfl rfl (E_pf rfl rfl (E_mv (v' := .bool (n_00.Op == 12)) rfl ?_))))))
 refine E_gsT (b := (n_00.Op == 12)) rfl rfl rfl (fun hb => ?_) (fun hb => ?_)
 {
 rw [ite_f hb] at h
 refine E_op0 (v' := (.cptr (Node.av n_00).cells 0)) rfl rfl (E_gh rfl (E_op0 (v' := .int .u8 n_00.Op) rfl rfl (E_gh rfl (E_op0 (v' := .bool (n_00.Op == 14)) rfl rfl (E_pf rfl rfl (E_mv (v' := .bool (n_00.Op == 14)) rfl ?_))))))
 refine E_gsT (b := (n_00.Op == 14)) rfl rfl rfl (fun hb => ?_) (fun hb => ?_)
 {
 rw [ite_f hb] at h
 refine E_op0 (v' := (.cptr (Node.av n_00).cells 0)) rfl rfl (E_gh rfl (E_op0 (v' := .int .u8 n_00.Op) rfl rfl (E_gh rfl (E_op0 (v' := .bool (n_00.Op == 18)) rfl rfl (E_pf rfl rfl (E_nil ?_))))))
 exact E_jx _ h (wk_aw ⟨(.refl _), (.refl _), trivial⟩)
 }
 {
 rw [ite_t hb] at h
 refine E_gm rfl (E_gm rfl (E_pt rfl rfl (E_nil ?_)))
 exact E_jx _ h (wk_aw ⟨(.refl _), (.refl _), trivial⟩)
 }
 }
 {
 rw [ite_t hb] at h
 refine E_gm rfl (E_gm rfl (E_pt rfl rfl (E_mv (v' := .bool true) rfl (E_gm rfl (E_gm rfl (E_gm rfl (E_pt rfl rfl (E_nil ?_))))))))
 exact E_jx _ h (wk_aw ⟨(.refl _), (.refl _), trivial⟩)
 }
 }
 {
 rw [ite_t hb] at h
 refine E_gm rfl (E_gm rfl (E_pt rfl rfl (E_mv (v' := .bool true) rfl (E_gm rfl (E_gm rfl (E_gm rfl (E_pt rfl rfl (E_mv (v' := .bool true) rfl (E_gm rfl (E_gm rfl (E_gm rfl (E_pt rfl rfl (E_nil ?_)))))))))))))
 exact E_jx _ h (wk_aw ⟨(.refl _), (.refl _), trivial⟩)
 }
 }
 {
 rw [ite_t hb] at h
 refine E_gm rfl (E_gm rfl (E_pt rfl rfl (E_mv (v' := .bool true) rfl (E_gm rfl (E_gm rfl (E_gm rfl (E_pt rfl rfl (E_mv (v' := .bool true) rfl (E_gm rfl (E_gm rfl (E_gm rfl (E_pt rfl rfl (E_mv (v' := .bool true) rfl (E_gm rfl (E_gm rfl ?_)))))))))))))))
 refine E_gm rfl (E_pt rfl rfl (E_nil ?_))
 exact E_jx _ h (wk_aw ⟨(.refl _), (.refl _), trivial⟩)
 }
 }
 {
 refine E_sq ?_
 refine E_cs (t := s_2) rfl (fun hb => ?_) (fun hb => ?_)
 {
 rw [ite_t hb] at h
 refine E_sq (E_reg (E_mv (v' := .nils) rfl (E_nil (E_nx (E_ret (E_thr ?_))))))
 cases h
 exact ⟨trivial, _, rfl, (fz_b rfl .nil)⟩
 }
 {
 rw [ite_f hb] at h
 refine E_skip (E_nx (E_as ?_))
 refine E_jp h (fun s_4 => [(1, (.cptr (Node.av n_00).cells 0)), (35, (.bool s_4))]) (fun s_4 => []) (fun k_3 h => ?_) (fun s_4 h => ?_)
 {
 refine E_reg (E_op0 (v' := (.cptr (Node.av n_00).cells 0)) rfl rfl (E_op0 (v' := .int .u8 n_00.Op) rfl rfl (E_op0 (v' := .bool (n_00.Op == 9)) rfl rfl (E_mv (v' := .bool (n_00.Op == 9)) rfl ?_))))
 refine E_gsT (b := (n_00.Op == 9)) rfl rfl rfl (fun hb => ?_) (fun hb => ?_)
 {
 rw [ite_t hb] at h
 refine E_op0 (v' := (.cptr (Node.av n_00).cells 11)) rfl rfl (E_gh rfl (E_op0 (v' := .int .i64 n_00.Else) rfl rfl (E_gh rfl (E_op0 (v' := (.cptr (Node.av n_00).cells 10)) rfl rfl (E_gh rfl (E_op0 (v' := .int .i64 n_00.Next) rfl rfl (E_gh rfl (E_op0 (v' := .bool (n_00.Else != n_00.Next)) rfl rfl (E_pt rfl rfl (E_nil ?_))))))))))
 exact E_jx _ h (wk_aw ⟨(.refl _), (.refl _), trivial⟩)
 }
 {
 rw [ite_f hb] at h
 refine E_gm rfl (E_gm rfl (E_gm rfl (E_gm rfl (E_pf rfl rfl (E_nil ?_)))))
 exact E_jx _ h (wk_aw ⟨(.refl _), (.refl _), trivial⟩)
 }
 }
 {
 refine E_sq ?_
 refine E_cs (t := s_4) rfl (fun hb => ?_) (fun hb => ?_)
 {
 rw [ite_t hb] at h
 refine E_sq (E_reg (E_op0 (v' := (.cptr (Node.av n_00).cells 10)) rfl rfl (E_op0 (v' := .int .i64 n_00.Next) rfl rfl (E_op0 (v' := (.cptr (Node.av n_00).cells 11)) rfl rfl (E_op0 (v' := .int .i64 n_00.Else) rfl rfl (E_opw (v' := (.sl true 1 (List.map (avI .i64) [n_00.Next, n_00.Else]))) rfl (.refl _) rfl (E_mv (v' := (.sl true 1 (List.map (avI .i64) [n_00.Next, n_00.Else]))) rfl (E_nil (E_nx (E_ret (E_thr ?_)))))))))))
 cases h
 exact ⟨trivial, _, rfl, (fz_b ((encI .i64).blws 0) .ex)⟩
 }
 {
 rw [ite_f hb] at h
 refine E_skip (E_nx (E_sq (E_reg (E_op0 (v' := (.cptr (Node.av n_00).cells 10)) rfl rfl (E_op0 (v' := .int .i64 n_00.Next) rfl rfl (E_opw (v' := (.sl true 1 (List.map (avI .i64) [n_00.Next]))) rfl (.refl _) rfl (E_mv (v' := (.sl true 1 (List.map (avI .i64) [n_00.Next]))) rfl (E_nil (E_nx (E_ret ?_))))))))))
 cases h
 exact ⟨trivial, _, rfl, (fz_b ((encI .i64).blws 0) .ex)⟩
 }
 }
 }
 }
def windlassref07_In_r_s (l_00 : (List Int)) (n_01 : Int) : Option Bool :=
  ((rni (fun (i_2 : Nat) (s_1 : Int) => (((getI l_00 (i_2 : Int)).bind fun y_3 => (if (y_3 == s_1) then (some (.ret (some true))) else (some (.nxt s_1)))) : Option (Stp Int (Option Bool)))) (List.length l_00 : Int) n_01).bind (oc (fun (s_1 : Int) => (some false))))
theorem windlassref07_In_r_ev {l_00 : (List Int)} {n_01 : Int} {r : Bool} (h : windlassref07_In_r_s l_00 n_01 = some r) : Ev Tryd.prog 18 [(.ref 0 0 0 (List.length l_00) none), (.int .i64 n_01)] (hp [.arr 0 (flat (avI .i64) l_00)]) (.bool r) (hp [.arr 0 (flat (avI .i64) l_00)]) := by
 unfold windlassref07_In_r_s at h
 refine Ev_end mixed fn18 (by simp) [] ?_
 unfold fc18
 refine E_sq (E_reg (E_mv (v' := .bool false) rfl (E_nil (E_nx (E_as (E_sq (E_reg (E_mv (v' := (.ref 0 0 0 (List.length l_00) none)) rfl (E_lenR rfl (E_mv (v' := .int .i64 0) rfl (E_nil (E_nx (E_sq ?_)))))))))))))
 refine E_rniO (fun s_1 => [(1, (.int .i64 s_1)), (7, (.ref 0 0 0 (List.length l_00) none))]) (fun s_1 => [.arr 0 (flat (avI .i64) l_00)]) h (by decide) (by decide) (fun _ => ⟨rfl, rfl, rfl, rfl⟩) (wk_rn [some (0, 0)] rfl (Nat.le_of_ble_eq_true rfl) ⟨(rn_obS rfl rfl (.refl ((encI .i64).blwf 0 _)) rfl), trivial⟩ ⟨(rn_b rfl), (rn_b rfl), (rn_b rfl), (rn_refL (encI .i64) rfl rfl rfl), trivial⟩) (fun i_2 s_1 c hlt h => ?_) (fun s_1 fr' S' h hw => ?_)
 {
 refine E_sq (E_reg ?_)
 obtain ⟨y_3, hy_3, h⟩ := bd_some h
 refine E_iadR rfl rfl ⟨(getI_some hy_3).1, (getI_some hy_3).2.1⟩ ?_
 refine E_ldR (encI .i64) rfl rfl (by first | rfl | exact (Nat.add_zero _).symm | (simp only [Nat.zero_add]; exact (Nat.add_zero _).symm) | (simp only [Nat.zero_add, Nat.add_zero])) (getI_some hy_3).2.2 rfl (.refl _) ?_
 refine E_mv (v' := .int .i64 y_3) rfl (E_nil (E_nx (E_sq (E_reg (E_mv (v' := .int .i64 y_3) rfl (E_mv (v' := .int .i64 s_1) rfl (E_op0 (v' := .bool (y_3 == s_1)) rfl rfl (E_nil (E_nx ?_)))))))))
 refine E_cs (t := (y_3 == s_1)) rfl (fun hb => ?_) (fun hb => ?_)
 {
 rw [ite_t hb] at h
 refine E_sq (E_reg (E_mv (v' := .bool true) rfl (E_nil (E_nx (E_ret ?_)))))
 cases h
 refine L_rrO rfl (fun h => ?_)
 refine E_thr ?_
 cases h
 exact ⟨trivial, _, _, rfl, gwk_rn [some (0, 0)] rfl (Nat.le_of_ble_eq_true rfl) ⟨(rn_obS rfl rfl (.refl ((encI .i64).blwf 0 _)) rfl), trivial⟩, (rn_b rfl)⟩
 }
 {
 rw [ite_f hb] at h
 refine E_skip ?_
 cases h
 exact L_nn rfl (wk_rn [some (0, 0)] rfl (Nat.le_of_ble_eq_true rfl) ⟨(rn_obS rfl rfl (.refl ((encI .i64).blwf 0 _)) rfl), trivial⟩ ⟨(rn_b rfl), (rn_b rfl), (rn_b rfl), (rn_refL (encI .i64) rfl rfl rfl), trivial⟩)
 }
 }
 {
 refine X_nx hw (E_sq (E_reg (E_mv (v' := .bool false) rfl (E_nil (E_nx (E_ret ?_))))))
 cases h
 exact ⟨trivial, _, _, rfl, gwk_rn [some (0, 0)] rfl (Nat.le_of_ble_eq_true rfl) ⟨(rn_obS rfl rfl (.refl ((encI .i64).blwf 0 _)) rfl), trivial⟩, (rn_b rfl)⟩
 }
def fc64 : FC := (.seq (.reg [oO 4 (.mv (.v .nils))] []) (.seq (.seq (.reg [oO 7 (.mv (.t 1)), oO 8 (.len .sl (.t 7)), oO 9 (.mv (.v (.int .i64 0)))] []) (.block 0 (.loop (.seq (.reg [oO 10 (.bin .none .lss (.t 9) (.t 8))] []) (.seq (.cond (.t 10) .skip (.exit 0)) (.seq (.block 1 (.seq (.reg [oO 11 (.iad none none (.t 7) (.t 9)), oO 12 (.load none (.t 11)), oO 6 (.mv (.t 12))] []) (.seq (.reg [oO 13 (.mv (.t 6)), oO 14 (.bin .none .geq (.t 13) (.v (.int .i64 0))), oO 15 (.mv (.t 14)), ⟨(some 16), some (15, true), .op (.mv (.t 0))⟩, ⟨(some 17), some (15, true), .op (.mv (.t 6))⟩, ⟨(some 18), some (15, true), .call 18 [(.t 16), (.t 17)]⟩, ⟨(some 19), some (15, true), .op (.un .not (.t 18))⟩, oO 20 (.pick (.t 15) (.t 19) (.v (.bool false)))] []) (.cond (.t 20) (.reg [oO 21 (.mv (.t 0)), oO 22 (.mv (.t 6)), oO 23 (.bsl none [(.int .i64 0)] 1 [(0, 1, (.t 22))]), oO 24 (.app none 8 (.t 21) (.t 23)), oO 0 (.mv (.t 24))] []) .skip)))) (.reg [oO 25 (.bin .none .add (.t 9) (.v (.int .i64 1))), oO 9 (.mv (.t 25))] []))))))) (.seq (.reg [oO 26 (.mv (.t 0)), oO 4 (.mv (.t 26))] []) .ret)))
theorem fn64 : Fn3 Tryd.prog 64 27 [(4, none)] fc64 := ⟨_, _, Tryd.func64, rfl, rfl, rfl, by kernel_rfl⟩
def windlassref07_add_n_o_s (more_01 : (List Int)) : Option (List Int) :=
  ((rng (fun (i_2 : Nat) (n_3 : Int) (s_1 : ((List Int) × (List Int))) => (((getI s_1.1 (i_2 : Int)).bind fun y_5 => (jp (fun (s_7 : Bool) => (if s_7 then ((appL 8 s_1.2 [y_5]).bind fun l_9 => (some (.nxt (s_1.1, l_9)))) else (some (.nxt (s_1.1, s_1.2))))) (fun k_6 => (if (decide (y_5 ≥ 0)) then ((windlassref07_In_r_s s_1.2 y_5).bind fun (vin_8 : Bool) => (k_6 (!vin_8))) else (k_6 false))))) : Option (Stp ((List Int) × (List Int)) (Option (List Int))))) more_01 (more_01, [])).bind (oc (fun (s_1 : ((List Int) × (List Int))) => (some s_1.2))))
theorem windlassref07_add_n_o_ev {more_01 : (List Int)} {r : (List Int)} (h : windlassref07_add_n_o_s more_01 = some r) : Ev Tryd.prog 64 [.nils, (.sl false 1 (List.map (avI .i64) more_01))] (hp []) (.ref 0 1 0 (List.length r) none) (hp [.arr 1 (flat (avI .i64) r)]) := by
 unfold windlassref07_add_n_o_s at h
 refine Ev_end mixed fn64 (by simp) [24] ?_
 unfold fc64
 refine E_sq (E_reg (E_mv (v' := .nils) rfl (E_nil (E_nx (E_as (E_sq (E_reg (E_mv (v' := (.sl false 1 (List.map (avI .i64) more_01))) rfl (E_len rfl (E_mv (v' := .int .i64 0) rfl (E_nil (E_nx (E_sq ?_)))))))))))))
 refine E_rngO (fun s_1 => [(0, (.ref 0 1 0 (List.length s_1.2) none)), (7, (.sl false 1 (List.map (avI .i64) s_1.1)))]) (fun s_1 => [.arr 1 (flat (avI .i64) s_1.2)]) h (by decide) (by decide) (fun _ => ⟨rfl, rfl, rfl, rfl⟩) (wk_rn [none] rfl (Nat.le_of_ble_eq_true rfl) ⟨(rn_obN rfl rfl rfl), trivial⟩ ⟨(rn_b rfl), (rn_b rfl), (rn_nil rfl), (rn_b ((encI .i64).blws 0)), trivial⟩) (fun i_2 n_3 s_1 c hx_4 hlt h => ?_) (fun s_1 fr' S' h hw => ?_)
 {
 refine E_sq (E_reg ?_)
 obtain ⟨y_5, hy_5, h⟩ := bd_some h
 refine E_iadF rfl rfl hy_5 (E_op0 (v' := .int .i64 y_5) rfl rfl (E_mv (v' := .int .i64 y_5) rfl (E_nil (E_nx ?_))))
 refine E_jp h (fun s_7 => [(0, (.ref 0 1 0 (List.length s_1.2) none)), (6, (.int .i64 y_5)), (7, (.sl false 1 (List.map (avI .i64) s_1.1))), (8, (.int .i64 (List.length more_01 : Int))), (9, (.int .i64 (i_2 : Int))), (20, (.bool s_7))]) (fun s_7 => [.arr 1 (flat (avI .i64) s_1.2)]) (fun k_6 h => ?_) (fun s_7 h => ?_)
 {
 refine E_reg (E_mv (v' := .int .i64 y_5) rfl (E_op0 (v' := (.bool (decide (y_5 ≥ 0)))) rfl rfl (E_mv (v' := (.bool (decide (y_5 ≥ 0)))) rfl ?_)))
 refine E_gsT (b := (decide (y_5 ≥ 0))) rfl rfl rfl (fun hb => ?_) (fun hb => ?_)
 {
 rw [ite_t hb] at h
 refine E_mv (v' := (.ref 0 1 0 (List.length s_1.2) none)) rfl (E_gh rfl (E_mv (v' := .int .i64 y_5) rfl (E_gh rfl ?_)))
 obtain ⟨vin_8, hvin_8, h⟩ := bd_some h
 refine E_callF (S' := [.arr 1 (flat (avI .i64) s_1.2)]) (r' := (.bool vin_8)) (windlassref07_In_r_ev hvin_8) [0] rfl rfl (by decide) rfl rfl ⟨(fr_in rfl rfl (.refl ((encI .i64).blwf 0 _))), trivial⟩ ⟨(fr_outS rfl rfl (.refl ((encI .i64).blwf 0 _)) rfl rfl), trivial⟩ ⟨.inl rfl, trivial⟩ rfl (.cons (fi_ref rfl rfl rfl rfl) (.cons (.base rfl (.refl _)) (.nil (Nat.zero_le _)))) (rn_b rfl) ?_
 refine E_gh rfl (E_op0 (v' := .bool (!vin_8)) rfl rfl (E_pt rfl rfl (E_nil ?_)))
 exact E_jx _ h (wk_rn [some (0, 0)] rfl (Nat.le_of_ble_eq_true rfl) ⟨(rn_ob rfl rfl (.refl ((encI .i64).blwf 0 _)) rfl), trivial⟩ ⟨(rn_refL (encI .i64) rfl rfl rfl), (rn_b rfl), (rn_b ((encI .i64).blws 0)), (rn_b rfl), (rn_b rfl), (rn_b rfl), trivial⟩)
 }
 {
 rw [ite_f hb] at h
 refine E_gm rfl (E_gm rfl (E_gm rfl (E_pf rfl rfl (E_nil ?_))))
 exact E_jx _ h (wk_rn [some (0, 0)] rfl (Nat.le_of_ble_eq_true rfl) ⟨(rn_ob rfl rfl (.refl ((encI .i64).blwf 0 _)) rfl), trivial⟩ ⟨(rn_refL (encI .i64) rfl rfl rfl), (rn_b rfl), (rn_b ((encI .i64).blws 0)), (rn_b rfl), (rn_b rfl), (rn_b rfl), trivial⟩)
 }
 }
 {
 refine E_cs (t := s_7) rfl (fun hb => ?_) (fun hb => ?_)
 {
 rw [ite_t hb] at h
 refine E_reg (E_mv (v' := (.ref 0 1 0 (List.length s_1.2) none)) rfl (E_mv (v' := .int .i64 y_5) rfl (E_opw (v' := (.sl true 1 (List.map (avI .i64) [y_5]))) rfl (.refl _) rfl ?_)))
 obtain ⟨l_9, hl_9, h⟩ := bd_some h
 refine E_apL (S' := [.arr 2 (flat (avI .i64) l_9)]) (encI .i64) rfl (src_sl [y_5]) rfl hl_9 rfl (E_mv (v' := (.ref 0 2 0 (List.length l_9) none)) rfl (E_nil ?_))
 cases h
 exact L_nn rfl (wk_rn [some (0, 0)] rfl (Nat.le_of_ble_eq_true rfl) ⟨(rn_ob rfl rfl (.refl ((encI .i64).blwf 0 _)) rfl), trivial⟩ ⟨(rn_b rfl), (rn_b rfl), (rn_refL (encI .i64) rfl rfl rfl), (rn_b ((encI .i64).blws 0)), trivial⟩)
 }
 {
 rw [ite_f hb] at h
 refine E_skip ?_
 cases h
 exact L_nn rfl (wk_rn [some (0, 0)] rfl (Nat.le_of_ble_eq_true rfl) ⟨(rn_ob rfl rfl (.refl ((encI .i64).blwf 0 _)) rfl), trivial⟩ ⟨(rn_b rfl), (rn_b rfl), (rn_refL (encI .i64) rfl rfl rfl), (rn_b ((encI .i64).blws 0)), trivial⟩)
 }
 }
 }
 {
 refine X_nx hw (E_sq (E_reg (E_mv (v' := (.ref 0 1 0 (List.length s_1.2) none)) rfl (E_mv (v' := (.ref 0 1 0 (List.length s_1.2) none)) rfl (E_nil (E_nx (E_ret ?_)))))))
 cases h
 exact ⟨trivial, _, _, rfl, gwk_rn [some (0, 0)] rfl (Nat.le_of_ble_eq_true rfl) ⟨(rn_ob rfl rfl (.refl ((encI .i64).blwf 0 _)) rfl), trivial⟩, (rn_refL (encI .i64) rfl rfl rfl)⟩
 }
def fc33 : FC := (.seq (.reg [oO 1 (.box (.t 0)), oO 2 (.mv (.v .nils))] []) (.seq (.reg [oO 3 (.mv (.v .nils))] []) (.seq (.seq (.reg [oO 4 (.fad 0 (.t 1)), oO 5 (.load none (.t 4))] []) (.block 0 (.seq (.seq (.reg [oO 7 (.bin .none .eql (.t 5) (.v (.int .u8 1))), oO 6 (.mv (.t 7))] []) (.cond (.t 6) .skip (.seq (.reg [oO 8 (.bin .none .eql (.t 5) (.v (.int .u8 2))), oO 6 (.mv (.t 8))] []) (.cond (.t 6) .skip (.seq (.reg [oO 9 (.bin .none .eql (.t 5) (.v (.int .u8 3))), oO 6 (.mv (.t 9))] []) (.cond (.t 6) .skip (.seq (.reg [oO 10 (.bin .none .eql (.t 5) (.v (.int .u8 4))), oO 6 (.mv (.t 10))] []) (.cond (.t 6) .skip (.seq (.reg [oO 11 (.bin .none .eql (.t 5) (.v (.int .u8 6))), oO 6 (.mv (.t 11))] []) (.cond (.t 6) .skip (.seq (.reg [oO 12 (.bin .none .eql (.t 5) (.v (.int .u8 7))), oO 6 (.mv (.t 12))] []) (.cond (.t 6) .skip (.seq (.reg [oO 13 (.bin .none .eql (.t 5) (.v (.int .u8 11))), oO 6 (.mv (.t 13))] []) (.cond (.t 6) .skip (.reg [oO 14 (.bin .none .eql (.t 5) (.v (.int .u8 16))), oO 6 (.mv (.t 14))] []))))))))))))))) (.cond (.t 6) (.reg [oO 15 (.mv (.t 3)), oO 16 (.fad 2 (.t 1)), oO 17 (.load none (.t 16)), oO 18 (.bsl none [(.int .i64 0)] 1 [(0, 1, (.t 17))]), ⟨(some 19), none, .call 64 [(.t 15), (.t 18)]⟩, oO 3 (.mv (.t 19))] []) (.seq (.reg [oO 21 (.bin .none .eql (.t 5) (.v (.int .u8 15))), oO 20 (.mv (.t 21))] []) (.cond (.t 20) (.reg [oO 22 (.mv (.t 3)), oO 23 (.fad 2 (.t 1)), oO 24 (.load none (.t 23)), oO 25 (.fad 3 (.t 1)), oO 26 (.load none (.t 25)), oO 27 (.bsl none [(.int .i64 0)] 2 [(0, 1, (.t 24)), (1, 1, (.t 26))]), ⟨(some 28), none, .call 64 [(.t 22), (.t 27)]⟩, oO 3 (.mv (.t 28))] []) .skip)))))) (.seq (.reg [oO 29 (.mv (.t 3)), oO 2 (.mv (.t 29))] []) .ret))))
theorem fn33 : Fn3 Tryd.prog 33 30 [(2, none)] fc33 := ⟨_, _, Tryd.func33, rfl, rfl, rfl, by kernel_rfl⟩
def windlassref07_Writes_s (n_00 : Node) : Option (List Int) :=
  (jp (fun (s_2 : (List Int)) => (some s_2)) (fun k_1 => (jp (fun (s_4 : Bool) => (if s_4 then ((windlassref07_add_n_o_s ([n_00.D])).bind fun (add_5 : (List Int)) => (k_1 add_5)) else (if (n_00.Op == 15) then ((windlassref07_add_n_o_s ([n_00.D, n_00.E])).bind fun (add_6 : (List Int)) => (k_1 add_6)) else (k_1 [])))) (fun k_3 => (if (n_00.Op == 1) then (k_3 (n_00.Op == 1)) else (if (n_00.Op == 2) then (k_3 (n_00.Op == 2)) else (if (n_00.Op == 3) then (k_3 (n_00.Op == 3)) else (if (n_00.Op == 4) then (k_3 (n_00.Op == 4)) else (if (n_00.Op == 6) then (k_3 (n_00.Op == 6)) else (if (n_00.Op == 7) then (k_3 (n_00.Op == 7)) else (if (n_00.Op == 11) then (k_3 (n_00.Op == 11)) else (k_3 (n_00.Op == 16)))))))))))))
theorem windlassref07_Writes_ev {n_00 : Node} {r : (List Int)} (h : windlassref07_Writes_s n_00 = some r) : PureEv Tryd.prog 33 [(Node.av n_00)] (.sl false 1 (List.map (avI .i64) r)) := by
 unfold windlassref07_Writes_s at h
 refine PureEv_end mixed fn33 (by simp) [] 6 ?_
 unfold fc33
 refine E_sq (E_reg (E_op0 (v' := (.cptr (Node.av n_00).cells 0)) rfl rfl (E_mv (v' := .nils) rfl (E_nil (E_nx (E_sq (E_reg (E_mv (v' := .nils) rfl (E_nil (E_nx (E_as (E_sq (E_reg (E_op0 (v' := (.cptr (Node.av n_00).cells 0)) rfl rfl (E_op0 (v' := .int .u8 n_00.Op) rfl rfl ?_)))))))))))))))
 refine E_nil (E_nx ?_)
 refine E_jp h (fun s_2 => [(3, (.ref 0 1 0 (List.length s_2) none))]) (fun s_2 => [.arr 1 (flat (avI .i64) s_2)]) (fun k_1 h => ?_) (fun s_2 h => ?_)
 {
 refine E_block (E_as (E_sq (E_reg (E_op0 (v' := .bool (n_00.Op == 1)) rfl rfl (E_mv (v' := .bool (n_00.Op == 1)) rfl (E_nil (E_nx ?_)))))))
 refine E_jp h (fun s_4 => [(1, (.cptr (Node.av n_00).cells 0)), (3, .nils), (5, (.int .u8 n_00.Op)), (6, (.bool s_4))]) (fun s_4 => []) (fun k_3 h => ?_) (fun s_4 h => ?_)
 {
 refine E_cs (t := (n_00.Op == 1)) rfl (fun hb => ?_) (fun hb => ?_)
 {
 rw [ite_t hb] at h
 refine E_skip ?_
 exact E_jx _ h (wk_aw ⟨(.refl _), (.refl _), (.refl _), (.refl _), trivial⟩)
 }
 {
 rw [ite_f hb] at h
 refine E_sq (E_reg (E_op0 (v' := .bool (n_00.Op == 2)) rfl rfl (E_mv (v' := .bool (n_00.Op == 2)) rfl (E_nil (E_nx ?_)))))
 refine E_cs (t := (n_00.Op == 2)) rfl (fun hb => ?_) (fun hb => ?_)
 {
 rw [ite_t hb] at h
 refine E_skip ?_
 exact E_jx _ h (wk_aw ⟨(.refl _), (.refl _), (.refl _), (.refl _), trivial⟩)
 }
 {
 rw [ite_f hb] at h
 refine E_sq (E_reg (E_op0 (v' := .bool (n_00.Op == 3)) rfl rfl (E_mv (v' := .bool (n_00.Op == 3)) rfl (E_nil (E_nx ?_)))))
 refine E_cs (t := (n_00.Op == 3)) rfl (fun hb => ?_) (fun hb => ?_)
 {
 rw [ite_t hb] at h
 refine E_skip ?_
 exact E_jx _ h (wk_aw ⟨(.refl _), (.refl _), (.refl _), (.refl _), trivial⟩)
 }
 {
 rw [ite_f hb] at h
 refine E_sq (E_reg (E_op0 (v' := .bool (n_00.Op == 4)) rfl rfl (E_mv (v' := .bool (n_00.Op == 4)) rfl (E_nil (E_nx ?_)))))
 refine E_cs (t := (n_00.Op == 4)) rfl (fun hb => ?_) (fun hb => ?_)
 {
 rw [ite_t hb] at h
 refine E_skip ?_
 exact E_jx _ h (wk_aw ⟨(.refl _), (.refl _), (.refl _), (.refl _), trivial⟩)
 }
 {
 rw [ite_f hb] at h
 refine E_sq (E_reg (E_op0 (v' := .bool (n_00.Op == 6)) rfl rfl (E_mv (v' := .bool (n_00.Op == 6)) rfl (E_nil (E_nx ?_)))))
 refine E_cs (t := (n_00.Op == 6)) rfl (fun hb => ?_) (fun hb => ?_)
 {
 rw [ite_t hb] at h
 refine E_skip ?_
 exact E_jx _ h (wk_aw ⟨(.refl _), (.refl _), (.refl _), (.refl _), trivial⟩)
 }
 {
 rw [ite_f hb] at h
 refine E_sq (E_reg (E_op0 (v' := .bool (n_00.Op == 7)) rfl rfl (E_mv (v' := .bool (n_00.Op == 7)) rfl (E_nil (E_nx ?_)))))
 refine E_cs (t := (n_00.Op == 7)) rfl (fun hb => ?_) (fun hb => ?_)
 {
 rw [ite_t hb] at h
 refine E_skip ?_
 exact E_jx _ h (wk_aw ⟨(.refl _), (.refl _), (.refl _), (.refl _), trivial⟩)
 }
 {
 rw [ite_f hb] at h
 refine E_sq (E_reg (E_op0 (v' := .bool (n_00.Op == 11)) rfl rfl (E_mv (v' := .bool (n_00.Op == 11)) rfl (E_nil (E_nx ?_)))))
 refine E_cs (t := (n_00.Op == 11)) rfl (fun hb => ?_) (fun hb => ?_)
 {
 rw [ite_t hb] at h
 refine E_skip ?_
 exact E_jx _ h (wk_aw ⟨(.refl _), (.refl _), (.refl _), (.refl _), trivial⟩)
 }
 {
 rw [ite_f hb] at h
 refine E_reg (E_op0 (v' := .bool (n_00.Op == 16)) rfl rfl (E_mv (v' := .bool (n_00.Op == 16)) rfl (E_nil ?_)))
 exact E_jx _ h (wk_aw ⟨(.refl _), (.refl _), (.refl _), (.refl _), trivial⟩)
 }
 }
 }
 }
 }
 }
 }
 }
 {
 refine E_cs (t := s_4) rfl (fun hb => ?_) (fun hb => ?_)
 {
 rw [ite_t hb] at h
 refine E_reg (E_mv (v' := .nils) rfl (E_op0 (v' := (.cptr (Node.av n_00).cells 2)) rfl rfl (E_op0 (v' := .int .i64 n_00.D) rfl rfl (E_opw (v' := (.sl true 1 (List.map (avI .i64) [n_00.D]))) rfl (.refl _) rfl ?_))))
 obtain ⟨add_5, hadd_5, h⟩ := bd_some h
 refine E_callF (S' := [.arr 1 (flat (avI .i64) add_5)]) (r' := (.ref 0 1 0 (List.length add_5) none)) (windlassref07_add_n_o_ev hadd_5) [] rfl rfl (by decide) rfl rfl trivial ⟨(fr_outN rfl rfl (.refl ((encI .i64).blwf 0 _)) rfl), trivial⟩ trivial rfl (.cons (rn_b rfl) (.cons (.base ((encI .i64).blws 0) .ex) (.nil (Nat.zero_le _)))) (fo_ref rfl rfl rfl rfl) ?_
 refine E_mv (v' := (.ref 0 1 0 (List.length add_5) none)) rfl (E_nil (E_bln ?_))
 exact E_jx _ h (wk_rn [some (0, 0)] rfl (Nat.le_of_ble_eq_true rfl) ⟨(rn_ob rfl rfl (.refl ((encI .i64).blwf 0 _)) rfl), trivial⟩ ⟨(rn_refL (encI .i64) rfl rfl rfl), trivial⟩)
 }
 {
 rw [ite_f hb] at h
 refine E_sq (E_reg (E_op0 (v' := .bool (n_00.Op == 15)) rfl rfl (E_mv (v' := .bool (n_00.Op == 15)) rfl (E_nil (E_nx ?_)))))
 refine E_cs (t := (n_00.Op == 15)) rfl (fun hb => ?_) (fun hb => ?_)
 {
 rw [ite_t hb] at h
 refine E_reg (E_mv (v' := .nils) rfl (E_op0 (v' := (.cptr (Node.av n_00).cells 2)) rfl rfl (E_op0 (v' := .int .i64 n_00.D) rfl rfl (E_op0 (v' := (.cptr (Node.av n_00).cells 3)) rfl rfl (E_op0 (v' := .int .i64 n_00.E) rfl rfl (E_opw (v' := (.sl true 1 (List.map (avI .i64) [n_00.D, n_00.E]))) rfl (.refl _) rfl ?_))))))
 obtain ⟨add_6, hadd_6, h⟩ := bd_some h
 refine E_callF (S' := [.arr 1 (flat (avI .i64) add_6)]) (r' := (.ref 0 1 0 (List.length add_6) none)) (windlassref07_add_n_o_ev hadd_6) [] rfl rfl (by decide) rfl rfl trivial ⟨(fr_outN rfl rfl (.refl ((encI .i64).blwf 0 _)) rfl), trivial⟩ trivial rfl (.cons (rn_b rfl) (.cons (.base ((encI .i64).blws 0) .ex) (.nil (Nat.zero_le _)))) (fo_ref rfl rfl rfl rfl) ?_
 refine E_mv (v' := (.ref 0 1 0 (List.length add_6) none)) rfl (E_nil (E_bln ?_))
 exact E_jx _ h (wk_rn [some (0, 0)] rfl (Nat.le_of_ble_eq_true rfl) ⟨(rn_ob rfl rfl (.refl ((encI .i64).blwf 0 _)) rfl), trivial⟩ ⟨(rn_refL (encI .i64) rfl rfl rfl), trivial⟩)
 }
 {
 rw [ite_f hb] at h
 refine E_skip (E_bln ?_)
 exact E_jx _ h (wk_rn [none] rfl (Nat.le_of_ble_eq_true rfl) ⟨(rn_obN rfl rfl rfl), trivial⟩ ⟨(rn_nil rfl), trivial⟩)
 }
 }
 }
 }
 {
 refine E_sq (E_reg (E_mv (v' := (.ref 0 1 0 (List.length s_2) none)) rfl (E_mv (v' := (.ref 0 1 0 (List.length s_2) none)) rfl (E_nil (E_nx (E_ret ?_))))))
 cases h
 exact ⟨trivial, _, rfl, (fz_ref (encI .i64) (Nat.zero_le _) rfl)⟩
 }
end Go.Proofs.YtgoejecjmodjiaaDoor

