/- What the functions compute, and that they do (printed by wip/gen/gen.py), part 1. -/
import Derived.Test.YtgoejecjmodjiaaDoorWlH2
import Derived.Test.YtgoejecjmodjiaaDoorRows
import Derived.Test.YtgoejecjmodjiaaDoorLvC2
namespace Go.Proofs.YtgoejecjmodjiaaDoor
open Go Go.Ab
set_option maxRecDepth 20000
set_option maxHeartbeats 2000000
set_option linter.unusedVariables false
set_option linter.unusedSimpArgs false
def fc18 : FC := (.seq (.reg [oO 4 (.mv (.v (.bool false)))] []) (.seq (.seq (.reg [oO 7 (.mv (.t 0)), oO 8 (.len .sl (.t 7)), oO 9 (.mv (.v (.int .i64 0)))] []) (.block 0 (.loop (.seq (.reg [oO 10 (.bin .none .lss (.t 9) (.t 8))] []) (.seq (.cond (.t 10) .skip (.exit 0)) (.seq (.block 1 (.seq (.reg [oO 11 (.iad none none (.t 7) (.t 9)), oO 12 (.load none (.t 11)), oO 6 (.mv (.t 12))] []) (.seq (.reg [oO 13 (.mv (.t 6)), oO 14 (.mv (.t 1)), oO 15 (.bin .none .eql (.t 13) (.t 14))] []) (.cond (.t 15) (.seq (.reg [oO 4 (.mv (.v (.bool true)))] []) .ret) .skip)))) (.reg [oO 16 (.bin .none .add (.t 9) (.v (.int .i64 1))), oO 9 (.mv (.t 16))] []))))))) (.seq (.reg [oO 4 (.mv (.v (.bool false)))] []) .ret)))
theorem fn18 : Fn3 Tryd.prog 18 17 [(4, none)] fc18 := ⟨_, _, Tryd.func18, rfl, rfl, rfl, by kernel_rfl⟩
def windlassref07_In_s (l_00 : (List Int)) (n_01 : Int) : Option Bool :=
  ((rng (fun (i_2 : Nat) (x_3 : Int) (s_1 : Int) => ((if (x_3 == s_1) then (some (.ret (some true))) else (some (.nxt s_1))) : Option (Stp Int (Option Bool)))) l_00 n_01).bind (oc (fun (s_1 : Int) => (some false))))
theorem windlassref07_In_ev {l_00 : (List Int)} {n_01 : Int} {r : Bool} (h : windlassref07_In_s l_00 n_01 = some r) : PureEv Tryd.prog 18 [(.sl false 1 (List.map (avI .i64) l_00)), (.int .i64 n_01)] (.bool r) := by
 unfold windlassref07_In_s at h
 refine PureEv_end mixed fn18 (by simp) [] 6 ?_
 unfold fc18
 refine E_sq (E_reg (E_mv (v' := .bool false) rfl (E_nil (E_nx (E_as (E_sq (E_reg (E_mv (v' := (.sl false 1 (List.map (avI .i64) l_00))) rfl (E_len rfl (E_mv (v' := .int .i64 0) rfl (E_nil (E_nx (E_sq ?_)))))))))))))
 refine E_rngO (fun s_1 => [(1, (.int .i64 s_1)), (7, (.sl false 1 (List.map (avI .i64) l_00)))]) (fun s_1 => []) h (by decide) (by decide) (fun _ => ⟨rfl, rfl, rfl, rfl⟩) (wk_aw ⟨(.refl _), (.refl _), (.refl _), (.refl _), trivial⟩) (fun i_2 x_3 s_1 c hx_4 hlt h => ?_) (fun s_1 fr' S' h hw => ?_)
 {
 refine E_sq (E_reg (E_iadF rfl rfl (getI_of hx_4) (E_op0 (v' := .int .i64 x_3) rfl rfl (E_mv (v' := .int .i64 x_3) rfl (E_nil (E_nx (E_sq (E_reg (E_mv (v' := .int .i64 x_3) rfl (E_mv (v' := .int .i64 s_1) rfl (E_op0 (v' := .bool (x_3 == s_1)) rfl rfl (E_nil (E_nx ?_)))))))))))))
 refine E_cs (t := (x_3 == s_1)) rfl (fun hb => ?_) (fun hb => ?_)
 {
 rw [ite_t hb] at h
 refine E_sq (E_reg (E_mv (v' := .bool true) rfl (E_nil (E_nx (E_ret ?_)))))
 cases h
 refine L_rrO rfl (fun h => ?_)
 refine E_thr ?_
 cases h
 exact ⟨trivial, _, rfl, (fz_b rfl (.refl _))⟩
 }
 {
 rw [ite_f hb] at h
 refine E_skip ?_
 cases h
 exact L_nn rfl (wk_aw ⟨(.refl _), (.refl _), (.refl _), (.refl _), trivial⟩)
 }
 }
 {
 refine X_nx hw (E_sq (E_reg (E_mv (v' := .bool false) rfl (E_nil (E_nx (E_ret ?_))))))
 cases h
 exact ⟨trivial, _, rfl, (fz_b rfl (.refl _))⟩
 }
def fc62 : FC := (.seq (.reg [oO 4 (.box (.t 0)), oO 8 (.mv (.v (.bool false)))] []) (.seq (.reg [oO 9 (.mv (.t 2)), oO 10 (.bin .none .geq (.t 9) (.v (.int .i64 0))), oO 11 (.mv (.t 10)), ⟨(some 12), some (11, true), .op (.mv (.t 2))⟩, ⟨(some 13), some (11, true), .op (.fad 1 (.t 4))⟩, ⟨(some 14), some (11, true), .op (.load none (.t 13))⟩, ⟨(some 15), some (11, true), .op (.len .sl (.t 14))⟩, ⟨(some 16), some (11, true), .op (.bin .none .lss (.t 12) (.t 15))⟩, oO 17 (.pick (.t 11) (.t 16) (.v (.bool false))), oO 18 (.mv (.t 17)), ⟨(some 19), some (18, true), .op (.mv (.t 1))⟩, ⟨(some 20), some (18, true), .op (.mv (.t 19))⟩, ⟨(some 21), some (20, false), .op (.fad 1 (.t 4))⟩, ⟨(some 22), some (20, false), .op (.load none (.t 21))⟩, ⟨(some 23), some (20, false), .op (.mv (.t 2))⟩, ⟨(some 24), some (20, false), .op (.iad none none (.t 22) (.t 23))⟩, ⟨(some 25), some (20, false), .op (.load none (.t 24))⟩, ⟨(some 26), some (20, false), .op (.mv (.t 3))⟩, ⟨(some 27), some (20, false), .op (.bin .none .eql (.t 25) (.t 26))⟩, ⟨(some 28), some (18, true), .op (.pick (.t 20) (.v (.bool true)) (.t 27))⟩, oO 29 (.pick (.t 18) (.t 28) (.v (.bool false))), oO 8 (.mv (.t 29))] []) .ret))
theorem fn62 : Fn3 Tryd.prog 62 30 [(8, none)] fc62 := ⟨_, _, Tryd.func62, rfl, rfl, rfl, by kernel_rfl⟩
def windlassref07_fits_s (g_00 : Graph) (bound_01 : Bool) (p_02 : Int) (k_03 : Int) : Option Bool :=
  (jp (fun (s_2 : Bool) => (some s_2)) (fun k_1 => (if (decide (p_02 ≥ 0)) then (if (decide (p_02 < (List.length g_00.Kinds : Int))) then (if bound_01 then (k_1 true) else ((getI g_00.Kinds p_02).bind fun y_3 => (k_1 (y_3 == k_03)))) else (k_1 false)) else (k_1 false))))
theorem windlassref07_fits_ev {g_00 : Graph} {bound_01 : Bool} {p_02 : Int} {k_03 : Int} {r : Bool} (h : windlassref07_fits_s g_00 bound_01 p_02 k_03 = some r) : PureEv Tryd.prog 62 [(Graph.av g_00), (.bool bound_01), (.int .i64 p_02), (.int .u8 k_03)] (.bool r) := by
 unfold windlassref07_fits_s at h
 refine PureEv_end mixed fn62 (by simp) [] 6 ?_
 unfold fc62
 refine E_sq (E_reg (E_op0 (v' := (.cptr (Graph.av g_00).cells 0)) rfl rfl (E_mv (v' := .bool false) rfl (E_nil (E_nx ?_)))))
 refine E_jp h (fun s_2 => [(8, (.bool s_2))]) (fun s_2 => []) (fun k_1 h => ?_) (fun s_2 h => ?_)
 {
 refine E_reg (E_mv (v' := .int .i64 p_02) rfl (E_op0 (v' := (.bool (decide (p_02 ≥ 0)))) rfl rfl (E_mv (v' := (.bool (decide (p_02 ≥ 0)))) rfl ?_)))
 refine E_gsT (b := (decide (p_02 ≥ 0))) rfl rfl rfl (fun hb => ?_) (fun hb => ?_)
 {
 rw [ite_t hb] at h
 refine E_mv (v' := .int .i64 p_02) rfl (E_gh rfl (E_op0 (v' := (.cptr (Graph.av g_00).cells 1)) rfl rfl (E_gh rfl (E_op0 (v' := (.sl false 1 (List.map (avI .u8) g_00.Kinds))) rfl rfl (E_gh rfl (E_len rfl (E_gh rfl (E_op0 (v' := (.bool (decide (p_02 < (List.length g_00.Kinds : Int))))) rfl rfl (E_pt rfl rfl (E_mv (v' := (.bool (decide (p_02 < (List.length g_00.Kinds : Int))))) rfl ?_))))))))))
 refine E_gsT (b := (decide (p_02 < (List.length g_00.Kinds : Int)))) rfl rfl rfl (fun hb => ?_) (fun hb => ?_)
 {
 rw [ite_t hb] at h
 refine E_mv (v' := .bool bound_01) rfl (E_gh rfl (E_mv (v' := .bool bound_01) rfl ?_))
 refine E_gsT (b := bound_01) rfl rfl rfl (fun hb => ?_) (fun hb => ?_)
 {
 rw [ite_f hb] at h
 refine E_op0 (v' := (.cptr (Graph.av g_00).cells 1)) rfl rfl (E_gh rfl (E_op0 (v' := (.sl false 1 (List.map (avI .u8) g_00.Kinds))) rfl rfl (E_gh rfl (E_mv (v' := .int .i64 p_02) rfl (E_gh rfl ?_)))))
 obtain ⟨y_3, hy_3, h⟩ := bd_some h
 refine E_iadF rfl rfl hy_3 (E_gh rfl (E_op0 (v' := .int .u8 y_3) rfl rfl (E_gh rfl (E_mv (v' := .int .u8 k_03) rfl (E_gh rfl (E_op0 (v' := .bool (y_3 == k_03)) rfl rfl (E_gh rfl (E_pf rfl rfl (E_pt rfl rfl (E_mv (v' := .bool (y_3 == k_03)) rfl (E_nil ?_)))))))))))
 exact E_jx _ h (wk_aw ⟨(.refl _), trivial⟩)
 }
 {
 rw [ite_t hb] at h
 refine E_gm rfl (E_gm rfl (E_gm rfl (E_gm rfl (E_gm rfl (E_gm rfl (E_gh rfl (E_pt rfl rfl (E_pt rfl rfl (E_mv (v' := .bool true) rfl (E_nil ?_))))))))))
 exact E_jx _ h (wk_aw ⟨(.refl _), trivial⟩)
 }
 }
 {
 rw [ite_f hb] at h
 refine E_gm rfl (E_gz rfl (E_gz rfl (E_gz rfl (E_gz rfl (E_gz rfl (E_gz rfl (E_gz rfl (E_gm rfl (E_pf rfl rfl (E_mv (v' := .bool false) rfl (E_nil ?_)))))))))))
 exact E_jx _ h (wk_aw ⟨(.refl _), trivial⟩)
 }
 }
 {
 rw [ite_f hb] at h
 refine E_gm rfl (E_gm rfl (E_gm rfl (E_gm rfl (E_pf rfl rfl (E_mv (v' := .bool false) rfl (E_gm rfl (E_gm rfl (E_gz rfl (E_gz rfl (E_gz rfl (E_gz rfl (E_gz rfl (E_gz rfl (E_gz rfl (E_gm rfl ?_)))))))))))))))
 refine E_pf rfl rfl (E_mv (v' := .bool false) rfl (E_nil ?_))
 exact E_jx _ h (wk_aw ⟨(.refl _), trivial⟩)
 }
 }
 {
 refine E_ret ?_
 cases h
 exact ⟨trivial, _, rfl, (fz_b rfl (.refl _))⟩
 }
def fc31 : FC := (.seq (.reg [oO 2 (.box (.t 0)), oO 4 (.mv (.v (.bool false)))] []) (.seq (.seq (.reg [oO 9 (.fad 1 (.t 2)), oO 10 (.load none (.t 9)), oO 11 (.len .sl (.t 10)), oO 12 (.bin .none .gtr (.t 11) (.v (.int .i64 1024))), oO 13 (.mv (.t 12)), ⟨(some 14), some (13, false), .op (.mv (.t 1))⟩, ⟨(some 15), some (13, false), .op (.mv (.t 14))⟩, ⟨(some 16), some (15, true), .op (.fad 1 (.t 2))⟩, ⟨(some 17), some (15, true), .op (.load none (.t 16))⟩, ⟨(some 18), some (15, true), .op (.len .sl (.t 17))⟩, ⟨(some 19), some (15, true), .op (.bin .none .lss (.t 18) (.v (.int .i64 16)))⟩, ⟨(some 20), some (13, false), .op (.pick (.t 15) (.t 19) (.v (.bool false)))⟩, oO 21 (.pick (.t 13) (.v (.bool true)) (.t 20)), oO 22 (.mv (.t 21)), ⟨(some 23), some (22, false), .op (.fad 0 (.t 2))⟩, ⟨(some 24), some (22, false), .op (.load none (.t 23))⟩, ⟨(some 25), some (22, false), .op (.len .sl (.t 24))⟩, ⟨(some 26), some (22, false), .op (.bin .none .gtr (.t 25) (.v (.int .i64 4)))⟩, oO 27 (.pick (.t 22) (.v (.bool true)) (.t 26)), oO 28 (.mv (.t 27)), ⟨(some 29), some (28, false), .op (.fad 3 (.t 2))⟩, ⟨(some 30), some (28, false), .op (.load none (.t 29))⟩, ⟨(some 31), some (28, false), .op (.len .sl (.t 30))⟩, ⟨(some 32), some (28, false), .op (.fad 0 (.t 2))⟩, ⟨(some 33), some (28, false), .op (.load none (.t 32))⟩, ⟨(some 34), some (28, false), .op (.len .sl (.t 33))⟩, ⟨(some 35), some (28, false), .op (.bin .none .neq (.t 31) (.t 34))⟩, oO 36 (.pick (.t 28) (.v (.bool true)) (.t 35)), oO 37 (.mv (.t 36)), ⟨(some 38), some (37, false), .op (.fad 2 (.t 2))⟩, ⟨(some 39), some (37, false), .op (.load none (.t 38))⟩, ⟨(some 40), some (37, false), .op (.bin .none .lss (.t 39) (.v (.int .i64 0)))⟩, oO 41 (.pick (.t 37) (.v (.bool true)) (.t 40)), oO 42 (.mv (.t 41)), ⟨(some 43), some (42, false), .op (.fad 2 (.t 2))⟩, ⟨(some 44), some (42, false), .op (.load none (.t 43))⟩, ⟨(some 45), some (42, false), .op (.bin .none .gtr (.t 44) (.v (.int .i64 64)))⟩, oO 46 (.pick (.t 42) (.v (.bool true)) (.t 45)), oO 47 (.mv (.t 46)), ⟨(some 48), some (47, false), .op (.fad 5 (.t 2))⟩, ⟨(some 49), some (47, false), .op (.load none (.t 48))⟩, ⟨(some 50), some (47, false), .op (.bin .none .lss (.t 49) (.v (.int .i64 (-1))))⟩, oO 51 (.pick (.t 47) (.v (.bool true)) (.t 50)), oO 52 (.mv (.t 51)), ⟨(some 53), some (52, false), .op (.fad 5 (.t 2))⟩, ⟨(some 54), some (52, false), .op (.load none (.t 53))⟩, ⟨(some 55), some (52, false), .op (.fad 2 (.t 2))⟩, ⟨(some 56), some (52, false), .op (.load none (.t 55))⟩, ⟨(some 57), some (52, false), .op (.bin .none .geq (.t 54) (.t 56))⟩, oO 58 (.pick (.t 52) (.v (.bool true)) (.t 57))] []) (.cond (.t 58) (.seq (.reg [oO 4 (.mv (.v (.bool false)))] []) .ret) .skip)) (.seq (.seq (.reg [oO 59 (.fad 1 (.t 2)), oO 60 (.load none (.t 59)), oO 61 (.len .sl (.t 60)), oO 62 (.mv (.v (.int .i64 0)))] []) (.block 0 (.loop (.seq (.reg [oO 63 (.bin .none .lss (.t 62) (.t 61))] []) (.seq (.cond (.t 63) .skip (.exit 0)) (.seq (.block 1 (.seq (.reg [oO 64 (.iad none none (.t 60) (.t 62)), oO 65 (.load none (.t 64)), oO 6 (.mv (.t 65))] []) (.seq (.reg [oO 66 (.mv (.t 6)), oO 67 (.bin .none .gtr (.t 66) (.v (.int .u8 1)))] []) (.cond (.t 67) (.seq (.reg [oO 4 (.mv (.v (.bool false)))] []) .ret) .skip)))) (.reg [oO 68 (.bin .none .add (.t 62) (.v (.int .i64 1))), oO 62 (.mv (.t 68))] []))))))) (.seq (.seq (.reg [oO 69 (.fad 0 (.t 2)), oO 70 (.load none (.t 69)), oO 71 (.len .sl (.t 70)), oO 72 (.mv (.v (.int .i64 0)))] []) (.block 2 (.loop (.seq (.reg [oO 73 (.bin .none .lss (.t 72) (.t 71))] []) (.seq (.cond (.t 73) .skip (.exit 2)) (.seq (.block 3 (.seq (.reg [oO 74 (.mv (.t 72)), oO 75 (.iad none none (.t 70) (.t 72)), oO 76 (.load none (.t 75)), oO 7 (.mv (.t 74)), oO 8 (.mv (.t 76))] []) (.seq (.seq (.reg [oO 77 (.mv (.t 8)), oO 78 (.bin .none .lss (.t 77) (.v (.int .i64 0))), oO 79 (.mv (.t 78)), ⟨(some 80), some (79, false), .op (.mv (.t 8))⟩, ⟨(some 81), some (79, false), .op (.fad 1 (.t 2))⟩, ⟨(some 82), some (79, false), .op (.load none (.t 81))⟩, ⟨(some 83), some (79, false), .op (.len .sl (.t 82))⟩, ⟨(some 84), some (79, false), .op (.bin .none .geq (.t 80) (.t 83))⟩, oO 85 (.pick (.t 79) (.v (.bool true)) (.t 84)), oO 86 (.mv (.t 85)), ⟨(some 87), some (86, false), .op (.fad 0 (.t 2))⟩, ⟨(some 88), some (86, false), .op (.load none (.t 87))⟩, ⟨(some 89), some (86, false), .op (.mv (.t 7))⟩, ⟨(some 90), some (86, false), .op (.slc none (.t 88) none (some (.t 89)) none)⟩, ⟨(some 91), some (86, false), .op (.mv (.t 8))⟩, ⟨(some 92), some (86, false), .call 18 [(.t 90), (.t 91)]⟩, oO 93 (.pick (.t 86) (.v (.bool true)) (.t 92)), oO 94 (.mv (.t 93)), ⟨(some 95), some (94, false), .op (.mv (.t 1))⟩, ⟨(some 96), some (94, false), .op (.mv (.t 95))⟩, ⟨(some 97), some (96, true), .op (.mv (.t 8))⟩, ⟨(some 98), some (96, true), .op (.mv (.t 7))⟩, ⟨(some 99), some (96, true), .op (.bin .none .neq (.t 97) (.t 98))⟩, ⟨(some 100), some (94, false), .op (.pick (.t 96) (.t 99) (.v (.bool false)))⟩, oO 101 (.pick (.t 94) (.v (.bool true)) (.t 100))] []) (.cond (.t 101) (.seq (.reg [oO 4 (.mv (.v (.bool false)))] []) .ret) .skip)) (.seq (.reg [oO 102 (.fad 3 (.t 2)), oO 103 (.load none (.t 102)), oO 104 (.mv (.t 7)), oO 105 (.iad none none (.t 103) (.t 104)), oO 106 (.load none (.t 105)), oO 107 (.bin .none .lss (.t 106) (.v (.int .i64 (-1)))), oO 108 (.mv (.t 107)), ⟨(some 109), some (108, false), .op (.fad 3 (.t 2))⟩, ⟨(some 110), some (108, false), .op (.load none (.t 109))⟩, ⟨(some 111), some (108, false), .op (.mv (.t 7))⟩, ⟨(some 112), some (108, false), .op (.iad none none (.t 110) (.t 111))⟩, ⟨(some 113), some (108, false), .op (.load none (.t 112))⟩, ⟨(some 114), some (108, false), .op (.fad 2 (.t 2))⟩, ⟨(some 115), some (108, false), .op (.load none (.t 114))⟩, ⟨(some 116), some (108, false), .op (.bin .none .geq (.t 113) (.t 115))⟩, oO 117 (.pick (.t 108) (.v (.bool true)) (.t 116)), oO 118 (.mv (.t 117)), ⟨(some 119), some (118, false), .op (.fad 3 (.t 2))⟩, ⟨(some 120), some (118, false), .op (.load none (.t 119))⟩, ⟨(some 121), some (118, false), .op (.mv (.t 7))⟩, ⟨(some 122), some (118, false), .op (.iad none none (.t 120) (.t 121))⟩, ⟨(some 123), some (118, false), .op (.load none (.t 122))⟩, ⟨(some 124), some (118, false), .op (.bin .none .geq (.t 123) (.v (.int .i64 0)))⟩, ⟨(some 125), some (118, false), .op (.mv (.t 124))⟩, ⟨(some 126), some (125, true), .op (.load (some 8) (.t 2))⟩, ⟨(some 127), some (125, true), .op (.mv (.t 1))⟩, ⟨(some 128), some (125, true), .op (.mv (.t 8))⟩, ⟨(some 129), some (125, true), .call 62 [(.t 126), (.t 127), (.t 128), (.v (.int .u8 0))]⟩, ⟨(some 130), some (125, true), .op (.un .not (.t 129))⟩, ⟨(some 131), some (118, false), .op (.pick (.t 125) (.t 130) (.v (.bool false)))⟩, oO 132 (.pick (.t 118) (.v (.bool true)) (.t 131))] []) (.cond (.t 132) (.seq (.reg [oO 4 (.mv (.v (.bool false)))] []) .ret) .skip))))) (.reg [oO 133 (.bin .none .add (.t 72) (.v (.int .i64 1))), oO 72 (.mv (.t 133))] []))))))) (.seq (.reg [oO 134 (.fad 6 (.t 2)), oO 135 (.load none (.t 134)), oO 136 (.len .sl (.t 135)), oO 137 (.bin .none .geq (.t 136) (.v (.int .i64 1))), oO 138 (.mv (.t 137)), ⟨(some 139), some (138, true), .op (.fad 6 (.t 2))⟩, ⟨(some 140), some (138, true), .op (.load none (.t 139))⟩, ⟨(some 141), some (138, true), .op (.len .sl (.t 140))⟩, ⟨(some 142), some (138, true), .op (.bin .none .leq (.t 141) (.v (.int .i64 4096)))⟩, oO 143 (.pick (.t 138) (.t 142) (.v (.bool false))), oO 144 (.mv (.t 143)), ⟨(some 145), some (144, true), .op (.fad 7 (.t 2))⟩, ⟨(some 146), some (144, true), .op (.load none (.t 145))⟩, ⟨(some 147), some (144, true), .op (.bin .none .geq (.t 146) (.v (.int .i64 0)))⟩, oO 148 (.pick (.t 144) (.t 147) (.v (.bool false))), oO 149 (.mv (.t 148)), ⟨(some 150), some (149, true), .op (.fad 7 (.t 2))⟩, ⟨(some 151), some (149, true), .op (.load none (.t 150))⟩, ⟨(some 152), some (149, true), .op (.fad 6 (.t 2))⟩, ⟨(some 153), some (149, true), .op (.load none (.t 152))⟩, ⟨(some 154), some (149, true), .op (.len .sl (.t 153))⟩, ⟨(some 155), some (149, true), .op (.bin .none .lss (.t 151) (.t 154))⟩, oO 156 (.pick (.t 149) (.t 155) (.v (.bool false))), oO 4 (.mv (.t 156))] []) .ret)))))
theorem fn31 : Fn3 Tryd.prog 31 157 [(4, none)] fc31 := ⟨_, _, Tryd.func31, rfl, rfl, rfl, by kernel_rfl⟩
def windlassref07_head_s (g_00 : Graph) (bound_01 : Bool) : Option Bool :=
  (jp (fun (s_2 : (Bool × Bool)) => (if s_2.2 then (some false) else ((rng (fun (i_4 : Nat) (k_5 : Int) (s_3 : Unit) => ((if (decide (k_5 > 1)) then (some (.ret (some false))) else (some (.nxt ()))) : Option (Stp Unit (Option Bool)))) g_00.Kinds ()).bind (oc (fun (s_3 : Unit) => ((rng (fun (i_8 : Nat) (p_9 : Int) (s_7 : Unit) => ((jp (fun (s_12 : Bool) => (if s_12 then (some (.ret (some false))) else (jp (fun (s_16 : Bool) => (if s_16 then (some (.ret (some false))) else (some (.nxt ())))) (fun k_15 => ((getI g_00.Init (i_8 : Int)).bind fun y_17 => (if (decide (y_17 < (-1))) then (k_15 true) else (if (decide (y_17 ≥ g_00.Cells)) then (k_15 true) else (if (decide (y_17 ≥ 0)) then ((windlassref07_fits_s g_00 s_2.1 p_9 0).bind fun fit_18 => (k_15 (!fit_18))) else (k_15 false))))))))) (fun k_11 => (if (decide (p_9 < 0)) then (k_11 true) else (if (decide (p_9 ≥ (List.length g_00.Kinds : Int))) then (k_11 true) else ((subL g_00.Params 0 (i_8 : Int)).bind fun l_13 => ((windlassref07_In_s l_13 p_9).bind fun vin_14 => (if vin_14 then (k_11 true) else (if s_2.1 then (k_11 (p_9 != (i_8 : Int))) else (k_11 false))))))))) : Option (Stp Unit (Option Bool)))) g_00.Params ()).bind (oc (fun (s_7 : Unit) => (jp (fun (s_20 : Bool) => (some s_20)) (fun k_19 => (if (decide ((List.length g_00.Nodes : Int) ≥ 1)) then (if (decide ((List.length g_00.Nodes : Int) ≤ 4096)) then (if (decide (g_00.Entry ≥ 0)) then (k_19 (decide (g_00.Entry < (List.length g_00.Nodes : Int)))) else (k_19 false)) else (k_19 false)) else (k_19 false)))))))))))) (fun k_1 => (if (decide ((List.length g_00.Kinds : Int) > 1024)) then (k_1 (bound_01, true)) else (if bound_01 then (if (decide ((List.length g_00.Kinds : Int) < 16)) then (k_1 (bound_01, true)) else (if (decide ((List.length g_00.Params : Int) > 4)) then (k_1 (bound_01, true)) else (if ((List.length g_00.Init : Int) != (List.length g_00.Params : Int)) then (k_1 (bound_01, true)) else (if (decide (g_00.Cells < 0)) then (k_1 (bound_01, true)) else (if (decide (g_00.Cells > 64)) then (k_1 (bound_01, true)) else (if (decide (g_00.Keep < (-1))) then (k_1 (bound_01, true)) else (k_1 (bound_01, (decide (g_00.Keep ≥ g_00.Cells)))))))))) else (if (decide ((List.length g_00.Params : Int) > 4)) then (k_1 (bound_01, true)) else (if ((List.length g_00.Init : Int) != (List.length g_00.Params : Int)) then (k_1 (bound_01, true)) else (if (decide (g_00.Cells < 0)) then (k_1 (bound_01, true)) else (if (decide (g_00.Cells > 64)) then (k_1 (bound_01, true)) else (if (decide (g_00.Keep < (-1))) then (k_1 (bound_01, true)) else (k_1 (bound_01, (decide (g_00.Keep ≥ g_00.Cells)))))))))))))
theorem windlassref07_head_ev {g_00 : Graph} {bound_01 : Bool} {r : Bool} (h : windlassref07_head_s g_00 bound_01 = some r) : PureEv Tryd.prog 31 [(Graph.av g_00), (.bool bound_01)] (.bool r) := by
 unfold windlassref07_head_s at h
 refine PureEv_end mixed fn31 (by simp) [] 6 ?_
 unfold fc31
 refine E_sq (E_reg (E_op0 (v' := (.cptr (Graph.av g_00).cells 0)) rfl rfl (E_mv (v' := .bool false) rfl (E_nil (E_nx (E_as ?_))))))
 refine E_jp h (fun s_2 => [(1, (.bool s_2.1)), (2, (.cptr (Graph.av g_00).cells 0)), (58, (.bool s_2.2))]) (fun s_2 => []) (fun k_1 h => ?_) (fun s_2 h => ?_)
 {
 refine E_reg ?_
 refine E_op0 (v := (.cptr (Graph.av g_00).cells 1)) (v' := (.cptr (Graph.av g_00).cells 1)) (by kernel_rfl) rfl ?_
 refine E_op0 (v := (.sl false 1 (List.map (avI .u8) g_00.Kinds))) (v' := (.sl false 1 (List.map (avI .u8) g_00.Kinds))) (by kernel_rfl) rfl ?_
 refine E_len rfl ?_
 refine E_op0 (v := (.bool (decide ((List.length g_00.Kinds : Int) > 1024)))) (v' := (.bool (decide ((List.length g_00.Kinds : Int) > 1024)))) (by kernel_rfl) rfl ?_
 refine E_mv (v' := (.bool (decide ((List.length g_00.Kinds : Int) > 1024)))) (by kernel_rfl) ?_
 refine E_gsT (b := (decide ((List.length g_00.Kinds : Int) > 1024))) rfl rfl rfl (fun hb => ?_) (fun hb => ?_)
 {
 rw [ite_f hb] at h
 refine E_mv (v' := .bool bound_01) (by kernel_rfl) ?_
 refine E_gh rfl ?_
 refine E_mv (v' := .bool bound_01) (by kernel_rfl) ?_
 refine E_gsT (b := bound_01) rfl rfl rfl (fun hb => ?_) (fun hb => ?_)
 {
 rw [ite_t hb] at h
 refine E_op0 (v := (.cptr (Graph.av g_00).cells 1)) (v' := (.cptr (Graph.av g_00).cells 1)) (by kernel_rfl) rfl ?_
 refine E_gh rfl ?_
 refine E_op0 (v := (.sl false 1 (List.map (avI .u8) g_00.Kinds))) (v' := (.sl false 1 (List.map (avI .u8) g_00.Kinds))) (by kernel_rfl) rfl ?_
 refine E_gh rfl (E_len rfl (E_gh rfl ?_))
 refine E_op0 (v := (.bool (decide ((List.length g_00.Kinds : Int) < 16)))) (v' := (.bool (decide ((List.length g_00.Kinds : Int) < 16)))) (by kernel_rfl) rfl ?_
 refine E_gh rfl (E_pt rfl rfl (E_pf rfl rfl ?_))
 refine E_mv (v' := (.bool (decide ((List.length g_00.Kinds : Int) < 16)))) (by kernel_rfl) ?_
 refine E_gsT (b := (decide ((List.length g_00.Kinds : Int) < 16))) rfl rfl rfl (fun hb => ?_) (fun hb => ?_)
 {
 rw [ite_f hb] at h
 refine E_op0 (v := (.cptr (Graph.av g_00).cells 0)) (v' := (.cptr (Graph.av g_00).cells 0)) (by kernel_rfl) rfl ?_
 refine E_gh rfl ?_
 refine E_op0 (v := (.sl false 1 (List.map (avI .i64) g_00.Params))) (v' := (.sl false 1 (List.map (avI .i64) g_00.Params))) (by kernel_rfl) rfl ?_
 refine E_gh rfl (E_len rfl (E_gh rfl ?_))
 refine E_op0 (v := (.bool (decide ((List.length g_00.Params : Int) > 4)))) (v' := (.bool (decide ((List.length g_00.Params : Int) > 4)))) (by kernel_rfl) rfl ?_
 refine E_pf rfl rfl ?_
 refine E_mv (v' := (.bool (decide ((List.length g_00.Params : Int) > 4)))) (by kernel_rfl) ?_
 refine E_gsT (b := (decide ((List.length g_00.Params : Int) > 4))) rfl rfl rfl (fun hb => ?_) (fun hb => ?_)
 {
 rw [ite_f hb] at h
 refine E_op0 (v := (.cptr (Graph.av g_00).cells 3)) (v' := (.cptr (Graph.av g_00).cells 3)) (by kernel_rfl) rfl ?_
 refine E_gh rfl ?_
 refine E_op0 (v := (.sl false 1 (List.map (avI .i64) g_00.Init))) (v' := (.sl false 1 (List.map (avI .i64) g_00.Init))) (by kernel_rfl) rfl ?_
 refine E_gh rfl (E_len rfl (E_gh rfl ?_))
 refine E_op0 (v := (.cptr (Graph.av g_00).cells 0)) (v' := (.cptr (Graph.av g_00).cells 0)) (by kernel_rfl) rfl ?_
 refine E_gh rfl ?_
 refine E_op0 (v := (.sl false 1 (List.map (avI .i64) g_00.Params))) (v' := (.sl false 1 (List.map (avI .i64) g_00.Params))) (by kernel_rfl) rfl ?_
 refine E_gh rfl (E_len rfl (E_gh rfl ?_))
 refine E_op0 (v := (.bool ((List.length g_00.Init : Int) != (List.length g_00.Params : Int)))) (v' := (.bool ((List.length g_00.Init : Int) != (List.length g_00.Params : Int)))) (by kernel_rfl) rfl ?_
 refine E_pf rfl rfl ?_
 refine E_mv (v' := (.bool ((List.length g_00.Init : Int) != (List.length g_00.Params : Int)))) (by kernel_rfl) ?_
 refine E_gsT (b := ((List.length g_00.Init : Int) != (List.length g_00.Params : Int))) rfl rfl rfl (fun hb => ?_) (fun hb => ?_)
 {
 rw [ite_f hb] at h
 refine E_op0 (v := (.cptr (Graph.av g_00).cells 2)) (v' := (.cptr (Graph.av g_00).cells 2)) (by kernel_rfl) rfl ?_
 refine E_gh rfl ?_
 refine E_op0 (v := (.int .i64 g_00.Cells)) (v' := .int .i64 g_00.Cells) (by kernel_rfl) rfl ?_
 refine E_gh rfl ?_
 refine E_op0 (v := (.bool (decide (g_00.Cells < 0)))) (v' := (.bool (decide (g_00.Cells < 0)))) (by kernel_rfl) rfl ?_
 refine E_pf rfl rfl ?_
 refine E_mv (v' := (.bool (decide (g_00.Cells < 0)))) (by kernel_rfl) ?_
 refine E_gsT (b := (decide (g_00.Cells < 0))) rfl rfl rfl (fun hb => ?_) (fun hb => ?_)
 {
 rw [ite_f hb] at h
 refine E_op0 (v := (.cptr (Graph.av g_00).cells 2)) (v' := (.cptr (Graph.av g_00).cells 2)) (by kernel_rfl) rfl ?_
 refine E_gh rfl ?_
 refine E_op0 (v := (.int .i64 g_00.Cells)) (v' := .int .i64 g_00.Cells) (by kernel_rfl) rfl ?_
 refine E_gh rfl ?_
 refine E_op0 (v := (.bool (decide (g_00.Cells > 64)))) (v' := (.bool (decide (g_00.Cells > 64)))) (by kernel_rfl) rfl ?_
 refine E_pf rfl rfl ?_
 refine E_mv (v' := (.bool (decide (g_00.Cells > 64)))) (by kernel_rfl) ?_
 refine E_gsT (b := (decide (g_00.Cells > 64))) rfl rfl rfl (fun hb => ?_) (fun hb => ?_)
 {
 rw [ite_f hb] at h
 refine E_op0 (v := (.cptr (Graph.av g_00).cells 5)) (v' := (.cptr (Graph.av g_00).cells 5)) (by kernel_rfl) rfl ?_
 refine E_gh rfl ?_
 refine E_op0 (v := (.int .i64 g_00.Keep)) (v' := .int .i64 g_00.Keep) (by kernel_rfl) rfl ?_
 refine E_gh rfl ?_
 refine E_op0 (v := (.bool (decide (g_00.Keep < (-1))))) (v' := (.bool (decide (g_00.Keep < (-1))))) (by kernel_rfl) rfl ?_
 refine E_pf rfl rfl ?_
 refine E_mv (v' := (.bool (decide (g_00.Keep < (-1))))) (by kernel_rfl) ?_
 refine E_gsT (b := (decide (g_00.Keep < (-1)))) rfl rfl rfl (fun hb => ?_) (fun hb => ?_)
 {
 rw [ite_f hb] at h
 refine E_op0 (v := (.cptr (Graph.av g_00).cells 5)) (v' := (.cptr (Graph.av g_00).cells 5)) (by kernel_rfl) rfl ?_
 refine E_gh rfl ?_
 refine E_op0 (v := (.int .i64 g_00.Keep)) (v' := .int .i64 g_00.Keep) (by kernel_rfl) rfl ?_
 refine E_gh rfl ?_
 refine E_op0 (v := (.cptr (Graph.av g_00).cells 2)) (v' := (.cptr (Graph.av g_00).cells 2)) (by kernel_rfl) rfl ?_
 refine E_gh rfl ?_
 refine E_op0 (v := (.int .i64 g_00.Cells)) (v' := .int .i64 g_00.Cells) (by kernel_rfl) rfl ?_
 refine E_gh rfl ?_
 refine E_op0 (v := (.bool (decide (g_00.Keep ≥ g_00.Cells)))) (v' := (.bool (decide (g_00.Keep ≥ g_00.Cells)))) (by kernel_rfl) rfl ?_
 refine E_pf rfl rfl (E_nil ?_)
 exact E_jx _ h (wk_aw ⟨(.refl _), (.refl _), (.refl _), trivial⟩)
 }
 {
 rw [ite_t hb] at h
 refine E_gm rfl (E_gm rfl (E_gm rfl (E_gm rfl (E_pt rfl rfl (E_nil ?_)))))
 exact E_jx _ h (wk_aw ⟨(.refl _), (.refl _), (.refl _), trivial⟩)
 }
 }
 {
 rw [ite_t hb] at h
 refine E_gm rfl (E_gm rfl (E_pt rfl rfl ?_))
 refine E_mv (v' := .bool true) (by kernel_rfl) ?_
 refine E_gm rfl (E_gm rfl (E_gm rfl (E_gm rfl (E_gm rfl (E_pt rfl rfl (E_nil ?_))))))
 exact E_jx _ h (wk_aw ⟨(.refl _), (.refl _), (.refl _), trivial⟩)
 }
 }
 {
 rw [ite_t hb] at h
 refine E_gm rfl (E_gm rfl (E_pt rfl rfl ?_))
 refine E_mv (v' := .bool true) (by kernel_rfl) ?_
 refine E_gm rfl (E_gm rfl (E_gm rfl (E_pt rfl rfl ?_)))
 refine E_mv (v' := .bool true) (by kernel_rfl) ?_
 refine E_gm rfl (E_gm rfl (E_gm rfl (E_gm rfl (E_gm rfl (E_pt rfl rfl (E_nil ?_))))))
 exact E_jx _ h (wk_aw ⟨(.refl _), (.refl _), (.refl _), trivial⟩)
 }
 }
 {
 rw [ite_t hb] at h
 refine E_gm rfl (E_gm rfl (E_pt rfl rfl ?_))
 refine E_mv (v' := .bool true) (by kernel_rfl) ?_
 refine E_gm rfl (E_gm rfl (E_gm rfl (E_pt rfl rfl ?_)))
 refine E_mv (v' := .bool true) (by kernel_rfl) ?_
 refine E_gm rfl (E_gm rfl (E_gm rfl (E_pt rfl rfl ?_)))
 refine E_mv (v' := .bool true) (by kernel_rfl) ?_
 refine E_gm rfl (E_gm rfl (E_gm rfl (E_gm rfl (E_gm rfl (E_pt rfl rfl (E_nil ?_))))))
 exact E_jx _ h (wk_aw ⟨(.refl _), (.refl _), (.refl _), trivial⟩)
 }
 }
 {
 rw [ite_t hb] at h
 refine E_gm rfl (E_gm rfl (E_gm rfl (E_gm rfl (E_gm rfl (E_gm rfl (E_pt rfl rfl ?_))))))
 refine E_mv (v' := .bool true) (by kernel_rfl) ?_
 refine E_gm rfl (E_gm rfl (E_gm rfl (E_pt rfl rfl ?_)))
 refine E_mv (v' := .bool true) (by kernel_rfl) ?_
 refine E_gm rfl (E_gm rfl (E_gm rfl (E_pt rfl rfl ?_)))
 refine E_mv (v' := .bool true) (by kernel_rfl) ?_
 refine E_gm rfl (E_gm rfl (E_gm rfl (E_pt rfl rfl ?_)))
 refine E_mv (v' := .bool true) (by kernel_rfl) ?_
 refine E_gm rfl (E_gm rfl (E_gm rfl (E_gm rfl (E_gm rfl (E_pt rfl rfl (E_nil ?_))))))
 exact E_jx _ h (wk_aw ⟨(.refl _), (.refl _), (.refl _), trivial⟩)
 }
 }
 {
 rw [ite_t hb] at h
 refine E_gm rfl (E_gm rfl (E_gm rfl (E_pt rfl rfl ?_)))
 refine E_mv (v' := .bool true) (by kernel_rfl) ?_
 refine E_gm rfl (E_gm rfl (E_gm rfl (E_gm rfl (E_gm rfl (E_gm rfl (E_gm rfl (E_pt rfl rfl ?_)))))))
 refine E_mv (v' := .bool true) (by kernel_rfl) ?_
 refine E_gm rfl (E_gm rfl (E_gm rfl (E_pt rfl rfl ?_)))
 refine E_mv (v' := .bool true) (by kernel_rfl) ?_
 refine E_gm rfl (E_gm rfl (E_gm rfl (E_pt rfl rfl ?_)))
 refine E_mv (v' := .bool true) (by kernel_rfl) ?_
 refine E_gm rfl (E_gm rfl (E_gm rfl (E_pt rfl rfl ?_)))
 refine E_mv (v' := .bool true) (by kernel_rfl) ?_
 refine E_gm rfl (E_gm rfl (E_gm rfl (E_gm rfl (E_gm rfl (E_pt rfl rfl (E_nil ?_))))))
 exact E_jx _ h (wk_aw ⟨(.refl _), (.refl _), (.refl _), trivial⟩)
 }
 }
 {
 rw [ite_f hb] at h
 refine E_gm rfl (E_gm rfl (E_gm rfl (E_gh rfl (E_pf rfl rfl (E_pf rfl rfl ?_)))))
 refine E_mv (v' := .bool false) (by kernel_rfl) ?_
 refine E_gh rfl ?_
 refine E_op0 (v := (.cptr (Graph.av g_00).cells 0)) (v' := (.cptr (Graph.av g_00).cells 0)) (by kernel_rfl) rfl ?_
 refine E_gh rfl ?_
 refine E_op0 (v := (.sl false 1 (List.map (avI .i64) g_00.Params))) (v' := (.sl false 1 (List.map (avI .i64) g_00.Params))) (by kernel_rfl) rfl ?_
 refine E_gh rfl (E_len rfl (E_gh rfl ?_))
 refine E_op0 (v := (.bool (decide ((List.length g_00.Params : Int) > 4)))) (v' := (.bool (decide ((List.length g_00.Params : Int) > 4)))) (by kernel_rfl) rfl ?_
 refine E_pf rfl rfl ?_
 refine E_mv (v' := (.bool (decide ((List.length g_00.Params : Int) > 4)))) (by kernel_rfl) ?_
 refine E_gsT (b := (decide ((List.length g_00.Params : Int) > 4))) rfl rfl rfl (fun hb => ?_) (fun hb => ?_)
 {
 rw [ite_f hb] at h
 refine E_op0 (v := (.cptr (Graph.av g_00).cells 3)) (v' := (.cptr (Graph.av g_00).cells 3)) (by kernel_rfl) rfl ?_
 refine E_gh rfl ?_
 refine E_op0 (v := (.sl false 1 (List.map (avI .i64) g_00.Init))) (v' := (.sl false 1 (List.map (avI .i64) g_00.Init))) (by kernel_rfl) rfl ?_
 refine E_gh rfl (E_len rfl (E_gh rfl ?_))
 refine E_op0 (v := (.cptr (Graph.av g_00).cells 0)) (v' := (.cptr (Graph.av g_00).cells 0)) (by kernel_rfl) rfl ?_
 refine E_gh rfl ?_
 refine E_op0 (v := (.sl false 1 (List.map (avI .i64) g_00.Params))) (v' := (.sl false 1 (List.map (avI .i64) g_00.Params))) (by kernel_rfl) rfl ?_
 refine E_gh rfl (E_len rfl (E_gh rfl ?_))
 refine E_op0 (v := (.bool ((List.length g_00.Init : Int) != (List.length g_00.Params : Int)))) (v' := (.bool ((List.length g_00.Init : Int) != (List.length g_00.Params : Int)))) (by kernel_rfl) rfl ?_
 refine E_pf rfl rfl ?_
 refine E_mv (v' := (.bool ((List.length g_00.Init : Int) != (List.length g_00.Params : Int)))) (by kernel_rfl) ?_
 refine E_gsT (b := ((List.length g_00.Init : Int) != (List.length g_00.Params : Int))) rfl rfl rfl (fun hb => ?_) (fun hb => ?_)
 {
 rw [ite_f hb] at h
 refine E_op0 (v := (.cptr (Graph.av g_00).cells 2)) (v' := (.cptr (Graph.av g_00).cells 2)) (by kernel_rfl) rfl ?_
 refine E_gh rfl ?_
 refine E_op0 (v := (.int .i64 g_00.Cells)) (v' := .int .i64 g_00.Cells) (by kernel_rfl) rfl ?_
 refine E_gh rfl ?_
 refine E_op0 (v := (.bool (decide (g_00.Cells < 0)))) (v' := (.bool (decide (g_00.Cells < 0)))) (by kernel_rfl) rfl ?_
 refine E_pf rfl rfl ?_
 refine E_mv (v' := (.bool (decide (g_00.Cells < 0)))) (by kernel_rfl) ?_
 refine E_gsT (b := (decide (g_00.Cells < 0))) rfl rfl rfl (fun hb => ?_) (fun hb => ?_)
 {
 rw [ite_f hb] at h
 refine E_op0 (v := (.cptr (Graph.av g_00).cells 2)) (v' := (.cptr (Graph.av g_00).cells 2)) (by kernel_rfl) rfl ?_
 refine E_gh rfl ?_
 refine E_op0 (v := (.int .i64 g_00.Cells)) (v' := .int .i64 g_00.Cells) (by kernel_rfl) rfl ?_
 refine E_gh rfl ?_
 refine E_op0 (v := (.bool (decide (g_00.Cells > 64)))) (v' := (.bool (decide (g_00.Cells > 64)))) (by kernel_rfl) rfl ?_
 refine E_pf rfl rfl ?_
 refine E_mv (v' := (.bool (decide (g_00.Cells > 64)))) (by kernel_rfl) ?_
 refine E_gsT (b := (decide (g_00.Cells > 64))) rfl rfl rfl (fun hb => ?_) (fun hb => ?_)
 {
 rw [ite_f hb] at h
 refine E_op0 (v := (.cptr (Graph.av g_00).cells 5)) (v' := (.cptr (Graph.av g_00).cells 5)) (by kernel_rfl) rfl ?_
 refine E_gh rfl ?_
 refine E_op0 (v := (.int .i64 g_00.Keep)) (v' := .int .i64 g_00.Keep) (by kernel_rfl) rfl ?_
 refine E_gh rfl ?_
 refine E_op0 (v := (.bool (decide (g_00.Keep < (-1))))) (v' := (.bool (decide (g_00.Keep < (-1))))) (by kernel_rfl) rfl ?_
 refine E_pf rfl rfl ?_
 refine E_mv (v' := (.bool (decide (g_00.Keep < (-1))))) (by kernel_rfl) ?_
 refine E_gsT (b := (decide (g_00.Keep < (-1)))) rfl rfl rfl (fun hb => ?_) (fun hb => ?_)
 {
 rw [ite_f hb] at h
 refine E_op0 (v := (.cptr (Graph.av g_00).cells 5)) (v' := (.cptr (Graph.av g_00).cells 5)) (by kernel_rfl) rfl ?_
 refine E_gh rfl ?_
 refine E_op0 (v := (.int .i64 g_00.Keep)) (v' := .int .i64 g_00.Keep) (by kernel_rfl) rfl ?_
 refine E_gh rfl ?_
 refine E_op0 (v := (.cptr (Graph.av g_00).cells 2)) (v' := (.cptr (Graph.av g_00).cells 2)) (by kernel_rfl) rfl ?_
 refine E_gh rfl ?_
 refine E_op0 (v := (.int .i64 g_00.Cells)) (v' := .int .i64 g_00.Cells) (by kernel_rfl) rfl ?_
 refine E_gh rfl ?_
 refine E_op0 (v := (.bool (decide (g_00.Keep ≥ g_00.Cells)))) (v' := (.bool (decide (g_00.Keep ≥ g_00.Cells)))) (by kernel_rfl) rfl ?_
 refine E_pf rfl rfl (E_nil ?_)
 exact E_jx _ h (wk_aw ⟨(.refl _), (.refl _), (.refl _), trivial⟩)
 }
 {
 rw [ite_t hb] at h
 refine E_gm rfl (E_gm rfl (E_gm rfl (E_gm rfl (E_pt rfl rfl (E_nil ?_)))))
 exact E_jx _ h (wk_aw ⟨(.refl _), (.refl _), (.refl _), trivial⟩)
 }
 }
 {
 rw [ite_t hb] at h
 refine E_gm rfl (E_gm rfl (E_pt rfl rfl ?_))
 refine E_mv (v' := .bool true) (by kernel_rfl) ?_
 refine E_gm rfl (E_gm rfl (E_gm rfl (E_gm rfl (E_gm rfl (E_pt rfl rfl (E_nil ?_))))))
 exact E_jx _ h (wk_aw ⟨(.refl _), (.refl _), (.refl _), trivial⟩)
 }
 }
 {
 rw [ite_t hb] at h
 refine E_gm rfl (E_gm rfl (E_pt rfl rfl ?_))
 refine E_mv (v' := .bool true) (by kernel_rfl) ?_
 refine E_gm rfl (E_gm rfl (E_gm rfl (E_pt rfl rfl ?_)))
 refine E_mv (v' := .bool true) (by kernel_rfl) ?_
 refine E_gm rfl (E_gm rfl (E_gm rfl (E_gm rfl (E_gm rfl (E_pt rfl rfl (E_nil ?_))))))
 exact E_jx _ h (wk_aw ⟨(.refl _), (.refl _), (.refl _), trivial⟩)
 }
 }
 {
 rw [ite_t hb] at h
 refine E_gm rfl (E_gm rfl (E_pt rfl rfl ?_))
 refine E_mv (v' := .bool true) (by kernel_rfl) ?_
 refine E_gm rfl (E_gm rfl (E_gm rfl (E_pt rfl rfl ?_)))
 refine E_mv (v' := .bool true) (by kernel_rfl) ?_
 refine E_gm rfl (E_gm rfl (E_gm rfl (E_pt rfl rfl ?_)))
 refine E_mv (v' := .bool true) (by kernel_rfl) ?_
 refine E_gm rfl (E_gm rfl (E_gm rfl (E_gm rfl (E_gm rfl (E_pt rfl rfl (E_nil ?_))))))
 exact E_jx _ h (wk_aw ⟨(.refl _), (.refl _), (.refl _), trivial⟩)
 }
 }
 {
 rw [ite_t hb] at h
 refine E_gm rfl (E_gm rfl (E_gm rfl (E_gm rfl (E_gm rfl (E_gm rfl (E_pt rfl rfl ?_))))))
 refine E_mv (v' := .bool true) (by kernel_rfl) ?_
 refine E_gm rfl (E_gm rfl (E_gm rfl (E_pt rfl rfl ?_)))
 refine E_mv (v' := .bool true) (by kernel_rfl) ?_
 refine E_gm rfl (E_gm rfl (E_gm rfl (E_pt rfl rfl ?_)))
 refine E_mv (v' := .bool true) (by kernel_rfl) ?_
 refine E_gm rfl (E_gm rfl (E_gm rfl (E_pt rfl rfl ?_)))
 refine E_mv (v' := .bool true) (by kernel_rfl) ?_
 refine E_gm rfl (E_gm rfl (E_gm rfl (E_gm rfl (E_gm rfl (E_pt rfl rfl (E_nil ?_))))))
 exact E_jx _ h (wk_aw ⟨(.refl _), (.refl _), (.refl _), trivial⟩)
 }
 }
 }
 {
 rw [ite_t hb] at h
 refine E_gm rfl (E_gz rfl (E_gz rfl (E_gz rfl (E_gz rfl (E_gm rfl (E_pt rfl rfl ?_))))))
 refine E_mv (v' := .bool true) (by kernel_rfl) ?_
 refine E_gm rfl (E_gm rfl (E_gm rfl (E_gm rfl (E_pt rfl rfl ?_))))
 refine E_mv (v' := .bool true) (by kernel_rfl) ?_
 refine E_gm rfl (E_gm rfl (E_gm rfl (E_gm rfl (E_gm rfl (E_gm rfl (E_gm rfl (E_pt rfl rfl ?_)))))))
 refine E_mv (v' := .bool true) (by kernel_rfl) ?_
 refine E_gm rfl (E_gm rfl (E_gm rfl (E_pt rfl rfl ?_)))
 refine E_mv (v' := .bool true) (by kernel_rfl) ?_
 refine E_gm rfl (E_gm rfl (E_gm rfl (E_pt rfl rfl ?_)))
 refine E_mv (v' := .bool true) (by kernel_rfl) ?_
 refine E_gm rfl (E_gm rfl (E_gm rfl (E_pt rfl rfl ?_)))
 refine E_mv (v' := .bool true) (by kernel_rfl) ?_
 refine E_gm rfl (E_gm rfl (E_gm rfl (E_gm rfl (E_gm rfl (E_pt rfl rfl (E_nil ?_))))))
 exact E_jx _ h (wk_aw ⟨(.refl _), (.refl _), (.refl _), trivial⟩)
 }
 }
 {
 refine E_sq ?_
 refine E_cs (t := s_2.2) rfl (fun hb => ?_) (fun hb => ?_)
 {
 rw [ite_t hb] at h
 refine E_sq (E_reg (E_mv (v' := .bool false) rfl (E_nil (E_nx (E_ret (E_thr ?_))))))
 cases h
 exact ⟨trivial, _, rfl, (fz_b rfl (.refl _))⟩
 }
 {
 rw [ite_f hb] at h
 refine E_skip (E_nx (E_as (E_sq (E_reg (E_op0 (v' := (.cptr (Graph.av g_00).cells 1)) rfl rfl (E_op0 (v' := (.sl false 1 (List.map (avI .u8) g_00.Kinds))) rfl rfl (E_len rfl (E_mv (v' := .int .i64 0) rfl (E_nil (E_nx (E_sq ?_)))))))))))
 refine E_rngO (fun s_3 => [(1, (.bool s_2.1)), (2, (.cptr (Graph.av g_00).cells 0)), (60, (.sl false 1 (List.map (avI .u8) g_00.Kinds)))]) (fun s_3 => []) h (by decide) (by decide) (fun _ => ⟨rfl, rfl, rfl, rfl⟩) (wk_aw ⟨(.refl _), (.refl _), (.refl _), (.refl _), (.refl _), trivial⟩) (fun i_4 k_5 s_3 c hx_6 hlt h => ?_) (fun s_3 fr' S' h hw => ?_)
 {
 refine E_sq (E_reg (E_iadF rfl rfl (getI_of hx_6) (E_op0 (v' := .int .u8 k_5) rfl rfl (E_mv (v' := .int .u8 k_5) rfl (E_nil (E_nx (E_sq (E_reg (E_mv (v' := .int .u8 k_5) rfl (E_op0 (v' := (.bool (decide (k_5 > 1)))) rfl rfl (E_nil (E_nx ?_))))))))))))
 refine E_cs (t := (decide (k_5 > 1))) rfl (fun hb => ?_) (fun hb => ?_)
 {
 rw [ite_t hb] at h
 refine E_sq (E_reg (E_mv (v' := .bool false) rfl (E_nil (E_nx (E_ret ?_)))))
 cases h
 refine L_rrO rfl (fun h => ?_)
 refine E_thr ?_
 cases h
 exact ⟨trivial, _, rfl, (fz_b rfl (.refl _))⟩
 }
 {
 rw [ite_f hb] at h
 refine E_skip ?_
 cases h
 exact L_nn rfl (wk_aw ⟨(.refl _), (.refl _), (.refl _), (.refl _), (.refl _), trivial⟩)
 }
 }
 {
 refine X_nx hw (E_as (E_sq (E_reg (E_op0 (v' := (.cptr (Graph.av g_00).cells 0)) rfl rfl (E_op0 (v' := (.sl false 1 (List.map (avI .i64) g_00.Params))) rfl rfl (E_len rfl (E_mv (v' := .int .i64 0) rfl (E_nil (E_nx (E_sq ?_))))))))))
 refine E_rngO (fun s_7 => [(1, (.bool s_2.1)), (2, (.cptr (Graph.av g_00).cells 0)), (70, (.sl false 1 (List.map (avI .i64) g_00.Params)))]) (fun s_7 => []) h (by decide) (by decide) (fun _ => ⟨rfl, rfl, rfl, rfl⟩) (wk_aw ⟨(.refl _), (.refl _), (.refl _), (.refl _), (.refl _), trivial⟩) (fun i_8 p_9 s_7 c hx_10 hlt h => ?_) (fun s_7 fr' S' h hw => ?_)
 {
 refine E_sq (E_reg (E_mv (v' := .int .i64 (i_8 : Int)) rfl (E_iadF rfl rfl (getI_of hx_10) (E_op0 (v' := .int .i64 p_9) rfl rfl (E_mv (v' := .int .i64 (i_8 : Int)) rfl (E_mv (v' := .int .i64 p_9) rfl (E_nil (E_nx (E_as ?_)))))))))
 refine E_jp h (fun s_12 => [(1, (.bool s_2.1)), (2, (.cptr (Graph.av g_00).cells 0)), (7, (.int .i64 (i_8 : Int))), (8, (.int .i64 p_9)), (70, (.sl false 1 (List.map (avI .i64) g_00.Params))), (71, (.int .i64 (List.length g_00.Params : Int))), (72, (.int .i64 (i_8 : Int))), (101, (.bool s_12))]) (fun s_12 => []) (fun k_11 h => ?_) (fun s_12 h => ?_)
 {
 refine E_reg (E_mv (v' := .int .i64 p_9) rfl (E_op0 (v' := (.bool (decide (p_9 < 0)))) rfl rfl (E_mv (v' := (.bool (decide (p_9 < 0)))) rfl ?_)))
 refine E_gsT (b := (decide (p_9 < 0))) rfl rfl rfl (fun hb => ?_) (fun hb => ?_)
 {
 rw [ite_f hb] at h
 refine E_mv (v' := .int .i64 p_9) rfl (E_gh rfl (E_op0 (v' := (.cptr (Graph.av g_00).cells 1)) rfl rfl (E_gh rfl (E_op0 (v' := (.sl false 1 (List.map (avI .u8) g_00.Kinds))) rfl rfl (E_gh rfl (E_len rfl (E_gh rfl (E_op0 (v' := (.bool (decide (p_9 ≥ (List.length g_00.Kinds : Int))))) rfl rfl (E_pf rfl rfl (E_mv (v' := (.bool (decide (p_9 ≥ (List.length g_00.Kinds : Int))))) rfl ?_))))))))))
 refine E_gsT (b := (decide (p_9 ≥ (List.length g_00.Kinds : Int)))) rfl rfl rfl (fun hb => ?_) (fun hb => ?_)
 {
 rw [ite_f hb] at h
 refine E_op0 (v' := (.cptr (Graph.av g_00).cells 0)) rfl rfl (E_gh rfl (E_op0 (v' := (.sl false 1 (List.map (avI .i64) g_00.Params))) rfl rfl (E_gh rfl (E_mv (v' := .int .i64 (i_8 : Int)) rfl (E_gh rfl ?_)))))
 obtain ⟨l_13, hl_13, h⟩ := bd_some h
 refine E_slcL rfl (fun _ => rfl) (fun h0 => hiN_int h0) hl_13 (E_gh rfl (E_mv (v' := .int .i64 p_9) rfl (E_gh rfl ?_)))
 obtain ⟨vin_14, hvin_14, h⟩ := bd_some h
 refine E_callW (windlassref07_In_ev  hvin_14) rfl ⟨(.refl _), (.refl _), trivial⟩ (blwL_of ⟨((encI .i64).blws 0), rfl, trivial⟩) rfl (E_pf rfl rfl (E_mv (v' := .bool vin_14) rfl ?_))
 refine E_gsT (b := vin_14) rfl rfl rfl (fun hb => ?_) (fun hb => ?_)
 {
 rw [ite_f hb] at h
 refine E_mv (v' := .bool s_2.1) rfl (E_gh rfl (E_mv (v' := .bool s_2.1) rfl ?_))
 refine E_gsT (b := s_2.1) rfl rfl rfl (fun hb => ?_) (fun hb => ?_)
 {
 rw [ite_t hb] at h
 refine E_mv (v' := .int .i64 p_9) rfl (E_gh rfl (E_mv (v' := .int .i64 (i_8 : Int)) rfl (E_gh rfl (E_op0 (v' := (.bool (p_9 != (i_8 : Int)))) rfl rfl (E_gh rfl (E_pt rfl rfl (E_pf rfl rfl (E_nil ?_))))))))
 exact E_jx _ h (wk_aw ⟨(.refl _), (.refl _), (.refl _), (.refl _), (.refl _), (.refl _), (.refl _), (.refl _), trivial⟩)
 }
 {
 rw [ite_f hb] at h
 refine E_gm rfl (E_gm rfl (E_gh rfl (E_pf rfl rfl (E_pf rfl rfl (E_nil ?_)))))
 exact E_jx _ h (wk_aw ⟨(.refl _), (.refl _), (.refl _), (.refl _), (.refl _), (.refl _), (.refl _), (.refl _), trivial⟩)
 }
 }
 {
 rw [ite_t hb] at h
 refine E_gm rfl (E_gz rfl (E_gz rfl (E_gz rfl (E_gm rfl (E_pt rfl rfl (E_nil ?_))))))
 exact E_jx _ h (wk_aw ⟨(.refl _), (.refl _), (.refl _), (.refl _), (.refl _), (.refl _), (.refl _), (.refl _), trivial⟩)
 }
 }
 {
 rw [ite_t hb] at h
 refine E_gm rfl (E_gm rfl (E_gm rfl (E_gm rfl (E_gm rfl (E_pt rfl rfl (E_mv (v' := .bool true) rfl (E_gm rfl (E_gm rfl (E_gz rfl (E_gz rfl (E_gz rfl (E_gm rfl (E_pt rfl rfl (E_nil ?_))))))))))))))
 exact E_jx _ h (wk_aw ⟨(.refl _), (.refl _), (.refl _), (.refl _), (.refl _), (.refl _), (.refl _), (.refl _), trivial⟩)
 }
 }
 {
 rw [ite_t hb] at h
 refine E_gm rfl (E_gm rfl (E_gm rfl (E_gm rfl (E_pt rfl rfl (E_mv (v' := .bool true) rfl (E_gm rfl (E_gm rfl (E_gm rfl (E_gm rfl (E_gm rfl (E_gm rfl (E_pt rfl rfl (E_mv (v' := .bool true) rfl (E_gm rfl (E_gm rfl ?_)))))))))))))))
 refine E_gz rfl (E_gz rfl (E_gz rfl (E_gm rfl (E_pt rfl rfl (E_nil ?_)))))
 exact E_jx _ h (wk_aw ⟨(.refl _), (.refl _), (.refl _), (.refl _), (.refl _), (.refl _), (.refl _), (.refl _), trivial⟩)
 }
 }
 {
 refine E_sq ?_
 refine E_cs (t := s_12) rfl (fun hb => ?_) (fun hb => ?_)
 {
 rw [ite_t hb] at h
 refine E_sq (E_reg (E_mv (v' := .bool false) rfl (E_nil (E_nx (E_ret (E_thr ?_))))))
 cases h
 refine L_rrO rfl (fun h => ?_)
 refine E_thr ?_
 cases h
 exact ⟨trivial, _, rfl, (fz_b rfl (.refl _))⟩
 }
 {
 rw [ite_f hb] at h
 refine E_skip (E_nx ?_)
 refine E_jp h (fun s_16 => [(1, (.bool s_2.1)), (2, (.cptr (Graph.av g_00).cells 0)), (70, (.sl false 1 (List.map (avI .i64) g_00.Params))), (71, (.int .i64 (List.length g_00.Params : Int))), (72, (.int .i64 (i_8 : Int))), (132, (.bool s_16))]) (fun s_16 => []) (fun k_15 h => ?_) (fun s_16 h => ?_)
 {
 refine E_reg (E_op0 (v' := (.cptr (Graph.av g_00).cells 3)) rfl rfl (E_op0 (v' := (.sl false 1 (List.map (avI .i64) g_00.Init))) rfl rfl (E_mv (v' := .int .i64 (i_8 : Int)) rfl ?_)))
 obtain ⟨y_17, hy_17, h⟩ := bd_some h
 refine E_iadF rfl rfl hy_17 (E_op0 (v' := .int .i64 y_17) rfl rfl (E_op0 (v' := (.bool (decide (y_17 < (-1))))) rfl rfl (E_mv (v' := (.bool (decide (y_17 < (-1))))) rfl ?_)))
 refine E_gsT (b := (decide (y_17 < (-1)))) rfl rfl rfl (fun hb => ?_) (fun hb => ?_)
 {
 rw [ite_f hb] at h
 refine E_op0 (v' := (.cptr (Graph.av g_00).cells 3)) rfl rfl (E_gh rfl (E_op0 (v' := (.sl false 1 (List.map (avI .i64) g_00.Init))) rfl rfl (E_gh rfl (E_mv (v' := .int .i64 (i_8 : Int)) rfl (E_gh rfl (E_iadF rfl rfl hy_17 (E_gh rfl (E_op0 (v' := .int .i64 y_17) rfl rfl (E_gh rfl (E_op0 (v' := (.cptr (Graph.av g_00).cells 2)) rfl rfl (E_gh rfl (E_op0 (v' := .int .i64 g_00.Cells) rfl rfl (E_gh rfl (E_op0 (v' := (.bool (decide (y_17 ≥ g_00.Cells)))) rfl rfl (E_pf rfl rfl ?_)))))))))))))))
 refine E_mv (v' := (.bool (decide (y_17 ≥ g_00.Cells)))) rfl ?_
 refine E_gsT (b := (decide (y_17 ≥ g_00.Cells))) rfl rfl rfl (fun hb => ?_) (fun hb => ?_)
 {
 rw [ite_f hb] at h
 refine E_op0 (v' := (.cptr (Graph.av g_00).cells 3)) rfl rfl (E_gh rfl (E_op0 (v' := (.sl false 1 (List.map (avI .i64) g_00.Init))) rfl rfl (E_gh rfl (E_mv (v' := .int .i64 (i_8 : Int)) rfl (E_gh rfl (E_iadF rfl rfl hy_17 (E_gh rfl (E_op0 (v' := .int .i64 y_17) rfl rfl (E_gh rfl (E_op0 (v' := (.bool (decide (y_17 ≥ 0)))) rfl rfl (E_gh rfl (E_mv (v' := (.bool (decide (y_17 ≥ 0)))) rfl ?_))))))))))))
 refine E_gsT (b := (decide (y_17 ≥ 0))) rfl rfl rfl (fun hb => ?_) (fun hb => ?_)
 {
 rw [ite_t hb] at h
 refine E_op0 (v' := (Graph.av g_00)) rfl rfl (E_gh rfl (E_mv (v' := .bool s_2.1) rfl (E_gh rfl (E_mv (v' := .int .i64 p_9) rfl (E_gh rfl ?_)))))
 obtain ⟨fit_18, hfit_18, h⟩ := bd_some h
 refine E_callW (windlassref07_fits_ev  hfit_18) rfl ⟨(.refl _), (.refl _), (.refl _), (.refl _), trivial⟩ (blwL_of ⟨(Graph.enc.blw _ 0), rfl, rfl, rfl, trivial⟩) rfl (E_gh rfl (E_op0 (v' := .bool (!fit_18)) rfl rfl (E_gh rfl (E_pt rfl rfl (E_pf rfl rfl (E_nil ?_))))))
 exact E_jx _ h (wk_aw ⟨(.refl _), (.refl _), (.refl _), (.refl _), (.refl _), (.refl _), trivial⟩)
 }
 {
 rw [ite_f hb] at h
 refine E_gm rfl (E_gm rfl (E_gm rfl (E_gm rfl (E_gh rfl (E_pf rfl rfl (E_pf rfl rfl (E_nil ?_)))))))
 exact E_jx _ h (wk_aw ⟨(.refl _), (.refl _), (.refl _), (.refl _), (.refl _), (.refl _), trivial⟩)
 }
 }
 {
 rw [ite_t hb] at h
 refine E_gm rfl (E_gm rfl (E_gm rfl (E_gm rfl (E_gm rfl (E_gm rfl (E_gz rfl (E_gz rfl (E_gz rfl (E_gz rfl (E_gz rfl (E_gm rfl (E_pt rfl rfl (E_nil ?_)))))))))))))
 exact E_jx _ h (wk_aw ⟨(.refl _), (.refl _), (.refl _), (.refl _), (.refl _), (.refl _), trivial⟩)
 }
 }
 {
 rw [ite_t hb] at h
 refine E_gm rfl (E_gm rfl (E_gm rfl (E_gm rfl (E_gm rfl (E_gm rfl (E_gm rfl (E_pt rfl rfl (E_mv (v' := .bool true) rfl (E_gm rfl (E_gm rfl (E_gm rfl (E_gm rfl (E_gm rfl (E_gm rfl (E_gm rfl ?_)))))))))))))))
 refine E_gz rfl (E_gz rfl (E_gz rfl (E_gz rfl (E_gz rfl (E_gm rfl (E_pt rfl rfl (E_nil ?_)))))))
 exact E_jx _ h (wk_aw ⟨(.refl _), (.refl _), (.refl _), (.refl _), (.refl _), (.refl _), trivial⟩)
 }
 }
 {
 refine E_cs (t := s_16) rfl (fun hb => ?_) (fun hb => ?_)
 {
 rw [ite_t hb] at h
 refine E_sq (E_reg (E_mv (v' := .bool false) rfl (E_nil (E_nx (E_ret ?_)))))
 cases h
 refine L_rrO rfl (fun h => ?_)
 refine E_thr ?_
 cases h
 exact ⟨trivial, _, rfl, (fz_b rfl (.refl _))⟩
 }
 {
 rw [ite_f hb] at h
 refine E_skip ?_
 cases h
 exact L_nn rfl (wk_aw ⟨(.refl _), (.refl _), (.refl _), (.refl _), (.refl _), trivial⟩)
 }
 }
 }
 }
 }
 {
 refine X_nx hw ?_
 refine E_jp h (fun s_20 => [(4, (.bool s_20))]) (fun s_20 => []) (fun k_19 h => ?_) (fun s_20 h => ?_)
 {
 refine E_reg (E_op0 (v' := (.cptr (Graph.av g_00).cells 6)) rfl rfl (E_op0 (v' := .sl false 12 (List.map Node.av g_00.Nodes)) rfl rfl (E_len rfl (E_op0 (v' := (.bool (decide ((List.length g_00.Nodes : Int) ≥ 1)))) rfl rfl (E_mv (v' := (.bool (decide ((List.length g_00.Nodes : Int) ≥ 1)))) rfl ?_)))))
 refine E_gsT (b := (decide ((List.length g_00.Nodes : Int) ≥ 1))) rfl rfl rfl (fun hb => ?_) (fun hb => ?_)
 {
 rw [ite_t hb] at h
 refine E_op0 (v' := (.cptr (Graph.av g_00).cells 6)) rfl rfl (E_gh rfl (E_op0 (v' := .sl false 12 (List.map Node.av g_00.Nodes)) rfl rfl (E_gh rfl (E_len rfl (E_gh rfl (E_op0 (v' := (.bool (decide ((List.length g_00.Nodes : Int) ≤ 4096)))) rfl rfl (E_pt rfl rfl (E_mv (v' := (.bool (decide ((List.length g_00.Nodes : Int) ≤ 4096)))) rfl ?_))))))))
 refine E_gsT (b := (decide ((List.length g_00.Nodes : Int) ≤ 4096))) rfl rfl rfl (fun hb => ?_) (fun hb => ?_)
 {
 rw [ite_t hb] at h
 refine E_op0 (v' := (.cptr (Graph.av g_00).cells 7)) rfl rfl (E_gh rfl (E_op0 (v' := .int .i64 g_00.Entry) rfl rfl (E_gh rfl (E_op0 (v' := (.bool (decide (g_00.Entry ≥ 0)))) rfl rfl (E_pt rfl rfl (E_mv (v' := (.bool (decide (g_00.Entry ≥ 0)))) rfl ?_))))))
 refine E_gsT (b := (decide (g_00.Entry ≥ 0))) rfl rfl rfl (fun hb => ?_) (fun hb => ?_)
 {
 rw [ite_t hb] at h
 refine E_op0 (v' := (.cptr (Graph.av g_00).cells 7)) rfl rfl (E_gh rfl (E_op0 (v' := .int .i64 g_00.Entry) rfl rfl (E_gh rfl (E_op0 (v' := (.cptr (Graph.av g_00).cells 6)) rfl rfl (E_gh rfl (E_op0 (v' := .sl false 12 (List.map Node.av g_00.Nodes)) rfl rfl (E_gh rfl (E_len rfl (E_gh rfl (E_op0 (v' := (.bool (decide (g_00.Entry < (List.length g_00.Nodes : Int))))) rfl rfl (E_pt rfl rfl (E_mv (v' := (.bool (decide (g_00.Entry < (List.length g_00.Nodes : Int))))) rfl (E_nil ?_)))))))))))))
 exact E_jx _ h (wk_aw ⟨(.refl _), trivial⟩)
 }
 {
 rw [ite_f hb] at h
 refine E_gm rfl (E_gm rfl (E_gm rfl (E_gm rfl (E_gm rfl (E_pf rfl rfl (E_mv (v' := .bool false) rfl (E_nil ?_)))))))
 exact E_jx _ h (wk_aw ⟨(.refl _), trivial⟩)
 }
 }
 {
 rw [ite_f hb] at h
 refine E_gm rfl (E_gm rfl (E_pf rfl rfl (E_mv (v' := .bool false) rfl (E_gm rfl (E_gm rfl (E_gm rfl (E_gm rfl (E_gm rfl (E_gm rfl (E_pf rfl rfl (E_mv (v' := .bool false) rfl (E_nil ?_))))))))))))
 exact E_jx _ h (wk_aw ⟨(.refl _), trivial⟩)
 }
 }
 {
 rw [ite_f hb] at h
 refine E_gm rfl (E_gm rfl (E_gm rfl (E_pf rfl rfl (E_mv (v' := .bool false) rfl (E_gm rfl (E_gm rfl (E_gm rfl (E_pf rfl rfl (E_mv (v' := .bool false) rfl (E_gm rfl (E_gm rfl (E_gm rfl (E_gm rfl (E_gm rfl (E_gm rfl ?_)))))))))))))))
 refine E_pf rfl rfl (E_mv (v' := .bool false) rfl (E_nil ?_))
 exact E_jx _ h (wk_aw ⟨(.refl _), trivial⟩)
 }
 }
 {
 refine E_ret ?_
 cases h
 exact ⟨trivial, _, rfl, (fz_b rfl (.refl _))⟩
 }
 }
 }
 }
 }
def fc23 : FC := (.seq (.reg [oO 1 (.box (.t 0)), oO 2 (.mv (.v .nils))] []) (.seq (.seq (.reg [oO 3 (.fad 0 (.t 1)), oO 4 (.load none (.t 3)), oO 5 (.bin .none .lss (.t 4) (.v (.int .u8 1))), oO 6 (.mv (.t 5)), ⟨(some 7), some (6, false), .op (.fad 0 (.t 1))⟩, ⟨(some 8), some (6, false), .op (.load none (.t 7))⟩, ⟨(some 9), some (6, false), .op (.bin .none .gtr (.t 8) (.v (.int .u8 18)))⟩, oO 10 (.pick (.t 6) (.v (.bool true)) (.t 9)), oO 11 (.mv (.t 10)), ⟨(some 12), some (11, false), .op (.fad 0 (.t 1))⟩, ⟨(some 13), some (11, false), .op (.load none (.t 12))⟩, ⟨(some 14), some (11, false), .op (.bin .none .eql (.t 13) (.v (.int .u8 12)))⟩, oO 15 (.pick (.t 11) (.v (.bool true)) (.t 14)), oO 16 (.mv (.t 15)), ⟨(some 17), some (16, false), .op (.fad 0 (.t 1))⟩, ⟨(some 18), some (16, false), .op (.load none (.t 17))⟩, ⟨(some 19), some (16, false), .op (.bin .none .eql (.t 18) (.v (.int .u8 14)))⟩, oO 20 (.pick (.t 16) (.v (.bool true)) (.t 19)), oO 21 (.mv (.t 20)), ⟨(some 22), some (21, false), .op (.fad 0 (.t 1))⟩, ⟨(some 23), some (21, false), .op (.load none (.t 22))⟩, ⟨(some 24), some (21, false), .op (.bin .none .eql (.t 23) (.v (.int .u8 18)))⟩, oO 25 (.pick (.t 21) (.v (.bool true)) (.t 24))] []) (.cond (.t 25) (.seq (.reg [oO 2 (.mv (.v .nils))] []) .ret) .skip)) (.seq (.seq (.reg [oO 26 (.fad 0 (.t 1)), oO 27 (.load none (.t 26)), oO 28 (.bin .none .eql (.t 27) (.v (.int .u8 9))), oO 29 (.mv (.t 28)), ⟨(some 30), some (29, true), .op (.fad 11 (.t 1))⟩, ⟨(some 31), some (29, true), .op (.load none (.t 30))⟩, ⟨(some 32), some (29, true), .op (.fad 10 (.t 1))⟩, ⟨(some 33), some (29, true), .op (.load none (.t 32))⟩, ⟨(some 34), some (29, true), .op (.bin .none .neq (.t 31) (.t 33))⟩, oO 35 (.pick (.t 29) (.t 34) (.v (.bool false)))] []) (.cond (.t 35) (.seq (.reg [oO 36 (.fad 10 (.t 1)), oO 37 (.load none (.t 36)), oO 38 (.fad 11 (.t 1)), oO 39 (.load none (.t 38)), oO 40 (.bsl none [(.int .i64 0)] 2 [(0, 1, (.t 37)), (1, 1, (.t 39))]), oO 2 (.mv (.t 40))] []) .ret) .skip)) (.seq (.reg [oO 41 (.fad 10 (.t 1)), oO 42 (.load none (.t 41)), oO 43 (.bsl none [(.int .i64 0)] 1 [(0, 1, (.t 42))]), oO 2 (.mv (.t 43))] []) .ret))))
theorem fn23 : Fn3 Tryd.prog 23 44 [(2, none)] fc23 := ⟨_, _, Tryd.func23, rfl, rfl, rfl, by kernel_rfl⟩
def windlassref07_Next_s (n_00 : Node) : Option (List Int) :=
  (jp (fun (s_2 : Bool) => (if s_2 then (some []) else (jp (fun (s_4 : Bool) => (if s_4 then (some [n_00.Next, n_00.Else]) else (some [n_00.Next]))) (fun k_3 => (if (n_00.Op == 9) then (k_3 (n_00.Else != n_00.Next)) else (k_3 false)))))) (fun k_1 => (if (decide (n_00.Op < 1)) then (k_1 true) else (if (decide (n_00.Op > 18)) then (k_1 true) else (if (n_00.Op == 12) then (k_1 true) else (if (n_00.Op == 14) then (k_1 true) else (k_1 (n_00.Op == 18))))))))
theorem windlassref07_Next_ev {n_00 : Node} {r : (List Int)} (h : windlassref07_Next_s n_00 = some r) : PureEv Tryd.prog 23 [(Node.av n_00)] (.sl false 1 (List.map (avI .i64) r)) := by
 unfold windlassref07_Next_s at h
 refine PureEv_end mixed fn23 (by simp) [] 6 ?_
 unfold fc23
 refine E_sq (E_reg (E_op0 (v' := (.cptr (Node.av n_00).cells 0)) rfl rfl (E_mv (v' := .nils) rfl (E_nil (E_nx (E_as ?_))))))
 refine E_jp h (fun s_2 => [(1, (.cptr (Node.av n_00).cells 0)), (25, (.bool s_2))]) (fun s_2 => []) (fun k_1 h => ?_) (fun s_2 h => ?_)
 {
 refine E_reg (E_op0 (v' := (.cptr (Node.av n_00).cells 0)) rfl rfl (E_op0 (v' := .int .u8 n_00.Op) rfl rfl (E_op0 (v' := (.bool (decide (n_00.Op < 1)))) rfl rfl (E_mv (v' := (.bool (decide (n_00.Op < 1)))) rfl ?_))))
 refine E_gsT (b := (decide (n_00.Op < 1))) rfl rfl rfl (fun hb => ?_) (fun hb => ?_)
 {
 rw [ite_f hb] at h
 refine E_op0 (v' := (.cptr (Node.av n_00).cells 0)) rfl rfl (E_gh rfl (E_op0 (v' := .int .u8 n_00.Op) rfl rfl (E_gh rfl (E_op0 (v' := (.bool (decide (n_00.Op > 18)))) rfl rfl (E_pf rfl rfl (E_mv (v' := (.bool (decide (n_00.Op > 18)))) rfl ?_))))))
 refine E_gsT (b := (decide (n_00.Op > 18))) rfl rfl rfl (fun hb => ?_) (fun hb => ?_)
 {
 rw [ite_f hb] at h
 refine E_op0 (v' := (.cptr (Node.av n_00).cells 0)) rfl rfl (E_gh rfl (E_op0 (v' := .int .u8 n_00.Op) rfl rfl (E_gh rfl (E_op0 (v' := .bool (n_00.Op == 12)) rfl rfl (E_pf rfl rfl (E_mv (v' := .bool (n_00.Op == 12)) rfl ?_))))))
 refine E_gsT (b := (n_00.Op == 12)) rfl rfl rfl (fun hb => ?_) (fun hb => ?_)
 {
 rw [ite_f hb] at h
 refine E_op0 (v' := (.cptr (Node.av n_00).cells 0)) rfl rfl (E_gh rfl (E_op0 (v' := .int .u8 n_00.Op) rfl rfl (E_gh rfl (E_op0 (v' := .bool (n_00.Op == 14)) rfl rfl (E_pf rfl rfl (E_mv (v' := .bool (n_00.Op == 14)) rfl ?_))))))
 refine E_gsT (b := (n_00.Op == 14)) rfl rfl rfl (fun hb => ?_) (fun hb => ?_)
 {
 rw [ite_f hb] at h
 refine E_op0 (v' := (.cptr (Node.av n_00).cells 0)) rfl rfl (E_gh rfl (E_op0 (v' := .int .u8 n_00.Op) rfl rfl (E_gh rfl (E_op0 (v' := .bool (n_00.Op == 18)) rfl rfl (E_pf rfl rfl (E_nil ?_))))))
 exact E_jx _ h (wk_aw ⟨(.refl _), (.refl _), trivial⟩)
 }
 {
 rw [ite_t hb] at h
 refine E_gm rfl (E_gm rfl (E_pt rfl rfl (E_nil ?_)))
 exact E_jx _ h (wk_aw ⟨(.refl _), (.refl _), trivial⟩)
 }
 }
 {
 rw [ite_t hb] at h
 refine E_gm rfl (E_gm rfl (E_pt rfl rfl (E_mv (v' := .bool true) rfl (E_gm rfl (E_gm rfl (E_gm rfl (E_pt rfl rfl (E_nil ?_))))))))
 exact E_jx _ h (wk_aw ⟨(.refl _), (.refl _), trivial⟩)
 }
 }
 {
 rw [ite_t hb] at h
 refine E_gm rfl (E_gm rfl (E_pt rfl rfl (E_mv (v' := .bool true) rfl (E_gm rfl (E_gm rfl (E_gm rfl (E_pt rfl rfl (E_mv (v' := .bool true) rfl (E_gm rfl (E_gm rfl (E_gm rfl (E_pt rfl rfl (E_nil ?_)))))))))))))
 exact E_jx _ h (wk_aw ⟨(.refl _), (.refl _), trivial⟩)
 }
 }
 {
 rw [ite_t hb] at h
 refine E_gm rfl (E_gm rfl (E_pt rfl rfl (E_mv (v' := .bool true) rfl (E_gm rfl (E_gm rfl (E_gm rfl (E_pt rfl rfl (E_mv (v' := .bool true) rfl (E_gm rfl (E_gm rfl (E_gm rfl (E_pt rfl rfl (E_mv (v' := .bool true) rfl (E_gm rfl (E_gm rfl ?_)))))))))))))))
 refine E_gm rfl (E_pt rfl rfl (E_nil ?_))
 exact E_jx _ h (wk_aw ⟨(.refl _), (.refl _), trivial⟩)
 }
 }
 {
 refine E_sq ?_
 refine E_cs (t := s_2) rfl (fun hb => ?_) (fun hb => ?_)
 {
 rw [ite_t hb] at h
 refine E_sq (E_reg (E_mv (v' := .nils) rfl (E_nil (E_nx (E_ret (E_thr ?_))))))
 cases h
 exact ⟨trivial, _, rfl, (fz_b rfl .nil)⟩
 }
 {
 rw [ite_f hb] at h
 refine E_skip (E_nx (E_as ?_))
 refine E_jp h (fun s_4 => [(1, (.cptr (Node.av n_00).cells 0)), (35, (.bool s_4))]) (fun s_4 => []) (fun k_3 h => ?_) (fun s_4 h => ?_)
 {
 refine E_reg (E_op0 (v' := (.cptr (Node.av n_00).cells 0)) rfl rfl (E_op0 (v' := .int .u8 n_00.Op) rfl rfl (E_op0 (v' := .bool (n_00.Op == 9)) rfl rfl (E_mv (v' := .bool (n_00.Op == 9)) rfl ?_))))
 refine E_gsT (b := (n_00.Op == 9)) rfl rfl rfl (fun hb => ?_) (fun hb => ?_)
 {
 rw [ite_t hb] at h
 refine E_op0 (v' := (.cptr (Node.av n_00).cells 11)) rfl rfl (E_gh rfl (E_op0 (v' := .int .i64 n_00.Else) rfl rfl (E_gh rfl (E_op0 (v' := (.cptr (Node.av n_00).cells 10)) rfl rfl (E_gh rfl (E_op0 (v' := .int .i64 n_00.Next) rfl rfl (E_gh rfl (E_op0 (v' := .bool (n_00.Else != n_00.Next)) rfl rfl (E_pt rfl rfl (E_nil ?_))))))))))
 exact E_jx _ h (wk_aw ⟨(.refl _), (.refl _), trivial⟩)
 }
 {
 rw [ite_f hb] at h
 refine E_gm rfl (E_gm rfl (E_gm rfl (E_gm rfl (E_pf rfl rfl (E_nil ?_)))))
 exact E_jx _ h (wk_aw ⟨(.refl _), (.refl _), trivial⟩)
 }
 }
 {
 refine E_sq ?_
 refine E_cs (t := s_4) rfl (fun hb => ?_) (fun hb => ?_)
 {
 rw [ite_t hb] at h
 refine E_sq (E_reg (E_op0 (v' := (.cptr (Node.av n_00).cells 10)) rfl rfl (E_op0 (v' := .int .i64 n_00.Next) rfl rfl (E_op0 (v' := (.cptr (Node.av n_00).cells 11)) rfl rfl (E_op0 (v' := .int .i64 n_00.Else) rfl rfl (E_opw (v' := (.sl true 1 (List.map (avI .i64) [n_00.Next, n_00.Else]))) rfl (.refl _) rfl (E_mv (v' := (.sl true 1 (List.map (avI .i64) [n_00.Next, n_00.Else]))) rfl (E_nil (E_nx (E_ret (E_thr ?_)))))))))))
 cases h
 exact ⟨trivial, _, rfl, (fz_b ((encI .i64).blws 0) .ex)⟩
 }
 {
 rw [ite_f hb] at h
 refine E_skip (E_nx (E_sq (E_reg (E_op0 (v' := (.cptr (Node.av n_00).cells 10)) rfl rfl (E_op0 (v' := .int .i64 n_00.Next) rfl rfl (E_opw (v' := (.sl true 1 (List.map (avI .i64) [n_00.Next]))) rfl (.refl _) rfl (E_mv (v' := (.sl true 1 (List.map (avI .i64) [n_00.Next]))) rfl (E_nil (E_nx (E_ret ?_))))))))))
 cases h
 exact ⟨trivial, _, rfl, (fz_b ((encI .i64).blws 0) .ex)⟩
 }
 }
 }
 }
def fc63 : FC := (.seq (.reg [oO 2 (.mv (.v (.str (ByteArray.mk #[]))))] []) (.seq (.reg [oO 3 (.bsl none [(.str (ByteArray.mk #[]))] 18 [(0, 1, (.v (.str (ByteArray.mk #[110, 45, 45, 45])))), (1, 1, (.v (.str (ByteArray.mk #[61, 45, 61, 45])))), (2, 1, (.v (.str (ByteArray.mk #[110, 45, 110, 110])))), (3, 1, (.v (.str (ByteArray.mk #[110, 45, 45, 45])))), (4, 1, (.v (.str (ByteArray.mk #[45, 45, 110, 45])))), (5, 1, (.v (.str (ByteArray.mk #[112, 45, 45, 45])))), (6, 1, (.v (.str (ByteArray.mk #[110, 45, 112, 45])))), (7, 1, (.v (.str (ByteArray.mk #[45, 45, 112, 110])))), (8, 1, (.v (.str (ByteArray.mk #[45, 45, 110, 45])))), (9, 1, (.v (.str (ByteArray.mk #[45, 45, 45, 45])))), (10, 1, (.v (.str (ByteArray.mk #[45, 45, 45, 45])))), (11, 1, (.v (.str (ByteArray.mk #[45, 45, 45, 45])))), (12, 1, (.v (.str (ByteArray.mk #[45, 45, 45, 45])))), (13, 1, (.v (.str (ByteArray.mk #[45, 45, 110, 45])))), (14, 1, (.v (.str (ByteArray.mk #[110, 110, 45, 45])))), (15, 1, (.v (.str (ByteArray.mk #[110, 45, 45, 45])))), (16, 1, (.v (.str (ByteArray.mk #[45, 45, 110, 45])))), (17, 1, (.v (.str (ByteArray.mk #[45, 45, 110, 45]))))]), oO 4 (.mv (.t 0)), oO 5 (.bin .none .sub (.t 4) (.v (.int .u8 1))), oO 6 (.iad none none (.t 3) (.t 5)), oO 7 (.load none (.t 6)), oO 2 (.mv (.t 7))] []) .ret))
theorem fn63 : Fn3 Tryd.prog 63 8 [(2, none)] fc63 := ⟨_, _, Tryd.func63, rfl, rfl, rfl, by kernel_rfl⟩
def windlassref07_want_s (op_00 : Int) : Option ByteArray :=
  ((getI [(ByteArray.mk #[110, 45, 45, 45]), (ByteArray.mk #[61, 45, 61, 45]), (ByteArray.mk #[110, 45, 110, 110]), (ByteArray.mk #[110, 45, 45, 45]), (ByteArray.mk #[45, 45, 110, 45]), (ByteArray.mk #[112, 45, 45, 45]), (ByteArray.mk #[110, 45, 112, 45]), (ByteArray.mk #[45, 45, 112, 110]), (ByteArray.mk #[45, 45, 110, 45]), (ByteArray.mk #[45, 45, 45, 45]), (ByteArray.mk #[45, 45, 45, 45]), (ByteArray.mk #[45, 45, 45, 45]), (ByteArray.mk #[45, 45, 45, 45]), (ByteArray.mk #[45, 45, 110, 45]), (ByteArray.mk #[110, 110, 45, 45]), (ByteArray.mk #[110, 45, 45, 45]), (ByteArray.mk #[45, 45, 110, 45]), (ByteArray.mk #[45, 45, 110, 45])] (U8 (op_00 - 1))).bind fun y_1 => (some y_1))
theorem windlassref07_want_ev {op_00 : Int} {r : ByteArray} (h : windlassref07_want_s op_00 = some r) : PureEv Tryd.prog 63 [(.int .u8 op_00)] (.str r) := by
  unfold windlassref07_want_s at h
  refine PureEv_end mixed fn63 (by simp) [] 6 ?_
  unfold fc63
  refine E_sq ?_
  refine E_reg ?_
  refine E_mv (v' := (.str (ByteArray.mk #[]))) rfl ?_
  refine E_nil ?_
  refine E_nx ?_
  refine E_sq ?_
  refine E_reg ?_
  refine E_opw (v := (.sl true 1 (List.map avS [(ByteArray.mk #[110, 45, 45, 45]), (ByteArray.mk #[61, 45, 61, 45]), (ByteArray.mk #[110, 45, 110, 110]), (ByteArray.mk #[110, 45, 45, 45]), (ByteArray.mk #[45, 45, 110, 45]), (ByteArray.mk #[112, 45, 45, 45]), (ByteArray.mk #[110, 45, 112, 45]), (ByteArray.mk #[45, 45, 112, 110]), (ByteArray.mk #[45, 45, 110, 45]), (ByteArray.mk #[45, 45, 45, 45]), (ByteArray.mk #[45, 45, 45, 45]), (ByteArray.mk #[45, 45, 45, 45]), (ByteArray.mk #[45, 45, 45, 45]), (ByteArray.mk #[45, 45, 110, 45]), (ByteArray.mk #[110, 110, 45, 45]), (ByteArray.mk #[110, 45, 45, 45]), (ByteArray.mk #[45, 45, 110, 45]), (ByteArray.mk #[45, 45, 110, 45])]))) (v' := (.sl true 1 (List.map avS [(ByteArray.mk #[110, 45, 45, 45]), (ByteArray.mk #[61, 45, 61, 45]), (ByteArray.mk #[110, 45, 110, 110]), (ByteArray.mk #[110, 45, 45, 45]), (ByteArray.mk #[45, 45, 110, 45]), (ByteArray.mk #[112, 45, 45, 45]), (ByteArray.mk #[110, 45, 112, 45]), (ByteArray.mk #[45, 45, 112, 110]), (ByteArray.mk #[45, 45, 110, 45]), (ByteArray.mk #[45, 45, 45, 45]), (ByteArray.mk #[45, 45, 45, 45]), (ByteArray.mk #[45, 45, 45, 45]), (ByteArray.mk #[45, 45, 45, 45]), (ByteArray.mk #[45, 45, 110, 45]), (ByteArray.mk #[110, 110, 45, 45]), (ByteArray.mk #[110, 45, 45, 45]), (ByteArray.mk #[45, 45, 110, 45]), (ByteArray.mk #[45, 45, 110, 45])]))) (rd := []) (δ := none) (by kernel_rfl) (.refl _) rfl ?_
  refine E_mv (v' := (.int .u8 op_00)) rfl ?_
  refine E_op0 (v' := (.int .u8 (U8 (op_00 - 1)))) rfl rfl ?_
  obtain ⟨y_1, hy_1, h⟩ := bd_some h
  refine E_iadF rfl rfl hy_1 ?_
  refine E_op0 (v' := (.str y_1)) rfl rfl ?_
  refine E_mv (v' := (.str y_1)) rfl ?_
  refine E_nil ?_
  refine E_nx ?_
  refine E_ret ?_
  cases h
  exact ⟨trivial, _, rfl, (fz_b rfl (.refl _))⟩
def fc32 : FC := (.seq (.reg [oO 5 (.box (.t 1)), oO 7 (.box (.t 3)), oO 8 (.mv (.v (.bool false)))] []) (.seq (.seq (.reg [oO 18 (.fad 0 (.t 7)), oO 19 (.load none (.t 18)), oO 20 (.bin .none .lss (.t 19) (.v (.int .u8 1))), oO 21 (.mv (.t 20)), ⟨(some 22), some (21, false), .op (.fad 0 (.t 7))⟩, ⟨(some 23), some (21, false), .op (.load none (.t 22))⟩, ⟨(some 24), some (21, false), .op (.bin .none .gtr (.t 23) (.v (.int .u8 18)))⟩, oO 25 (.pick (.t 21) (.v (.bool true)) (.t 24))] []) (.cond (.t 25) (.seq (.reg [oO 8 (.mv (.v (.bool false)))] []) .ret) .skip)) (.seq (.seq (.reg [oO 26 (.load (some 12) (.t 7)), ⟨(some 27), none, .call 23 [(.t 26)]⟩, oO 28 (.len .sl (.t 27)), oO 29 (.mv (.v (.int .i64 0)))] []) (.block 0 (.loop (.seq (.reg [oO 30 (.bin .none .lss (.t 29) (.t 28))] []) (.seq (.cond (.t 30) .skip (.exit 0)) (.seq (.block 1 (.seq (.reg [oO 31 (.iad none none (.t 27) (.t 29)), oO 32 (.load none (.t 31)), oO 10 (.mv (.t 32))] []) (.seq (.reg [oO 33 (.mv (.t 10)), oO 34 (.bin .none .lss (.t 33) (.v (.int .i64 0))), oO 35 (.mv (.t 34)), ⟨(some 36), some (35, false), .op (.mv (.t 10))⟩, ⟨(some 37), some (35, false), .op (.fad 6 (.t 5))⟩, ⟨(some 38), some (35, false), .op (.load none (.t 37))⟩, ⟨(some 39), some (35, false), .op (.len .sl (.t 38))⟩, ⟨(some 40), some (35, false), .op (.bin .none .geq (.t 36) (.t 39))⟩, oO 41 (.pick (.t 35) (.v (.bool true)) (.t 40))] []) (.cond (.t 41) (.seq (.reg [oO 8 (.mv (.v (.bool false)))] []) .ret) .skip)))) (.reg [oO 42 (.bin .none .add (.t 29) (.v (.int .i64 1))), oO 29 (.mv (.t 42))] []))))))) (.seq (.reg [oO 43 (.fad 0 (.t 7)), oO 44 (.load none (.t 43)), ⟨(some 45), none, .call 63 [(.t 44)]⟩, oO 11 (.mv (.t 45))] []) (.seq (.reg [oO 46 (.fad 2 (.t 7)), oO 47 (.load none (.t 46)), oO 48 (.fad 3 (.t 7)), oO 49 (.load none (.t 48)), oO 50 (.fad 4 (.t 7)), oO 51 (.load none (.t 50)), oO 52 (.fad 5 (.t 7)), oO 53 (.load none (.t 52)), oO 54 (.bsl none [(.int .i64 0)] 4 [(0, 1, (.t 47)), (1, 1, (.t 49)), (2, 1, (.t 51)), (3, 1, (.t 53))]), oO 12 (.mv (.t 54))] []) (.seq (.seq (.reg [oO 55 (.mv (.t 12)), oO 56 (.len .sl (.t 55)), oO 57 (.mv (.v (.int .i64 0)))] []) (.block 2 (.loop (.seq (.reg [oO 58 (.bin .none .lss (.t 57) (.t 56))] []) (.seq (.cond (.t 58) .skip (.exit 2)) (.seq (.block 3 (.seq (.reg [oO 59 (.mv (.t 57)), oO 60 (.iad none none (.t 55) (.t 57)), oO 61 (.load none (.t 60)), oO 13 (.mv (.t 59)), oO 14 (.mv (.t 61))] []) (.seq (.reg [oO 62 (.mv (.t 11)), oO 63 (.mv (.t 13)), oO 64 (.idxs (.t 62) (.t 63))] []) (.block 4 (.seq (.reg [oO 66 (.bin .none .eql (.t 64) (.v (.int .u8 110))), oO 65 (.mv (.t 66))] []) (.cond (.t 65) (.seq (.reg [oO 67 (.load (some 8) (.t 5)), oO 68 (.mv (.t 2)), oO 69 (.mv (.t 14)), ⟨(some 70), none, .call 62 [(.t 67), (.t 68), (.t 69), (.v (.int .u8 0))]⟩, oO 71 (.un .not (.t 70))] []) (.cond (.t 71) (.seq (.reg [oO 8 (.mv (.v (.bool false)))] []) .ret) .skip)) (.seq (.reg [oO 73 (.bin .none .eql (.t 64) (.v (.int .u8 112))), oO 72 (.mv (.t 73))] []) (.cond (.t 72) (.seq (.reg [oO 74 (.load (some 8) (.t 5)), oO 75 (.mv (.t 2)), oO 76 (.mv (.t 14)), ⟨(some 77), none, .call 62 [(.t 74), (.t 75), (.t 76), (.v (.int .u8 1))]⟩, oO 78 (.un .not (.t 77))] []) (.cond (.t 78) (.seq (.reg [oO 8 (.mv (.v (.bool false)))] []) .ret) .skip)) .skip)))))))) (.reg [oO 79 (.bin .none .add (.t 57) (.v (.int .i64 1))), oO 57 (.mv (.t 79))] []))))))) (.seq (.seq (.reg [oO 80 (.fad 0 (.t 7)), oO 81 (.load none (.t 80))] []) (.block 5 (.seq (.reg [oO 83 (.bin .none .eql (.t 81) (.v (.int .u8 2))), oO 82 (.mv (.t 83))] []) (.cond (.t 82) (.seq (.reg [oO 84 (.load (some 8) (.t 5)), oO 85 (.mv (.t 2)), oO 86 (.fad 2 (.t 7)), oO 87 (.load none (.t 86)), ⟨(some 88), none, .call 62 [(.t 84), (.t 85), (.t 87), (.v (.int .u8 0))]⟩, oO 89 (.mv (.t 88)), ⟨(some 90), some (89, true), .op (.load (some 8) (.t 5))⟩, ⟨(some 91), some (89, true), .op (.mv (.t 2))⟩, ⟨(some 92), some (89, true), .op (.fad 4 (.t 7))⟩, ⟨(some 93), some (89, true), .op (.load none (.t 92))⟩, ⟨(some 94), some (89, true), .call 62 [(.t 90), (.t 91), (.t 93), (.v (.int .u8 0))]⟩, oO 95 (.pick (.t 89) (.t 94) (.v (.bool false))), oO 96 (.mv (.t 95)), ⟨(some 97), some (96, false), .op (.load (some 8) (.t 5))⟩, ⟨(some 98), some (96, false), .op (.mv (.t 2))⟩, ⟨(some 99), some (96, false), .op (.fad 2 (.t 7))⟩, ⟨(some 100), some (96, false), .op (.load none (.t 99))⟩, ⟨(some 101), some (96, false), .call 62 [(.t 97), (.t 98), (.t 100), (.v (.int .u8 1))]⟩, ⟨(some 102), some (96, false), .op (.mv (.t 101))⟩, ⟨(some 103), some (102, true), .op (.load (some 8) (.t 5))⟩, ⟨(some 104), some (102, true), .op (.mv (.t 2))⟩, ⟨(some 105), some (102, true), .op (.fad 4 (.t 7))⟩, ⟨(some 106), some (102, true), .op (.load none (.t 105))⟩, ⟨(some 107), some (102, true), .call 62 [(.t 103), (.t 104), (.t 106), (.v (.int .u8 1))]⟩, ⟨(some 108), some (96, false), .op (.pick (.t 102) (.t 107) (.v (.bool false)))⟩, oO 109 (.pick (.t 96) (.v (.bool true)) (.t 108)), oO 8 (.mv (.t 109))] []) .ret) (.seq (.reg [oO 111 (.bin .none .eql (.t 81) (.v (.int .u8 3))), oO 110 (.mv (.t 111))] []) (.cond (.t 110) (.seq (.reg [oO 112 (.fad 1 (.t 7)), oO 113 (.load none (.t 112)), oO 114 (.bin .none .geq (.t 113) (.v (.int .u8 7))), oO 115 (.mv (.t 114)), ⟨(some 116), some (115, true), .op (.fad 1 (.t 7))⟩, ⟨(some 117), some (115, true), .op (.load none (.t 116))⟩, ⟨(some 118), some (115, true), .op (.bin .none .leq (.t 117) (.v (.int .u8 20)))⟩, oO 119 (.pick (.t 115) (.t 118) (.v (.bool false))), oO 8 (.mv (.t 119))] []) .ret) (.seq (.seq (.reg [oO 121 (.bin .none .eql (.t 81) (.v (.int .u8 4))), oO 120 (.mv (.t 121))] []) (.cond (.t 120) .skip (.seq (.reg [oO 122 (.bin .none .eql (.t 81) (.v (.int .u8 5))), oO 120 (.mv (.t 122))] []) (.cond (.t 120) .skip (.reg [oO 123 (.bin .none .eql (.t 81) (.v (.int .u8 6))), oO 120 (.mv (.t 123))] []))))) (.cond (.t 120) (.seq (.reg [oO 124 (.fad 7 (.t 7)), oO 125 (.load none (.t 124)), oO 126 (.bin .none .geq (.t 125) (.v (.int .i64 0))), oO 127 (.mv (.t 126)), ⟨(some 128), some (127, true), .op (.fad 7 (.t 7))⟩, ⟨(some 129), some (127, true), .op (.load none (.t 128))⟩, ⟨(some 130), some (127, true), .op (.fad 2 (.t 5))⟩, ⟨(some 131), some (127, true), .op (.load none (.t 130))⟩, ⟨(some 132), some (127, true), .op (.bin .none .lss (.t 129) (.t 131))⟩, oO 133 (.pick (.t 127) (.t 132) (.v (.bool false))), oO 8 (.mv (.t 133))] []) .ret) (.seq (.reg [oO 135 (.bin .none .eql (.t 81) (.v (.int .u8 15))), oO 134 (.mv (.t 135))] []) (.cond (.t 134) (.seq (.reg [oO 136 (.fad 2 (.t 7)), oO 137 (.load none (.t 136)), oO 138 (.fad 3 (.t 7)), oO 139 (.load none (.t 138)), oO 140 (.bin .none .neq (.t 137) (.t 139)), oO 8 (.mv (.t 140))] []) .ret) (.seq (.reg [oO 142 (.bin .none .eql (.t 81) (.v (.int .u8 12))), oO 141 (.mv (.t 142))] []) (.cond (.t 141) (.seq (.seq (.reg [oO 143 (.fad 4 (.t 7)), oO 144 (.load none (.t 143)), oO 145 (.bin .none .eql (.t 144) (.v (.int .i64 (-1))))] []) (.cond (.t 145) (.seq (.reg [oO 146 (.fad 4 (.t 5)), oO 147 (.load none (.t 146)), oO 148 (.un .not (.t 147)), oO 8 (.mv (.t 148))] []) .ret) .skip)) (.seq (.reg [oO 149 (.fad 4 (.t 5)), oO 150 (.load none (.t 149)), oO 151 (.mv (.t 150)), ⟨(some 152), some (151, true), .op (.load (some 8) (.t 5))⟩, ⟨(some 153), some (151, true), .op (.mv (.t 2))⟩, ⟨(some 154), some (151, true), .op (.fad 4 (.t 7))⟩, ⟨(some 155), some (151, true), .op (.load none (.t 154))⟩, ⟨(some 156), some (151, true), .call 62 [(.t 152), (.t 153), (.t 155), (.v (.int .u8 0))]⟩, oO 157 (.pick (.t 151) (.t 156) (.v (.bool false))), oO 8 (.mv (.t 157))] []) .ret)) (.seq (.seq (.reg [oO 159 (.bin .none .eql (.t 81) (.v (.int .u8 11))), oO 158 (.mv (.t 159))] []) (.cond (.t 158) .skip (.reg [oO 160 (.bin .none .eql (.t 81) (.v (.int .u8 13))), oO 158 (.mv (.t 160))] []))) (.cond (.t 158) (.seq (.seq (.reg [oO 161 (.fad 6 (.t 7)), oO 162 (.load none (.t 161)), oO 163 (.bin .none .lss (.t 162) (.v (.int .i64 0))), oO 164 (.mv (.t 163)), ⟨(some 165), some (164, false), .op (.fad 6 (.t 7))⟩, ⟨(some 166), some (164, false), .op (.load none (.t 165))⟩, ⟨(some 167), some (164, false), .op (.mv (.t 0))⟩, ⟨(some 168), some (164, false), .op (.len .sl (.t 167))⟩, ⟨(some 169), some (164, false), .op (.bin .none .geq (.t 166) (.t 168))⟩, oO 170 (.pick (.t 164) (.v (.bool true)) (.t 169)), oO 171 (.mv (.t 170)), ⟨(some 172), some (171, false), .op (.fad 9 (.t 7))⟩, ⟨(some 173), some (171, false), .op (.load none (.t 172))⟩, ⟨(some 174), some (171, false), .op (.len .sl (.t 173))⟩, ⟨(some 175), some (171, false), .op (.mv (.t 0))⟩, ⟨(some 176), some (171, false), .op (.fad 6 (.t 7))⟩, ⟨(some 177), some (171, false), .op (.load none (.t 176))⟩, ⟨(some 178), some (171, false), .op (.iad none (some 8) (.t 175) (.t 177))⟩, ⟨(some 179), some (171, false), .op (.fad 0 (.t 178))⟩, ⟨(some 180), some (171, false), .op (.load none (.t 179))⟩, ⟨(some 181), some (171, false), .op (.len .sl (.t 180))⟩, ⟨(some 182), some (171, false), .op (.bin .none .neq (.t 174) (.t 181))⟩, oO 183 (.pick (.t 171) (.v (.bool true)) (.t 182))] []) (.cond (.t 183) (.seq (.reg [oO 8 (.mv (.v (.bool false)))] []) .ret) .skip)) (.seq (.reg [oO 184 (.mv (.t 0)), oO 185 (.fad 6 (.t 7)), oO 186 (.load none (.t 185)), oO 187 (.iad none (some 8) (.t 184) (.t 186)), oO 188 (.load (some 8) (.t 187)), oO 15 (.new [.nils, .nils, (.int .i64 0), .nils, (.bool false), (.int .i64 0), .nils, (.int .i64 0)]), ⟨none, none, .op (.store 8 (.t 15) (.t 188))⟩] []) (.seq (.seq (.reg [oO 189 (.fad 9 (.t 7)), oO 190 (.load none (.t 189)), oO 191 (.len .sl (.t 190)), oO 192 (.mv (.v (.int .i64 0)))] []) (.block 6 (.loop (.seq (.reg [oO 193 (.bin .none .lss (.t 192) (.t 191))] []) (.seq (.cond (.t 193) .skip (.exit 6)) (.seq (.block 7 (.seq (.reg [oO 194 (.mv (.t 192)), oO 195 (.iad none none (.t 190) (.t 192)), oO 196 (.load none (.t 195)), oO 16 (.mv (.t 194)), oO 17 (.mv (.t 196))] []) (.seq (.reg [oO 197 (.mv (.t 2)), oO 198 (.mv (.t 197)), ⟨(some 199), some (198, true), .op (.mv (.t 17))⟩, ⟨(some 200), some (198, true), .op (.mv (.t 16))⟩, ⟨(some 201), some (198, true), .op (.bin .none .neq (.t 199) (.t 200))⟩, oO 202 (.pick (.t 198) (.t 201) (.v (.bool false))), oO 203 (.mv (.t 202)), ⟨(some 204), some (203, false), .op (.mv (.t 2))⟩, ⟨(some 205), some (203, false), .op (.un .not (.t 204))⟩, ⟨(some 206), some (203, false), .op (.mv (.t 205))⟩, ⟨(some 207), some (206, true), .op (.load (some 8) (.t 5))⟩, ⟨(some 208), some (206, true), .op (.mv (.t 17))⟩, ⟨(some 209), some (206, true), .op (.fad 1 (.t 15))⟩, ⟨(some 210), some (206, true), .op (.load none (.t 209))⟩, ⟨(some 211), some (206, true), .op (.fad 0 (.t 15))⟩, ⟨(some 212), some (206, true), .op (.load none (.t 211))⟩, ⟨(some 213), some (206, true), .op (.mv (.t 16))⟩, ⟨(some 214), some (206, true), .op (.iad none none (.t 212) (.t 213))⟩, ⟨(some 215), some (206, true), .op (.load none (.t 214))⟩, ⟨(some 216), some (206, true), .op (.iad none none (.t 210) (.t 215))⟩, ⟨(some 217), some (206, true), .op (.load none (.t 216))⟩, ⟨(some 218), some (206, true), .call 62 [(.t 207), (.v (.bool false)), (.t 208), (.t 217)]⟩, ⟨(some 219), some (206, true), .op (.un .not (.t 218))⟩, ⟨(some 220), some (203, false), .op (.pick (.t 206) (.t 219) (.v (.bool false)))⟩, oO 221 (.pick (.t 203) (.v (.bool true)) (.t 220))] []) (.cond (.t 221) (.seq (.reg [oO 8 (.mv (.v (.bool false)))] []) .ret) .skip)))) (.reg [oO 222 (.bin .none .add (.t 192) (.v (.int .i64 1))), oO 192 (.mv (.t 222))] []))))))) (.seq (.reg [oO 223 (.fad 0 (.t 7)), oO 224 (.load none (.t 223)), oO 225 (.bin .none .eql (.t 224) (.v (.int .u8 11))), oO 226 (.mv (.t 225)), ⟨(some 227), some (226, true), .op (.fad 2 (.t 7))⟩, ⟨(some 228), some (226, true), .op (.load none (.t 227))⟩, ⟨(some 229), some (226, true), .op (.bin .none .neq (.t 228) (.v (.int .i64 (-1))))⟩, oO 230 (.pick (.t 226) (.t 229) (.v (.bool false)))] []) (.cond (.t 230) (.seq (.reg [oO 231 (.fad 4 (.t 15)), oO 232 (.load none (.t 231)), oO 233 (.mv (.t 232)), ⟨(some 234), some (233, true), .op (.load (some 8) (.t 5))⟩, ⟨(some 235), some (233, true), .op (.mv (.t 2))⟩, ⟨(some 236), some (233, true), .op (.fad 2 (.t 7))⟩, ⟨(some 237), some (233, true), .op (.load none (.t 236))⟩, ⟨(some 238), some (233, true), .call 62 [(.t 234), (.t 235), (.t 237), (.v (.int .u8 0))]⟩, oO 239 (.pick (.t 233) (.t 238) (.v (.bool false))), oO 240 (.mv (.t 239)), ⟨(some 241), some (240, true), .op (.mv (.t 2))⟩, ⟨(some 242), some (240, true), .op (.un .not (.t 241))⟩, ⟨(some 243), some (240, true), .op (.mv (.t 242))⟩, ⟨(some 244), some (243, false), .op (.fad 2 (.t 7))⟩, ⟨(some 245), some (243, false), .op (.load none (.t 244))⟩, ⟨(some 246), some (243, false), .op (.bin .none .eql (.t 245) (.v (.int .i64 0)))⟩, ⟨(some 247), some (240, true), .op (.pick (.t 243) (.v (.bool true)) (.t 246))⟩, oO 248 (.pick (.t 240) (.t 247) (.v (.bool false))), oO 8 (.mv (.t 248))] []) .ret) .skip))))) .skip)))))))))))))) (.seq (.reg [oO 8 (.mv (.v (.bool true)))] []) .ret))))))))
theorem fn32 : Fn3 Tryd.prog 32 249 [(8, none)] fc32 := ⟨_, _, Tryd.func32, rfl, rfl, rfl, by kernel_rfl⟩
def windlassref07_node_s (all_00 : (List Graph)) (g_01 : Graph) (bound_02 : Bool) (n_03 : Node) : Option Bool :=
  (jp (fun (s_2 : (Bool × Graph × Node × Bool)) => (if s_2.2.2.2 then (some false) else ((windlassref07_Next_s s_2.2.2.1).bind fun nex_3 => ((rng (fun (i_5 : Nat) (vto_6 : Int) (s_4 : Unit) => ((jp (fun (s_9 : Bool) => (if s_9 then (some (.ret (some false))) else (some (.nxt ())))) (fun k_8 => (if (decide (vto_6 < 0)) then (k_8 true) else (k_8 (decide (vto_6 ≥ (List.length s_2.2.1.Nodes : Int))))))) : Option (Stp Unit (Option Bool)))) nex_3 ()).bind (oc (fun (s_4 : Unit) => ((windlassref07_want_s s_2.2.2.1.Op).bind fun wan_10 => ((rng (fun (i_12 : Nat) (p_13 : Int) (s_11 : Unit) => (((strI wan_10 (i_12 : Int)).bind fun b_15 => (if (b_15 == 110) then ((windlassref07_fits_s s_2.2.1 s_2.1 p_13 0).bind fun fit_16 => (if (!fit_16) then (some (.ret (some false))) else (some (.nxt ())))) else (if (b_15 == 112) then ((windlassref07_fits_s s_2.2.1 s_2.1 p_13 1).bind fun fit_17 => (if (!fit_17) then (some (.ret (some false))) else (some (.nxt ())))) else (some (.nxt ()))))) : Option (Stp Unit (Option Bool)))) [s_2.2.2.1.D, s_2.2.2.1.E, s_2.2.2.1.A, s_2.2.2.1.B] ()).bind (oc (fun (s_11 : Unit) => (jp (fun (s_19 : Unit) => (some true)) (fun k_18 => (if (s_2.2.2.1.Op == 2) then (jp (fun (s_21 : Bool) => (some s_21)) (fun k_20 => ((windlassref07_fits_s s_2.2.1 s_2.1 s_2.2.2.1.D 0).bind fun fit_22 => (if fit_22 then ((windlassref07_fits_s s_2.2.1 s_2.1 s_2.2.2.1.A 0).bind fun fit_23 => (if fit_23 then (k_20 true) else ((windlassref07_fits_s s_2.2.1 s_2.1 s_2.2.2.1.D 1).bind fun fit_24 => (if fit_24 then ((windlassref07_fits_s s_2.2.1 s_2.1 s_2.2.2.1.A 1).bind fun fit_25 => (k_20 fit_25)) else (k_20 false))))) else ((windlassref07_fits_s s_2.2.1 s_2.1 s_2.2.2.1.D 1).bind fun fit_26 => (if fit_26 then ((windlassref07_fits_s s_2.2.1 s_2.1 s_2.2.2.1.A 1).bind fun fit_27 => (k_20 fit_27)) else (k_20 false))))))) else (if (s_2.2.2.1.Op == 3) then (jp (fun (s_29 : Bool) => (some s_29)) (fun k_28 => (if (decide (s_2.2.2.1.By ≥ 7)) then (k_28 (decide (s_2.2.2.1.By ≤ 20))) else (k_28 false)))) else (jp (fun (s_31 : Bool) => (if s_31 then (jp (fun (s_33 : Bool) => (some s_33)) (fun k_32 => (if (decide (s_2.2.2.1.Cell ≥ 0)) then (k_32 (decide (s_2.2.2.1.Cell < s_2.2.1.Cells))) else (k_32 false)))) else (if (s_2.2.2.1.Op == 15) then (some (s_2.2.2.1.D != s_2.2.2.1.E)) else (if (s_2.2.2.1.Op == 12) then (if (s_2.2.2.1.A == (-1)) then (some (!s_2.2.1.Result)) else (jp (fun (s_35 : Bool) => (some s_35)) (fun k_34 => (if s_2.2.1.Result then ((windlassref07_fits_s s_2.2.1 s_2.1 s_2.2.2.1.A 0).bind fun fit_36 => (k_34 fit_36)) else (k_34 false))))) else (jp (fun (s_38 : Bool) => (if s_38 then (jp (fun (s_40 : Bool) => (if s_40 then (some false) else ((getI all_00 s_2.2.2.1.F).bind fun y_42 => ((rng (fun (i_44 : Nat) (p_45 : Int) (s_43 : Unit) => ((jp (fun (s_48 : Bool) => (if s_48 then (some (.ret (some false))) else (some (.nxt ())))) (fun k_47 => (if s_2.1 then (if (p_45 != (i_44 : Int)) then (k_47 true) else (if (!s_2.1) then ((getI y_42.Params (i_44 : Int)).bind fun y_49 => ((getI y_42.Kinds y_49).bind fun y_50 => ((windlassref07_fits_s s_2.2.1 false p_45 y_50).bind fun fit_51 => (k_47 (!fit_51))))) else (k_47 false))) else (if (!s_2.1) then ((getI y_42.Params (i_44 : Int)).bind fun y_52 => ((getI y_42.Kinds y_52).bind fun y_53 => ((windlassref07_fits_s s_2.2.1 false p_45 y_53).bind fun fit_54 => (k_47 (!fit_54))))) else (k_47 false))))) : Option (Stp Unit (Option Bool)))) s_2.2.2.1.Args ()).bind (oc (fun (s_43 : Unit) => (jp (fun (s_56 : Bool) => (if s_56 then (jp (fun (s_58 : Bool) => (some s_58)) (fun k_57 => (if y_42.Result then ((windlassref07_fits_s s_2.2.1 s_2.1 s_2.2.2.1.D 0).bind fun fit_59 => (if fit_59 then (if (!s_2.1) then (k_57 true) else (k_57 (s_2.2.2.1.D == 0))) else (k_57 false))) else (k_57 false)))) else (k_18 ()))) (fun k_55 => (if (s_2.2.2.1.Op == 11) then (k_55 (s_2.2.2.1.D != (-1))) else (k_55 false)))))))))) (fun k_39 => (if (decide (s_2.2.2.1.F < 0)) then (k_39 true) else (if (decide (s_2.2.2.1.F ≥ (List.length all_00 : Int))) then (k_39 true) else ((getI all_00 s_2.2.2.1.F).bind fun y_41 => (k_39 ((List.length s_2.2.2.1.Args : Int) != (List.length y_41.Params : Int)))))))) else (k_18 ()))) (fun k_37 => (if (s_2.2.2.1.Op == 11) then (k_37 (s_2.2.2.1.Op == 11)) else (k_37 (s_2.2.2.1.Op == 13))))))))) (fun k_30 => (if (s_2.2.2.1.Op == 4) then (k_30 (s_2.2.2.1.Op == 4)) else (if (s_2.2.2.1.Op == 5) then (k_30 (s_2.2.2.1.Op == 5)) else (k_30 (s_2.2.2.1.Op == 6)))))))))))))))))))) (fun k_1 => (if (decide (n_03.Op < 1)) then (k_1 (bound_02, g_01, n_03, true)) else (k_1 (bound_02, g_01, n_03, (decide (n_03.Op > 18)))))))
theorem windlassref07_node_ev {all_00 : (List Graph)} {g_01 : Graph} {bound_02 : Bool} {n_03 : Node} {r : Bool} (h : windlassref07_node_s all_00 g_01 bound_02 n_03 = some r) : PureEv Tryd.prog 32 [(.sl false 8 (List.map Graph.av all_00)), (Graph.av g_01), (.bool bound_02), (Node.av n_03)] (.bool r) := by
 unfold windlassref07_node_s at h
 refine PureEv_end mixed fn32 (by simp) [15] 6 ?_
 unfold fc32
 refine E_sq (E_reg (E_op0 (v' := (.cptr (Graph.av g_01).cells 0)) rfl rfl (E_op0 (v' := (.cptr (Node.av n_03).cells 0)) rfl rfl (E_mv (v' := .bool false) rfl (E_nil (E_nx (E_as ?_)))))))
 refine E_jp h (fun s_2 => [(0, (.sl false 8 (List.map Graph.av all_00))), (2, (.bool s_2.1)), (5, (.cptr (Graph.av s_2.2.1).cells 0)), (7, (.cptr (Node.av s_2.2.2.1).cells 0)), (25, (.bool s_2.2.2.2))]) (fun s_2 => []) (fun k_1 h => ?_) (fun s_2 h => ?_)
 {
 refine E_reg (E_op0 (v' := (.cptr (Node.av n_03).cells 0)) rfl rfl (E_op0 (v' := .int .u8 n_03.Op) rfl rfl (E_op0 (v' := (.bool (decide (n_03.Op < 1)))) rfl rfl (E_mv (v' := (.bool (decide (n_03.Op < 1)))) rfl ?_))))
 refine E_gsT (b := (decide (n_03.Op < 1))) rfl rfl rfl (fun hb => ?_) (fun hb => ?_)
 {
 rw [ite_f hb] at h
 refine E_op0 (v' := (.cptr (Node.av n_03).cells 0)) rfl rfl (E_gh rfl (E_op0 (v' := .int .u8 n_03.Op) rfl rfl (E_gh rfl (E_op0 (v' := (.bool (decide (n_03.Op > 18)))) rfl rfl (E_pf rfl rfl (E_nil ?_))))))
 exact E_jx _ h (wk_aw ⟨(.refl _), (.refl _), (.refl _), (.refl _), (.refl _), trivial⟩)
 }
 {
 rw [ite_t hb] at h
 refine E_gm rfl (E_gm rfl (E_pt rfl rfl (E_nil ?_)))
 exact E_jx _ h (wk_aw ⟨(.refl _), (.refl _), (.refl _), (.refl _), (.refl _), trivial⟩)
 }
 }
 {
 refine E_sq ?_
 refine E_cs (t := s_2.2.2.2) rfl (fun hb => ?_) (fun hb => ?_)
 {
 rw [ite_t hb] at h
 refine E_sq (E_reg (E_mv (v' := .bool false) rfl (E_nil (E_nx (E_ret (E_thr ?_))))))
 cases h
 exact ⟨trivial, _, rfl, (fz_b rfl (.refl _))⟩
 }
 {
 rw [ite_f hb] at h
 refine E_skip (E_nx (E_as (E_sq (E_reg (E_op0 (v' := (Node.av s_2.2.2.1)) rfl rfl ?_)))))
 obtain ⟨nex_3, hnex_3, h⟩ := bd_some h
 refine E_callW (windlassref07_Next_ev  hnex_3) rfl ⟨(.refl _), trivial⟩ (blwL_of ⟨(Node.enc.blw _ 0), trivial⟩) ((encI .i64).blws 0) (E_len rfl (E_mv (v' := .int .i64 0) rfl (E_nil (E_nx (E_sq ?_)))))
 refine E_rngO (fun s_4 => [(0, (.sl false 8 (List.map Graph.av all_00))), (2, (.bool s_2.1)), (5, (.cptr (Graph.av s_2.2.1).cells 0)), (7, (.cptr (Node.av s_2.2.2.1).cells 0)), (27, (.sl false 1 (List.map (avI .i64) nex_3)))]) (fun s_4 => []) h (by decide) (by decide) (fun _ => ⟨rfl, rfl, rfl, rfl⟩) (wk_aw ⟨(.refl _), (.refl _), (.refl _), (.refl _), (.refl _), (.refl _), (.refl _), trivial⟩) (fun i_5 vto_6 s_4 c hx_7 hlt h => ?_) (fun s_4 fr' S' h hw => ?_)
 {
 refine E_sq (E_reg (E_iadF rfl rfl (getI_of hx_7) (E_op0 (v' := .int .i64 vto_6) rfl rfl (E_mv (v' := .int .i64 vto_6) rfl (E_nil (E_nx ?_))))))
 refine E_jp h (fun s_9 => [(0, (.sl false 8 (List.map Graph.av all_00))), (2, (.bool s_2.1)), (5, (.cptr (Graph.av s_2.2.1).cells 0)), (7, (.cptr (Node.av s_2.2.2.1).cells 0)), (27, (.sl false 1 (List.map (avI .i64) nex_3))), (28, (.int .i64 (List.length nex_3 : Int))), (29, (.int .i64 (i_5 : Int))), (41, (.bool s_9))]) (fun s_9 => []) (fun k_8 h => ?_) (fun s_9 h => ?_)
 {
 refine E_reg (E_mv (v' := .int .i64 vto_6) rfl (E_op0 (v' := (.bool (decide (vto_6 < 0)))) rfl rfl (E_mv (v' := (.bool (decide (vto_6 < 0)))) rfl ?_)))
 refine E_gsT (b := (decide (vto_6 < 0))) rfl rfl rfl (fun hb => ?_) (fun hb => ?_)
 {
 rw [ite_f hb] at h
 refine E_mv (v' := .int .i64 vto_6) rfl (E_gh rfl (E_op0 (v' := (.cptr (Graph.av s_2.2.1).cells 6)) rfl rfl (E_gh rfl (E_op0 (v' := .sl false 12 (List.map Node.av s_2.2.1.Nodes)) rfl rfl (E_gh rfl (E_len rfl (E_gh rfl (E_op0 (v' := (.bool (decide (vto_6 ≥ (List.length s_2.2.1.Nodes : Int))))) rfl rfl (E_pf rfl rfl (E_nil ?_))))))))))
 exact E_jx _ h (wk_aw ⟨(.refl _), (.refl _), (.refl _), (.refl _), (.refl _), (.refl _), (.refl _), (.refl _), trivial⟩)
 }
 {
 rw [ite_t hb] at h
 refine E_gm rfl (E_gm rfl (E_gm rfl (E_gm rfl (E_pt rfl rfl (E_nil ?_)))))
 exact E_jx _ h (wk_aw ⟨(.refl _), (.refl _), (.refl _), (.refl _), (.refl _), (.refl _), (.refl _), (.refl _), trivial⟩)
 }
 }
 {
 refine E_cs (t := s_9) rfl (fun hb => ?_) (fun hb => ?_)
 {
 rw [ite_t hb] at h
 refine E_sq (E_reg (E_mv (v' := .bool false) rfl (E_nil (E_nx (E_ret ?_)))))
 cases h
 refine L_rrO rfl (fun h => ?_)
 refine E_thr ?_
 cases h
 exact ⟨trivial, _, rfl, (fz_b rfl (.refl _))⟩
 }
 {
 rw [ite_f hb] at h
 refine E_skip ?_
 cases h
 exact L_nn rfl (wk_aw ⟨(.refl _), (.refl _), (.refl _), (.refl _), (.refl _), (.refl _), (.refl _), trivial⟩)
 }
 }
 }
 {
 refine X_nx hw (E_sq (E_reg (E_op0 (v' := (.cptr (Node.av s_2.2.2.1).cells 0)) rfl rfl (E_op0 (v' := .int .u8 s_2.2.2.1.Op) rfl rfl ?_))))
 obtain ⟨wan_10, hwan_10, h⟩ := bd_some h
 refine E_callW (windlassref07_want_ev  hwan_10) rfl ⟨(.refl _), trivial⟩ (blwL_of ⟨rfl, trivial⟩) rfl (E_mv (v' := .str wan_10) rfl (E_nil (E_nx (E_sq (E_reg (E_op0 (v' := (.cptr (Node.av s_2.2.2.1).cells 2)) rfl rfl (E_op0 (v' := .int .i64 s_2.2.2.1.D) rfl rfl (E_op0 (v' := (.cptr (Node.av s_2.2.2.1).cells 3)) rfl rfl (E_op0 (v' := .int .i64 s_2.2.2.1.E) rfl rfl (E_op0 (v' := (.cptr (Node.av s_2.2.2.1).cells 4)) rfl rfl (E_op0 (v' := .int .i64 s_2.2.2.1.A) rfl rfl (E_op0 (v' := (.cptr (Node.av s_2.2.2.1).cells 5)) rfl rfl (E_op0 (v' := .int .i64 s_2.2.2.1.B) rfl rfl ?_)))))))))))))
 refine E_opw (v := (.sl true 1 (List.map (avI .i64) [s_2.2.2.1.D, s_2.2.2.1.E, s_2.2.2.1.A, s_2.2.2.1.B]))) (v' := (.sl true 1 (List.map (avI .i64) [s_2.2.2.1.D, s_2.2.2.1.E, s_2.2.2.1.A, s_2.2.2.1.B]))) (rd := []) (δ := none) (by kernel_rfl) (.refl _) rfl ?_
 refine E_mv (v' := (.sl true 1 (List.map (avI .i64) [s_2.2.2.1.D, s_2.2.2.1.E, s_2.2.2.1.A, s_2.2.2.1.B]))) rfl (E_nil (E_nx (E_as (E_sq (E_reg (E_mv (v' := (.sl true 1 (List.map (avI .i64) [s_2.2.2.1.D, s_2.2.2.1.E, s_2.2.2.1.A, s_2.2.2.1.B]))) rfl (E_len rfl (E_mv (v' := .int .i64 0) rfl (E_nil (E_nx (E_sq ?_)))))))))))
 refine E_rngO (fun s_11 => [(0, (.sl false 8 (List.map Graph.av all_00))), (2, (.bool s_2.1)), (5, (.cptr (Graph.av s_2.2.1).cells 0)), (7, (.cptr (Node.av s_2.2.2.1).cells 0)), (11, (.str wan_10)), (55, (.sl true 1 (List.map (avI .i64) [s_2.2.2.1.D, s_2.2.2.1.E, s_2.2.2.1.A, s_2.2.2.1.B])))]) (fun s_11 => []) h (by decide) (by decide) (fun _ => ⟨rfl, rfl, rfl, rfl⟩) (wk_aw ⟨(.refl _), (.refl _), (.refl _), (.refl _), (.refl _), (.refl _), (.refl _), (.refl _), trivial⟩) (fun i_12 p_13 s_11 c hx_14 hlt h => ?_) (fun s_11 fr' S' h hw => ?_)
 {
 refine E_sq (E_reg (E_mv (v' := .int .i64 (i_12 : Int)) rfl (E_iadF rfl rfl (getI_of hx_14) (E_op0 (v' := .int .i64 p_13) rfl rfl (E_mv (v' := .int .i64 (i_12 : Int)) rfl (E_mv (v' := .int .i64 p_13) rfl (E_nil (E_nx (E_sq (E_reg (E_mv (v' := .str wan_10) rfl (E_mv (v' := .int .i64 (i_12 : Int)) rfl ?_))))))))))))
 obtain ⟨b_15, hb_15, h⟩ := bd_some h
 refine E_idxS rfl rfl hb_15 (E_nil (E_nx (E_block (E_sq (E_reg (E_op0 (v' := .bool (b_15 == 110)) rfl rfl (E_mv (v' := .bool (b_15 == 110)) rfl (E_nil (E_nx ?_)))))))))
 refine E_cs (t := (b_15 == 110)) rfl (fun hb => ?_) (fun hb => ?_)
 {
 rw [ite_t hb] at h
 refine E_sq (E_reg (E_op0 (v' := (Graph.av s_2.2.1)) rfl rfl (E_mv (v' := .bool s_2.1) rfl (E_mv (v' := .int .i64 p_13) rfl ?_))))
 obtain ⟨fit_16, hfit_16, h⟩ := bd_some h
 refine E_callW (windlassref07_fits_ev  hfit_16) rfl ⟨(.refl _), (.refl _), (.refl _), (.refl _), trivial⟩ (blwL_of ⟨(Graph.enc.blw _ 0), rfl, rfl, rfl, trivial⟩) rfl (E_op0 (v' := .bool (!fit_16)) rfl rfl (E_nil (E_nx ?_)))
 refine E_cs (t := (!fit_16)) rfl (fun hb => ?_) (fun hb => ?_)
 {
 rw [ite_t hb] at h
 refine E_sq (E_reg (E_mv (v' := .bool false) rfl (E_nil (E_nx (E_ret (E_blr ?_))))))
 cases h
 refine L_rrO rfl (fun h => ?_)
 refine E_thr ?_
 cases h
 exact ⟨trivial, _, rfl, (fz_b rfl (.refl _))⟩
 }
 {
 rw [ite_f hb] at h
 refine E_skip (E_bln ?_)
 cases h
 exact L_nn rfl (wk_aw ⟨(.refl _), (.refl _), (.refl _), (.refl _), (.refl _), (.refl _), (.refl _), (.refl _), trivial⟩)
 }
 }
 {
 rw [ite_f hb] at h
 refine E_sq (E_reg (E_op0 (v' := .bool (b_15 == 112)) rfl rfl (E_mv (v' := .bool (b_15 == 112)) rfl (E_nil (E_nx ?_)))))
 refine E_cs (t := (b_15 == 112)) rfl (fun hb => ?_) (fun hb => ?_)
 {
 rw [ite_t hb] at h
 refine E_sq (E_reg (E_op0 (v' := (Graph.av s_2.2.1)) rfl rfl (E_mv (v' := .bool s_2.1) rfl (E_mv (v' := .int .i64 p_13) rfl ?_))))
 obtain ⟨fit_17, hfit_17, h⟩ := bd_some h
 refine E_callW (windlassref07_fits_ev  hfit_17) rfl ⟨(.refl _), (.refl _), (.refl _), (.refl _), trivial⟩ (blwL_of ⟨(Graph.enc.blw _ 0), rfl, rfl, rfl, trivial⟩) rfl (E_op0 (v' := .bool (!fit_17)) rfl rfl (E_nil (E_nx ?_)))
 refine E_cs (t := (!fit_17)) rfl (fun hb => ?_) (fun hb => ?_)
 {
 rw [ite_t hb] at h
 refine E_sq (E_reg (E_mv (v' := .bool false) rfl (E_nil (E_nx (E_ret (E_blr ?_))))))
 cases h
 refine L_rrO rfl (fun h => ?_)
 refine E_thr ?_
 cases h
 exact ⟨trivial, _, rfl, (fz_b rfl (.refl _))⟩
 }
 {
 rw [ite_f hb] at h
 refine E_skip (E_bln ?_)
 cases h
 exact L_nn rfl (wk_aw ⟨(.refl _), (.refl _), (.refl _), (.refl _), (.refl _), (.refl _), (.refl _), (.refl _), trivial⟩)
 }
 }
 {
 rw [ite_f hb] at h
 refine E_skip (E_bln ?_)
 cases h
 exact L_nn rfl (wk_aw ⟨(.refl _), (.refl _), (.refl _), (.refl _), (.refl _), (.refl _), (.refl _), (.refl _), trivial⟩)
 }
 }
 }
 {
 refine X_nx hw (E_as (E_sq (E_reg (E_op0 (v' := (.cptr (Node.av s_2.2.2.1).cells 0)) rfl rfl (E_op0 (v' := .int .u8 s_2.2.2.1.Op) rfl rfl (E_nil (E_nx ?_)))))))
 refine E_jp h (fun s_19 => []) (fun s_19 => []) (fun k_18 h => ?_) (fun s_19 h => ?_)
 {
 refine E_block (E_sq (E_reg (E_op0 (v' := .bool (s_2.2.2.1.Op == 2)) rfl rfl (E_mv (v' := .bool (s_2.2.2.1.Op == 2)) rfl (E_nil (E_nx ?_))))))
 refine E_cs (t := (s_2.2.2.1.Op == 2)) rfl (fun hb => ?_) (fun hb => ?_)
 {
 rw [ite_t hb] at h
 refine E_jp h (fun s_21 => [(8, (.bool s_21))]) (fun s_21 => []) (fun k_20 h => ?_) (fun s_21 h => ?_)
 {
 refine E_reg (E_op0 (v' := (Graph.av s_2.2.1)) rfl rfl (E_mv (v' := .bool s_2.1) rfl (E_op0 (v' := (.cptr (Node.av s_2.2.2.1).cells 2)) rfl rfl (E_op0 (v' := .int .i64 s_2.2.2.1.D) rfl rfl ?_))))
 obtain ⟨fit_22, hfit_22, h⟩ := bd_some h
 refine E_callW (windlassref07_fits_ev  hfit_22) rfl ⟨(.refl _), (.refl _), (.refl _), (.refl _), trivial⟩ (blwL_of ⟨(Graph.enc.blw _ 0), rfl, rfl, rfl, trivial⟩) rfl (E_mv (v' := .bool fit_22) rfl ?_)
 refine E_gsT (b := fit_22) rfl rfl rfl (fun hb => ?_) (fun hb => ?_)
 {
 rw [ite_t hb] at h
 refine E_op0 (v' := (Graph.av s_2.2.1)) rfl rfl (E_gh rfl (E_mv (v' := .bool s_2.1) rfl (E_gh rfl (E_op0 (v' := (.cptr (Node.av s_2.2.2.1).cells 4)) rfl rfl (E_gh rfl (E_op0 (v' := .int .i64 s_2.2.2.1.A) rfl rfl (E_gh rfl ?_)))))))
 obtain ⟨fit_23, hfit_23, h⟩ := bd_some h
 refine E_callW (windlassref07_fits_ev  hfit_23) rfl ⟨(.refl _), (.refl _), (.refl _), (.refl _), trivial⟩ (blwL_of ⟨(Graph.enc.blw _ 0), rfl, rfl, rfl, trivial⟩) rfl (E_pt rfl rfl (E_mv (v' := .bool fit_23) rfl ?_))
 refine E_gsT (b := fit_23) rfl rfl rfl (fun hb => ?_) (fun hb => ?_)
 {
 rw [ite_f hb] at h
 refine E_op0 (v' := (Graph.av s_2.2.1)) rfl rfl (E_gh rfl (E_mv (v' := .bool s_2.1) rfl (E_gh rfl (E_op0 (v' := (.cptr (Node.av s_2.2.2.1).cells 2)) rfl rfl (E_gh rfl (E_op0 (v' := .int .i64 s_2.2.2.1.D) rfl rfl (E_gh rfl ?_)))))))
 obtain ⟨fit_24, hfit_24, h⟩ := bd_some h
 refine E_callW (windlassref07_fits_ev  hfit_24) rfl ⟨(.refl _), (.refl _), (.refl _), (.refl _), trivial⟩ (blwL_of ⟨(Graph.enc.blw _ 0), rfl, rfl, rfl, trivial⟩) rfl (E_gh rfl (E_mv (v' := .bool fit_24) rfl ?_))
 refine E_gsT (b := fit_24) rfl rfl rfl (fun hb => ?_) (fun hb => ?_)
 {
 rw [ite_t hb] at h
 refine E_op0 (v' := (Graph.av s_2.2.1)) rfl rfl (E_gh rfl (E_mv (v' := .bool s_2.1) rfl (E_gh rfl (E_op0 (v' := (.cptr (Node.av s_2.2.2.1).cells 4)) rfl rfl (E_gh rfl (E_op0 (v' := .int .i64 s_2.2.2.1.A) rfl rfl (E_gh rfl ?_)))))))
 obtain ⟨fit_25, hfit_25, h⟩ := bd_some h
 refine E_callW (windlassref07_fits_ev  hfit_25) rfl ⟨(.refl _), (.refl _), (.refl _), (.refl _), trivial⟩ (blwL_of ⟨(Graph.enc.blw _ 0), rfl, rfl, rfl, trivial⟩) rfl (E_gh rfl (E_pt rfl rfl (E_pf rfl rfl (E_mv (v' := .bool fit_25) rfl (E_nil ?_)))))
 exact E_jx _ h (wk_aw ⟨(.refl _), trivial⟩)
 }
 {
 rw [ite_f hb] at h
 refine E_gm rfl (E_gm rfl (E_gm rfl (E_gm rfl (E_gh rfl (E_pf rfl rfl (E_pf rfl rfl (E_mv (v' := .bool false) rfl (E_nil ?_))))))))
 exact E_jx _ h (wk_aw ⟨(.refl _), trivial⟩)
 }
 }
 {
 rw [ite_t hb] at h
 refine E_gm rfl (E_gm rfl (E_gm rfl (E_gm rfl (E_gm rfl (E_gz rfl (E_gz rfl (E_gz rfl (E_gz rfl (E_gz rfl (E_gm rfl (E_pt rfl rfl (E_mv (v' := .bool true) rfl (E_nil ?_)))))))))))))
 exact E_jx _ h (wk_aw ⟨(.refl _), trivial⟩)
 }
 }
 {
 rw [ite_f hb] at h
 refine E_gm rfl (E_gm rfl (E_gm rfl (E_gm rfl (E_pf rfl rfl (E_mv (v' := .bool false) rfl (E_gh rfl (E_op0 (v' := (Graph.av s_2.2.1)) rfl rfl (E_gh rfl (E_mv (v' := .bool s_2.1) rfl (E_gh rfl (E_op0 (v' := (.cptr (Node.av s_2.2.2.1).cells 2)) rfl rfl (E_gh rfl (E_op0 (v' := .int .i64 s_2.2.2.1.D) rfl rfl (E_gh rfl ?_))))))))))))))
 obtain ⟨fit_26, hfit_26, h⟩ := bd_some h
 refine E_callW (windlassref07_fits_ev  hfit_26) rfl ⟨(.refl _), (.refl _), (.refl _), (.refl _), trivial⟩ (blwL_of ⟨(Graph.enc.blw _ 0), rfl, rfl, rfl, trivial⟩) rfl (E_gh rfl (E_mv (v' := .bool fit_26) rfl ?_))
 refine E_gsT (b := fit_26) rfl rfl rfl (fun hb => ?_) (fun hb => ?_)
 {
 rw [ite_t hb] at h
 refine E_op0 (v' := (Graph.av s_2.2.1)) rfl rfl (E_gh rfl (E_mv (v' := .bool s_2.1) rfl (E_gh rfl (E_op0 (v' := (.cptr (Node.av s_2.2.2.1).cells 4)) rfl rfl (E_gh rfl (E_op0 (v' := .int .i64 s_2.2.2.1.A) rfl rfl (E_gh rfl ?_)))))))
 obtain ⟨fit_27, hfit_27, h⟩ := bd_some h
 refine E_callW (windlassref07_fits_ev  hfit_27) rfl ⟨(.refl _), (.refl _), (.refl _), (.refl _), trivial⟩ (blwL_of ⟨(Graph.enc.blw _ 0), rfl, rfl, rfl, trivial⟩) rfl (E_gh rfl (E_pt rfl rfl (E_pf rfl rfl (E_mv (v' := .bool fit_27) rfl (E_nil ?_)))))
 exact E_jx _ h (wk_aw ⟨(.refl _), trivial⟩)
 }
 {
 rw [ite_f hb] at h
 refine E_gm rfl (E_gm rfl (E_gm rfl (E_gm rfl (E_gh rfl (E_pf rfl rfl (E_pf rfl rfl (E_mv (v' := .bool false) rfl (E_nil ?_))))))))
 exact E_jx _ h (wk_aw ⟨(.refl _), trivial⟩)
 }
 }
 }
 {
 refine E_ret (E_blr (E_thr ?_))
 cases h
 exact ⟨trivial, _, rfl, (fz_b rfl (.refl _))⟩
 }
 }
 {
 rw [ite_f hb] at h
 refine E_sq (E_reg (E_op0 (v' := .bool (s_2.2.2.1.Op == 3)) rfl rfl (E_mv (v' := .bool (s_2.2.2.1.Op == 3)) rfl (E_nil (E_nx ?_)))))
 refine E_cs (t := (s_2.2.2.1.Op == 3)) rfl (fun hb => ?_) (fun hb => ?_)
 {
 rw [ite_t hb] at h
 refine E_jp h (fun s_29 => [(8, (.bool s_29))]) (fun s_29 => []) (fun k_28 h => ?_) (fun s_29 h => ?_)
 {
 refine E_reg (E_op0 (v' := (.cptr (Node.av s_2.2.2.1).cells 1)) rfl rfl (E_op0 (v' := .int .u8 s_2.2.2.1.By) rfl rfl (E_op0 (v' := (.bool (decide (s_2.2.2.1.By ≥ 7)))) rfl rfl (E_mv (v' := (.bool (decide (s_2.2.2.1.By ≥ 7)))) rfl ?_))))
 refine E_gsT (b := (decide (s_2.2.2.1.By ≥ 7))) rfl rfl rfl (fun hb => ?_) (fun hb => ?_)
 {
 rw [ite_t hb] at h
 refine E_op0 (v' := (.cptr (Node.av s_2.2.2.1).cells 1)) rfl rfl (E_gh rfl (E_op0 (v' := .int .u8 s_2.2.2.1.By) rfl rfl (E_gh rfl (E_op0 (v' := (.bool (decide (s_2.2.2.1.By ≤ 20)))) rfl rfl (E_pt rfl rfl (E_mv (v' := (.bool (decide (s_2.2.2.1.By ≤ 20)))) rfl (E_nil ?_)))))))
 exact E_jx _ h (wk_aw ⟨(.refl _), trivial⟩)
 }
 {
 rw [ite_f hb] at h
 refine E_gm rfl (E_gm rfl (E_pf rfl rfl (E_mv (v' := .bool false) rfl (E_nil ?_))))
 exact E_jx _ h (wk_aw ⟨(.refl _), trivial⟩)
 }
 }
 {
 refine E_ret (E_blr (E_thr ?_))
 cases h
 exact ⟨trivial, _, rfl, (fz_b rfl (.refl _))⟩
 }
 }
 {
 rw [ite_f hb] at h
 refine E_as (E_sq (E_reg (E_op0 (v' := .bool (s_2.2.2.1.Op == 4)) rfl rfl (E_mv (v' := .bool (s_2.2.2.1.Op == 4)) rfl (E_nil (E_nx ?_))))))
 refine E_jp h (fun s_31 => [(0, (.sl false 8 (List.map Graph.av all_00))), (2, (.bool s_2.1)), (5, (.cptr (Graph.av s_2.2.1).cells 0)), (7, (.cptr (Node.av s_2.2.2.1).cells 0)), (81, (.int .u8 s_2.2.2.1.Op)), (120, (.bool s_31))]) (fun s_31 => []) (fun k_30 h => ?_) (fun s_31 h => ?_)
 {
 refine E_cs (t := (s_2.2.2.1.Op == 4)) rfl (fun hb => ?_) (fun hb => ?_)
 {
 rw [ite_t hb] at h
 refine E_skip ?_
 exact E_jx _ h (wk_aw ⟨(.refl _), (.refl _), (.refl _), (.refl _), (.refl _), (.refl _), trivial⟩)
 }
 {
 rw [ite_f hb] at h
 refine E_sq (E_reg (E_op0 (v' := .bool (s_2.2.2.1.Op == 5)) rfl rfl (E_mv (v' := .bool (s_2.2.2.1.Op == 5)) rfl (E_nil (E_nx ?_)))))
 refine E_cs (t := (s_2.2.2.1.Op == 5)) rfl (fun hb => ?_) (fun hb => ?_)
 {
 rw [ite_t hb] at h
 refine E_skip ?_
 exact E_jx _ h (wk_aw ⟨(.refl _), (.refl _), (.refl _), (.refl _), (.refl _), (.refl _), trivial⟩)
 }
 {
 rw [ite_f hb] at h
 refine E_reg (E_op0 (v' := .bool (s_2.2.2.1.Op == 6)) rfl rfl (E_mv (v' := .bool (s_2.2.2.1.Op == 6)) rfl (E_nil ?_)))
 exact E_jx _ h (wk_aw ⟨(.refl _), (.refl _), (.refl _), (.refl _), (.refl _), (.refl _), trivial⟩)
 }
 }
 }
 {
 refine E_cs (t := s_31) rfl (fun hb => ?_) (fun hb => ?_)
 {
 rw [ite_t hb] at h
 refine E_jp h (fun s_33 => [(8, (.bool s_33))]) (fun s_33 => []) (fun k_32 h => ?_) (fun s_33 h => ?_)
 {
 refine E_reg (E_op0 (v' := (.cptr (Node.av s_2.2.2.1).cells 7)) rfl rfl (E_op0 (v' := .int .i64 s_2.2.2.1.Cell) rfl rfl (E_op0 (v' := (.bool (decide (s_2.2.2.1.Cell ≥ 0)))) rfl rfl (E_mv (v' := (.bool (decide (s_2.2.2.1.Cell ≥ 0)))) rfl ?_))))
 refine E_gsT (b := (decide (s_2.2.2.1.Cell ≥ 0))) rfl rfl rfl (fun hb => ?_) (fun hb => ?_)
 {
 rw [ite_t hb] at h
 refine E_op0 (v' := (.cptr (Node.av s_2.2.2.1).cells 7)) rfl rfl (E_gh rfl (E_op0 (v' := .int .i64 s_2.2.2.1.Cell) rfl rfl (E_gh rfl (E_op0 (v' := (.cptr (Graph.av s_2.2.1).cells 2)) rfl rfl (E_gh rfl (E_op0 (v' := .int .i64 s_2.2.1.Cells) rfl rfl (E_gh rfl (E_op0 (v' := (.bool (decide (s_2.2.2.1.Cell < s_2.2.1.Cells)))) rfl rfl (E_pt rfl rfl (E_mv (v' := (.bool (decide (s_2.2.2.1.Cell < s_2.2.1.Cells)))) rfl (E_nil ?_)))))))))))
 exact E_jx _ h (wk_aw ⟨(.refl _), trivial⟩)
 }
 {
 rw [ite_f hb] at h
 refine E_gm rfl (E_gm rfl (E_gm rfl (E_gm rfl (E_pf rfl rfl (E_mv (v' := .bool false) rfl (E_nil ?_))))))
 exact E_jx _ h (wk_aw ⟨(.refl _), trivial⟩)
 }
 }
 {
 refine E_ret (E_blr (E_thr ?_))
 cases h
 exact ⟨trivial, _, rfl, (fz_b rfl (.refl _))⟩
 }
 }
 {
 rw [ite_f hb] at h
 refine E_sq (E_reg (E_op0 (v' := .bool (s_2.2.2.1.Op == 15)) rfl rfl (E_mv (v' := .bool (s_2.2.2.1.Op == 15)) rfl (E_nil (E_nx ?_)))))
 refine E_cs (t := (s_2.2.2.1.Op == 15)) rfl (fun hb => ?_) (fun hb => ?_)
 {
 rw [ite_t hb] at h
 refine E_sq (E_reg (E_op0 (v' := (.cptr (Node.av s_2.2.2.1).cells 2)) rfl rfl (E_op0 (v' := .int .i64 s_2.2.2.1.D) rfl rfl (E_op0 (v' := (.cptr (Node.av s_2.2.2.1).cells 3)) rfl rfl (E_op0 (v' := .int .i64 s_2.2.2.1.E) rfl rfl (E_op0 (v' := .bool (s_2.2.2.1.D != s_2.2.2.1.E)) rfl rfl (E_mv (v' := .bool (s_2.2.2.1.D != s_2.2.2.1.E)) rfl (E_nil (E_nx (E_ret (E_blr (E_thr ?_))))))))))))
 cases h
 exact ⟨trivial, _, rfl, (fz_b rfl (.refl _))⟩
 }
 {
 rw [ite_f hb] at h
 refine E_sq (E_reg (E_op0 (v' := .bool (s_2.2.2.1.Op == 12)) rfl rfl (E_mv (v' := .bool (s_2.2.2.1.Op == 12)) rfl (E_nil (E_nx ?_)))))
 refine E_cs (t := (s_2.2.2.1.Op == 12)) rfl (fun hb => ?_) (fun hb => ?_)
 {
 rw [ite_t hb] at h
 refine E_as (E_sq (E_reg (E_op0 (v' := (.cptr (Node.av s_2.2.2.1).cells 4)) rfl rfl (E_op0 (v' := .int .i64 s_2.2.2.1.A) rfl rfl (E_op0 (v' := (.bool (s_2.2.2.1.A == (-1)))) rfl rfl (E_nil (E_nx (E_sq ?_))))))))
 refine E_cs (t := (s_2.2.2.1.A == (-1))) rfl (fun hb => ?_) (fun hb => ?_)
 {
 rw [ite_t hb] at h
 refine E_sq (E_reg (E_op0 (v' := (.cptr (Graph.av s_2.2.1).cells 4)) rfl rfl (E_op0 (v' := .bool s_2.2.1.Result) rfl rfl (E_op0 (v' := .bool (!s_2.2.1.Result)) rfl rfl (E_mv (v' := .bool (!s_2.2.1.Result)) rfl (E_nil (E_nx (E_ret (E_thr (E_blr (E_thr ?_)))))))))))
 cases h
 exact ⟨trivial, _, rfl, (fz_b rfl (.refl _))⟩
 }
 {
 rw [ite_f hb] at h
 refine E_skip (E_nx ?_)
 refine E_jp h (fun s_35 => [(8, (.bool s_35))]) (fun s_35 => []) (fun k_34 h => ?_) (fun s_35 h => ?_)
 {
 refine E_reg (E_op0 (v' := (.cptr (Graph.av s_2.2.1).cells 4)) rfl rfl (E_op0 (v' := .bool s_2.2.1.Result) rfl rfl (E_mv (v' := .bool s_2.2.1.Result) rfl ?_)))
 refine E_gsT (b := s_2.2.1.Result) rfl rfl rfl (fun hb => ?_) (fun hb => ?_)
 {
 rw [ite_t hb] at h
 refine E_op0 (v' := (Graph.av s_2.2.1)) rfl rfl (E_gh rfl (E_mv (v' := .bool s_2.1) rfl (E_gh rfl (E_op0 (v' := (.cptr (Node.av s_2.2.2.1).cells 4)) rfl rfl (E_gh rfl (E_op0 (v' := .int .i64 s_2.2.2.1.A) rfl rfl (E_gh rfl ?_)))))))
 obtain ⟨fit_36, hfit_36, h⟩ := bd_some h
 refine E_callW (windlassref07_fits_ev  hfit_36) rfl ⟨(.refl _), (.refl _), (.refl _), (.refl _), trivial⟩ (blwL_of ⟨(Graph.enc.blw _ 0), rfl, rfl, rfl, trivial⟩) rfl (E_pt rfl rfl (E_mv (v' := .bool fit_36) rfl (E_nil ?_)))
 exact E_jx _ h (wk_aw ⟨(.refl _), trivial⟩)
 }
 {
 rw [ite_f hb] at h
 refine E_gm rfl (E_gm rfl (E_gm rfl (E_gm rfl (E_pf rfl rfl (E_mv (v' := .bool false) rfl (E_nil ?_))))))
 exact E_jx _ h (wk_aw ⟨(.refl _), trivial⟩)
 }
 }
 {
 refine E_ret (E_blr (E_thr ?_))
 cases h
 exact ⟨trivial, _, rfl, (fz_b rfl (.refl _))⟩
 }
 }
 }
 {
 rw [ite_f hb] at h
 refine E_as (E_sq (E_reg (E_op0 (v' := .bool (s_2.2.2.1.Op == 11)) rfl rfl (E_mv (v' := .bool (s_2.2.2.1.Op == 11)) rfl (E_nil (E_nx ?_))))))
 refine E_jp h (fun s_38 => [(0, (.sl false 8 (List.map Graph.av all_00))), (2, (.bool s_2.1)), (5, (.cptr (Graph.av s_2.2.1).cells 0)), (7, (.cptr (Node.av s_2.2.2.1).cells 0)), (158, (.bool s_38))]) (fun s_38 => []) (fun k_37 h => ?_) (fun s_38 h => ?_)
 {
 refine E_cs (t := (s_2.2.2.1.Op == 11)) rfl (fun hb => ?_) (fun hb => ?_)
 {
 rw [ite_t hb] at h
 refine E_skip ?_
 exact E_jx _ h (wk_aw ⟨(.refl _), (.refl _), (.refl _), (.refl _), (.refl _), trivial⟩)
 }
 {
 rw [ite_f hb] at h
 refine E_reg (E_op0 (v' := .bool (s_2.2.2.1.Op == 13)) rfl rfl (E_mv (v' := .bool (s_2.2.2.1.Op == 13)) rfl (E_nil ?_)))
 exact E_jx _ h (wk_aw ⟨(.refl _), (.refl _), (.refl _), (.refl _), (.refl _), trivial⟩)
 }
 }
 {
 refine E_cs (t := s_38) rfl (fun hb => ?_) (fun hb => ?_)
 {
 rw [ite_t hb] at h
 refine E_as ?_
 refine E_jp h (fun s_40 => [(0, (.sl false 8 (List.map Graph.av all_00))), (2, (.bool s_2.1)), (5, (.cptr (Graph.av s_2.2.1).cells 0)), (7, (.cptr (Node.av s_2.2.2.1).cells 0)), (183, (.bool s_40))]) (fun s_40 => []) (fun k_39 h => ?_) (fun s_40 h => ?_)
 {
 refine E_reg (E_op0 (v' := (.cptr (Node.av s_2.2.2.1).cells 6)) rfl rfl (E_op0 (v' := .int .i64 s_2.2.2.1.F) rfl rfl (E_op0 (v' := (.bool (decide (s_2.2.2.1.F < 0)))) rfl rfl (E_mv (v' := (.bool (decide (s_2.2.2.1.F < 0)))) rfl ?_))))
 refine E_gsT (b := (decide (s_2.2.2.1.F < 0))) rfl rfl rfl (fun hb => ?_) (fun hb => ?_)
 {
 rw [ite_f hb] at h
 refine E_op0 (v' := (.cptr (Node.av s_2.2.2.1).cells 6)) rfl rfl (E_gh rfl (E_op0 (v' := .int .i64 s_2.2.2.1.F) rfl rfl (E_gh rfl (E_mv (v' := .sl false 8 (List.map Graph.av all_00)) rfl (E_gh rfl (E_len rfl (E_gh rfl (E_op0 (v' := (.bool (decide (s_2.2.2.1.F ≥ (List.length all_00 : Int))))) rfl rfl (E_pf rfl rfl (E_mv (v' := (.bool (decide (s_2.2.2.1.F ≥ (List.length all_00 : Int))))) rfl ?_))))))))))
 refine E_gsT (b := (decide (s_2.2.2.1.F ≥ (List.length all_00 : Int)))) rfl rfl rfl (fun hb => ?_) (fun hb => ?_)
 {
 rw [ite_f hb] at h
 refine E_op0 (v' := (.cptr (Node.av s_2.2.2.1).cells 9)) rfl rfl (E_gh rfl (E_op0 (v' := (.sl false 1 (List.map (avI .i64) s_2.2.2.1.Args))) rfl rfl (E_gh rfl (E_len rfl (E_gh rfl (E_mv (v' := .sl false 8 (List.map Graph.av all_00)) rfl (E_gh rfl (E_op0 (v' := (.cptr (Node.av s_2.2.2.1).cells 6)) rfl rfl (E_gh rfl (E_op0 (v' := .int .i64 s_2.2.2.1.F) rfl rfl (E_gh rfl ?_)))))))))))
 obtain ⟨y_41, hy_41, h⟩ := bd_some h
 refine E_iadF rfl rfl hy_41 (E_gh rfl (E_op0 (v' := (.cptr (Graph.av y_41).cells 0)) rfl rfl (E_gh rfl (E_op0 (v' := (.sl false 1 (List.map (avI .i64) y_41.Params))) rfl rfl (E_gh rfl (E_len rfl (E_gh rfl (E_op0 (v' := (.bool ((List.length s_2.2.2.1.Args : Int) != (List.length y_41.Params : Int)))) rfl rfl (E_pf rfl rfl (E_nil ?_))))))))))
 exact E_jx _ h (wk_aw ⟨(.refl _), (.refl _), (.refl _), (.refl _), (.refl _), trivial⟩)
 }
 {
 rw [ite_t hb] at h
 refine E_gm rfl (E_gm rfl (E_gm rfl (E_gm rfl (E_gm rfl (E_gm rfl (E_gm rfl (E_gm rfl (E_gm rfl (E_gm rfl (E_pt rfl rfl (E_nil ?_)))))))))))
 exact E_jx _ h (wk_aw ⟨(.refl _), (.refl _), (.refl _), (.refl _), (.refl _), trivial⟩)
 }
 }
 {
 rw [ite_t hb] at h
 refine E_gm rfl (E_gm rfl (E_gm rfl (E_gm rfl (E_pt rfl rfl (E_mv (v' := .bool true) rfl (E_gm rfl (E_gm rfl (E_gm rfl (E_gm rfl (E_gm rfl (E_gm rfl (E_gm rfl (E_gm rfl (E_gm rfl (E_gm rfl ?_)))))))))))))))
 refine E_gm rfl (E_pt rfl rfl (E_nil ?_))
 exact E_jx _ h (wk_aw ⟨(.refl _), (.refl _), (.refl _), (.refl _), (.refl _), trivial⟩)
 }
 }
 {
 refine E_sq ?_
 refine E_cs (t := s_40) rfl (fun hb => ?_) (fun hb => ?_)
 {
 rw [ite_t hb] at h
 refine E_sq (E_reg (E_mv (v' := .bool false) rfl (E_nil (E_nx (E_ret (E_thr (E_blr (E_thr ?_))))))))
 cases h
 exact ⟨trivial, _, rfl, (fz_b rfl (.refl _))⟩
 }
 {
 rw [ite_f hb] at h
 refine E_skip (E_nx (E_sq (E_reg (E_mv (v' := .sl false 8 (List.map Graph.av all_00)) rfl (E_op0 (v' := (.cptr (Node.av s_2.2.2.1).cells 6)) rfl rfl (E_op0 (v' := .int .i64 s_2.2.2.1.F) rfl rfl ?_))))))
 obtain ⟨y_42, hy_42, h⟩ := bd_some h
 refine E_iadF rfl rfl hy_42 (E_op0 (v' := (Graph.av y_42)) rfl rfl (E_op (v' := .ptr 0 0 0) (S' := [.arr 0 [.nils, .nils, (.int .i64 0), .nils, (.bool false), (.int .i64 0), .nils, (.int .i64 0)]]) rfl rfl rfl (E_do (S' := [.arr 0 [(.sl false 1 (List.map (avI .i64) y_42.Params)), (.sl false 1 (List.map (avI .u8) y_42.Kinds)), (.int .i64 y_42.Cells), (.sl false 1 (List.map (avI .i64) y_42.Init)), (.bool y_42.Result), (.int .i64 y_42.Keep), (.sl false 12 (List.map Node.av y_42.Nodes)), (.int .i64 y_42.Entry)]]) rfl rfl (E_nil (E_nx (E_as (E_sq (E_reg (E_op0 (v' := (.cptr (Node.av s_2.2.2.1).cells 9)) rfl rfl (E_op0 (v' := (.sl false 1 (List.map (avI .i64) s_2.2.2.1.Args))) rfl rfl (E_len rfl (E_mv (v' := .int .i64 0) rfl (E_nil (E_nx (E_sq ?_)))))))))))))))
 refine E_rngO (fun s_43 => [(2, (.bool s_2.1)), (5, (.cptr (Graph.av s_2.2.1).cells 0)), (7, (.cptr (Node.av s_2.2.2.1).cells 0)), (15, (.ptr 0 0 0)), (190, (.sl false 1 (List.map (avI .i64) s_2.2.2.1.Args)))]) (fun s_43 => [.arr 0 [(.sl false 1 (List.map (avI .i64) y_42.Params)), (.sl false 1 (List.map (avI .u8) y_42.Kinds)), (.int .i64 y_42.Cells), (.sl false 1 (List.map (avI .i64) y_42.Init)), (.bool y_42.Result), (.int .i64 y_42.Keep), (.sl false 12 (List.map Node.av y_42.Nodes)), (.int .i64 y_42.Entry)]]) h (by decide) (by decide) (fun _ => ⟨rfl, rfl, rfl, rfl⟩) (wk_rn [some (0, 0)] rfl (Nat.le_of_ble_eq_true rfl) ⟨(rn_ob rfl rfl (.cons (rn_b ((encI .i64).blws 0)) (.cons (rn_b ((encI .u8).blws 0)) (.cons (rn_b rfl) (.cons (rn_b ((encI .i64).blws 0)) (.cons (rn_b rfl) (.cons (rn_b rfl) (.cons (rn_b (Node.enc.blws 0)) (.cons (rn_b rfl) (.nil (Nat.zero_le _)))))))))) rfl), trivial⟩ ⟨(rn_b rfl), (rn_b rfl), (rn_b rfl), (rn_b (cp_blw (Graph.enc.blw _ 0))), (rn_b (cp_blw (Node.enc.blw _ 0))), (rn_ptr rfl rfl rfl rfl), (rn_b ((encI .i64).blws 0)), trivial⟩) (fun i_44 p_45 s_43 c hx_46 hlt h => ?_) (fun s_43 fr' S' h hw => ?_)
 {
 refine E_sq (E_reg (E_mv (v' := .int .i64 (i_44 : Int)) rfl (E_iadF rfl rfl (getI_of hx_46) (E_op0 (v' := .int .i64 p_45) rfl rfl (E_mv (v' := .int .i64 (i_44 : Int)) rfl (E_mv (v' := .int .i64 p_45) rfl (E_nil (E_nx ?_))))))))
 refine E_jp h (fun s_48 => [(2, (.bool s_2.1)), (5, (.cptr (Graph.av s_2.2.1).cells 0)), (7, (.cptr (Node.av s_2.2.2.1).cells 0)), (15, (.ptr 0 0 0)), (190, (.sl false 1 (List.map (avI .i64) s_2.2.2.1.Args))), (191, (.int .i64 (List.length s_2.2.2.1.Args : Int))), (192, (.int .i64 (i_44 : Int))), (221, (.bool s_48))]) (fun s_48 => [.arr 0 [(.sl false 1 (List.map (avI .i64) y_42.Params)), (.sl false 1 (List.map (avI .u8) y_42.Kinds)), (.int .i64 y_42.Cells), (.sl false 1 (List.map (avI .i64) y_42.Init)), (.bool y_42.Result), (.int .i64 y_42.Keep), (.sl false 12 (List.map Node.av y_42.Nodes)), (.int .i64 y_42.Entry)]]) (fun k_47 h => ?_) (fun s_48 h => ?_)
 {
 refine E_reg (E_mv (v' := .bool s_2.1) rfl (E_mv (v' := .bool s_2.1) rfl ?_))
 refine E_gsT (b := s_2.1) rfl rfl rfl (fun hb => ?_) (fun hb => ?_)
 {
 rw [ite_t hb] at h
 refine E_mv (v' := .int .i64 p_45) rfl (E_gh rfl (E_mv (v' := .int .i64 (i_44 : Int)) rfl (E_gh rfl (E_op0 (v' := (.bool (p_45 != (i_44 : Int)))) rfl rfl (E_pt rfl rfl (E_mv (v' := (.bool (p_45 != (i_44 : Int)))) rfl ?_))))))
 refine E_gsT (b := (p_45 != (i_44 : Int))) rfl rfl rfl (fun hb => ?_) (fun hb => ?_)
 {
 rw [ite_f hb] at h
 refine E_mv (v' := .bool s_2.1) rfl (E_gh rfl (E_op0 (v' := .bool (!s_2.1)) rfl rfl (E_gh rfl (E_mv (v' := .bool (!s_2.1)) rfl ?_))))
 refine E_gsT (b := (!s_2.1)) rfl rfl rfl (fun hb => ?_) (fun hb => ?_)
 {
 rw [ite_t hb] at h
 refine E_op0 (v' := (Graph.av s_2.2.1)) rfl rfl (E_gh rfl (E_mv (v' := .int .i64 p_45) rfl (E_gh rfl (E_op0 (v' := .ptr 0 0 1) rfl rfl (E_gh rfl (E_op (v' := (.sl false 1 (List.map (avI .u8) y_42.Kinds))) (S' := [.arr 0 [(.sl false 1 (List.map (avI .i64) y_42.Params)), (.sl false 1 (List.map (avI .u8) y_42.Kinds)), (.int .i64 y_42.Cells), (.sl false 1 (List.map (avI .i64) y_42.Init)), (.bool y_42.Result), (.int .i64 y_42.Keep), (.sl false 12 (List.map Node.av y_42.Nodes)), (.int .i64 y_42.Entry)]]) rfl rfl rfl (E_gh rfl (E_op0 (v' := .ptr 0 0 0) rfl rfl (E_gh rfl (E_op (v' := (.sl false 1 (List.map (avI .i64) y_42.Params))) (S' := [.arr 0 [(.sl false 1 (List.map (avI .i64) y_42.Params)), (.sl false 1 (List.map (avI .u8) y_42.Kinds)), (.int .i64 y_42.Cells), (.sl false 1 (List.map (avI .i64) y_42.Init)), (.bool y_42.Result), (.int .i64 y_42.Keep), (.sl false 12 (List.map Node.av y_42.Nodes)), (.int .i64 y_42.Entry)]]) rfl rfl rfl (E_gh rfl (E_mv (v' := .int .i64 (i_44 : Int)) rfl (E_gh rfl ?_)))))))))))))
 obtain ⟨y_49, hy_49, h⟩ := bd_some h
 refine E_iadF rfl rfl hy_49 (E_gh rfl (E_op0 (v' := .int .i64 y_49) rfl rfl (E_gh rfl ?_)))
 obtain ⟨y_50, hy_50, h⟩ := bd_some h
 refine E_iadF rfl rfl hy_50 (E_gh rfl (E_op0 (v' := .int .u8 y_50) rfl rfl (E_gh rfl ?_)))
 obtain ⟨fit_51, hfit_51, h⟩ := bd_some h
 refine E_callW (windlassref07_fits_ev  hfit_51) rfl ⟨(.refl _), (.refl _), (.refl _), (.refl _), trivial⟩ (blwL_of ⟨(Graph.enc.blw _ 0), rfl, rfl, rfl, trivial⟩) rfl (E_gh rfl (E_op0 (v' := .bool (!fit_51)) rfl rfl (E_gh rfl (E_pt rfl rfl (E_pf rfl rfl (E_nil ?_))))))
 exact E_jx _ h (wk_rn [some (0, 0)] rfl (Nat.le_of_ble_eq_true rfl) ⟨(rn_ob rfl rfl (.cons (rn_b ((encI .i64).blws 0)) (.cons (rn_b ((encI .u8).blws 0)) (.cons (rn_b rfl) (.cons (rn_b ((encI .i64).blws 0)) (.cons (rn_b rfl) (.cons (rn_b rfl) (.cons (rn_b (Node.enc.blws 0)) (.cons (rn_b rfl) (.nil (Nat.zero_le _)))))))))) rfl), trivial⟩ ⟨(rn_b rfl), (rn_b (cp_blw (Graph.enc.blw _ 0))), (rn_b (cp_blw (Node.enc.blw _ 0))), (rn_ptr rfl rfl rfl rfl), (rn_b ((encI .i64).blws 0)), (rn_b rfl), (rn_b rfl), (rn_b rfl), trivial⟩)
 }
 {
 rw [ite_f hb] at h
 refine E_gm rfl (E_gm rfl (E_gm rfl (E_gm rfl (E_gm rfl (E_gm rfl (E_gm rfl (E_gm rfl (E_gm rfl (E_gm rfl (E_gm rfl (E_gm rfl (E_gh rfl (E_pf rfl rfl (E_pf rfl rfl (E_nil ?_)))))))))))))))
 exact E_jx _ h (wk_rn [some (0, 0)] rfl (Nat.le_of_ble_eq_true rfl) ⟨(rn_ob rfl rfl (.cons (rn_b ((encI .i64).blws 0)) (.cons (rn_b ((encI .u8).blws 0)) (.cons (rn_b rfl) (.cons (rn_b ((encI .i64).blws 0)) (.cons (rn_b rfl) (.cons (rn_b rfl) (.cons (rn_b (Node.enc.blws 0)) (.cons (rn_b rfl) (.nil (Nat.zero_le _)))))))))) rfl), trivial⟩ ⟨(rn_b rfl), (rn_b (cp_blw (Graph.enc.blw _ 0))), (rn_b (cp_blw (Node.enc.blw _ 0))), (rn_ptr rfl rfl rfl rfl), (rn_b ((encI .i64).blws 0)), (rn_b rfl), (rn_b rfl), (rn_b rfl), trivial⟩)
 }
 }
 {
 rw [ite_t hb] at h
 refine E_gm rfl (E_gm rfl (E_gz rfl (E_gz rfl (E_gz rfl (E_gz rfl (E_gz rfl (E_gz rfl (E_gz rfl (E_gz rfl (E_gz rfl (E_gz rfl (E_gz rfl (E_gz rfl (E_gz rfl (E_gm rfl ?_)))))))))))))))
 refine E_pt rfl rfl (E_nil ?_)
 exact E_jx _ h (wk_rn [some (0, 0)] rfl (Nat.le_of_ble_eq_true rfl) ⟨(rn_ob rfl rfl (.cons (rn_b ((encI .i64).blws 0)) (.cons (rn_b ((encI .u8).blws 0)) (.cons (rn_b rfl) (.cons (rn_b ((encI .i64).blws 0)) (.cons (rn_b rfl) (.cons (rn_b rfl) (.cons (rn_b (Node.enc.blws 0)) (.cons (rn_b rfl) (.nil (Nat.zero_le _)))))))))) rfl), trivial⟩ ⟨(rn_b rfl), (rn_b (cp_blw (Graph.enc.blw _ 0))), (rn_b (cp_blw (Node.enc.blw _ 0))), (rn_ptr rfl rfl rfl rfl), (rn_b ((encI .i64).blws 0)), (rn_b rfl), (rn_b rfl), (rn_b rfl), trivial⟩)
 }
 }
 {
 rw [ite_f hb] at h
 refine E_gm rfl (E_gm rfl (E_pf rfl rfl (E_mv (v' := .bool false) rfl (E_gh rfl (E_mv (v' := .bool s_2.1) rfl (E_gh rfl (E_op0 (v' := .bool (!s_2.1)) rfl rfl (E_gh rfl (E_mv (v' := .bool (!s_2.1)) rfl ?_)))))))))
 refine E_gsT (b := (!s_2.1)) rfl rfl rfl (fun hb => ?_) (fun hb => ?_)
 {
 rw [ite_t hb] at h
 refine E_op0 (v' := (Graph.av s_2.2.1)) rfl rfl (E_gh rfl (E_mv (v' := .int .i64 p_45) rfl (E_gh rfl (E_op0 (v' := .ptr 0 0 1) rfl rfl (E_gh rfl (E_op (v' := (.sl false 1 (List.map (avI .u8) y_42.Kinds))) (S' := [.arr 0 [(.sl false 1 (List.map (avI .i64) y_42.Params)), (.sl false 1 (List.map (avI .u8) y_42.Kinds)), (.int .i64 y_42.Cells), (.sl false 1 (List.map (avI .i64) y_42.Init)), (.bool y_42.Result), (.int .i64 y_42.Keep), (.sl false 12 (List.map Node.av y_42.Nodes)), (.int .i64 y_42.Entry)]]) rfl rfl rfl (E_gh rfl (E_op0 (v' := .ptr 0 0 0) rfl rfl (E_gh rfl (E_op (v' := (.sl false 1 (List.map (avI .i64) y_42.Params))) (S' := [.arr 0 [(.sl false 1 (List.map (avI .i64) y_42.Params)), (.sl false 1 (List.map (avI .u8) y_42.Kinds)), (.int .i64 y_42.Cells), (.sl false 1 (List.map (avI .i64) y_42.Init)), (.bool y_42.Result), (.int .i64 y_42.Keep), (.sl false 12 (List.map Node.av y_42.Nodes)), (.int .i64 y_42.Entry)]]) rfl rfl rfl (E_gh rfl (E_mv (v' := .int .i64 (i_44 : Int)) rfl (E_gh rfl ?_)))))))))))))
 obtain ⟨y_52, hy_52, h⟩ := bd_some h
 refine E_iadF rfl rfl hy_52 (E_gh rfl (E_op0 (v' := .int .i64 y_52) rfl rfl (E_gh rfl ?_)))
 obtain ⟨y_53, hy_53, h⟩ := bd_some h
 refine E_iadF rfl rfl hy_53 (E_gh rfl (E_op0 (v' := .int .u8 y_53) rfl rfl (E_gh rfl ?_)))
 obtain ⟨fit_54, hfit_54, h⟩ := bd_some h
 refine E_callW (windlassref07_fits_ev  hfit_54) rfl ⟨(.refl _), (.refl _), (.refl _), (.refl _), trivial⟩ (blwL_of ⟨(Graph.enc.blw _ 0), rfl, rfl, rfl, trivial⟩) rfl (E_gh rfl (E_op0 (v' := .bool (!fit_54)) rfl rfl (E_gh rfl (E_pt rfl rfl (E_pf rfl rfl (E_nil ?_))))))
 exact E_jx _ h (wk_rn [some (0, 0)] rfl (Nat.le_of_ble_eq_true rfl) ⟨(rn_ob rfl rfl (.cons (rn_b ((encI .i64).blws 0)) (.cons (rn_b ((encI .u8).blws 0)) (.cons (rn_b rfl) (.cons (rn_b ((encI .i64).blws 0)) (.cons (rn_b rfl) (.cons (rn_b rfl) (.cons (rn_b (Node.enc.blws 0)) (.cons (rn_b rfl) (.nil (Nat.zero_le _)))))))))) rfl), trivial⟩ ⟨(rn_b rfl), (rn_b (cp_blw (Graph.enc.blw _ 0))), (rn_b (cp_blw (Node.enc.blw _ 0))), (rn_ptr rfl rfl rfl rfl), (rn_b ((encI .i64).blws 0)), (rn_b rfl), (rn_b rfl), (rn_b rfl), trivial⟩)
 }
 {
 rw [ite_f hb] at h
 refine E_gm rfl (E_gm rfl (E_gm rfl (E_gm rfl (E_gm rfl (E_gm rfl (E_gm rfl (E_gm rfl (E_gm rfl (E_gm rfl (E_gm rfl (E_gm rfl (E_gh rfl (E_pf rfl rfl (E_pf rfl rfl (E_nil ?_)))))))))))))))
 exact E_jx _ h (wk_rn [some (0, 0)] rfl (Nat.le_of_ble_eq_true rfl) ⟨(rn_ob rfl rfl (.cons (rn_b ((encI .i64).blws 0)) (.cons (rn_b ((encI .u8).blws 0)) (.cons (rn_b rfl) (.cons (rn_b ((encI .i64).blws 0)) (.cons (rn_b rfl) (.cons (rn_b rfl) (.cons (rn_b (Node.enc.blws 0)) (.cons (rn_b rfl) (.nil (Nat.zero_le _)))))))))) rfl), trivial⟩ ⟨(rn_b rfl), (rn_b (cp_blw (Graph.enc.blw _ 0))), (rn_b (cp_blw (Node.enc.blw _ 0))), (rn_ptr rfl rfl rfl rfl), (rn_b ((encI .i64).blws 0)), (rn_b rfl), (rn_b rfl), (rn_b rfl), trivial⟩)
 }
 }
 }
 {
 refine E_cs (t := s_48) rfl (fun hb => ?_) (fun hb => ?_)
 {
 rw [ite_t hb] at h
 refine E_sq (E_reg (E_mv (v' := .bool false) rfl (E_nil (E_nx (E_ret ?_)))))
 cases h
 refine L_rrO rfl (fun h => ?_)
 refine E_thr (E_blr (E_thr ?_))
 cases h
 exact ⟨trivial, _, rfl, (fz_b rfl (.refl _))⟩
 }
 {
 rw [ite_f hb] at h
 refine E_skip ?_
 cases h
 exact L_nn rfl (wk_rn [some (0, 0)] rfl (Nat.le_of_ble_eq_true rfl) ⟨(rn_ob rfl rfl (.cons (rn_b ((encI .i64).blws 0)) (.cons (rn_b ((encI .u8).blws 0)) (.cons (rn_b rfl) (.cons (rn_b ((encI .i64).blws 0)) (.cons (rn_b rfl) (.cons (rn_b rfl) (.cons (rn_b (Node.enc.blws 0)) (.cons (rn_b rfl) (.nil (Nat.zero_le _)))))))))) rfl), trivial⟩ ⟨(rn_b rfl), (rn_b rfl), (rn_b rfl), (rn_b (cp_blw (Graph.enc.blw _ 0))), (rn_b (cp_blw (Node.enc.blw _ 0))), (rn_ptr rfl rfl rfl rfl), (rn_b ((encI .i64).blws 0)), trivial⟩)
 }
 }
 }
 {
 refine X_nx hw ?_
 refine E_jp h (fun s_56 => [(2, (.bool s_2.1)), (5, (.cptr (Graph.av s_2.2.1).cells 0)), (7, (.cptr (Node.av s_2.2.2.1).cells 0)), (15, (.ptr 0 0 0)), (230, (.bool s_56))]) (fun s_56 => [.arr 0 [(.sl false 1 (List.map (avI .i64) y_42.Params)), (.sl false 1 (List.map (avI .u8) y_42.Kinds)), (.int .i64 y_42.Cells), (.sl false 1 (List.map (avI .i64) y_42.Init)), (.bool y_42.Result), (.int .i64 y_42.Keep), (.sl false 12 (List.map Node.av y_42.Nodes)), (.int .i64 y_42.Entry)]]) (fun k_55 h => ?_) (fun s_56 h => ?_)
 {
 refine E_reg (E_op0 (v' := (.cptr (Node.av s_2.2.2.1).cells 0)) rfl rfl (E_op0 (v' := .int .u8 s_2.2.2.1.Op) rfl rfl (E_op0 (v' := .bool (s_2.2.2.1.Op == 11)) rfl rfl (E_mv (v' := .bool (s_2.2.2.1.Op == 11)) rfl ?_))))
 refine E_gsT (b := (s_2.2.2.1.Op == 11)) rfl rfl rfl (fun hb => ?_) (fun hb => ?_)
 {
 rw [ite_t hb] at h
 refine E_op0 (v' := (.cptr (Node.av s_2.2.2.1).cells 2)) rfl rfl (E_gh rfl (E_op0 (v' := .int .i64 s_2.2.2.1.D) rfl rfl (E_gh rfl (E_op0 (v' := (.bool (s_2.2.2.1.D != (-1)))) rfl rfl (E_pt rfl rfl (E_nil ?_))))))
 exact E_jx _ h (wk_rn [some (0, 0)] rfl (Nat.le_of_ble_eq_true rfl) ⟨(rn_ob rfl rfl (.cons (rn_b ((encI .i64).blws 0)) (.cons (rn_b ((encI .u8).blws 0)) (.cons (rn_b rfl) (.cons (rn_b ((encI .i64).blws 0)) (.cons (rn_b rfl) (.cons (rn_b rfl) (.cons (rn_b (Node.enc.blws 0)) (.cons (rn_b rfl) (.nil (Nat.zero_le _)))))))))) rfl), trivial⟩ ⟨(rn_b rfl), (rn_b (cp_blw (Graph.enc.blw _ 0))), (rn_b (cp_blw (Node.enc.blw _ 0))), (rn_ptr rfl rfl rfl rfl), (rn_b rfl), trivial⟩)
 }
 {
 rw [ite_f hb] at h
 refine E_gm rfl (E_gm rfl (E_pf rfl rfl (E_nil ?_)))
 exact E_jx _ h (wk_rn [some (0, 0)] rfl (Nat.le_of_ble_eq_true rfl) ⟨(rn_ob rfl rfl (.cons (rn_b ((encI .i64).blws 0)) (.cons (rn_b ((encI .u8).blws 0)) (.cons (rn_b rfl) (.cons (rn_b ((encI .i64).blws 0)) (.cons (rn_b rfl) (.cons (rn_b rfl) (.cons (rn_b (Node.enc.blws 0)) (.cons (rn_b rfl) (.nil (Nat.zero_le _)))))))))) rfl), trivial⟩ ⟨(rn_b rfl), (rn_b (cp_blw (Graph.enc.blw _ 0))), (rn_b (cp_blw (Node.enc.blw _ 0))), (rn_ptr rfl rfl rfl rfl), (rn_b rfl), trivial⟩)
 }
 }
 {
 refine E_cs (t := s_56) rfl (fun hb => ?_) (fun hb => ?_)
 {
 rw [ite_t hb] at h
 refine E_jp h (fun s_58 => [(8, (.bool s_58))]) (fun s_58 => []) (fun k_57 h => ?_) (fun s_58 h => ?_)
 {
 refine E_reg (E_op0 (v' := .ptr 0 0 4) rfl rfl (E_op (v' := .bool y_42.Result) (S' := [.arr 0 [(.sl false 1 (List.map (avI .i64) y_42.Params)), (.sl false 1 (List.map (avI .u8) y_42.Kinds)), (.int .i64 y_42.Cells), (.sl false 1 (List.map (avI .i64) y_42.Init)), (.bool y_42.Result), (.int .i64 y_42.Keep), (.sl false 12 (List.map Node.av y_42.Nodes)), (.int .i64 y_42.Entry)]]) rfl rfl rfl (E_mv (v' := .bool y_42.Result) rfl ?_)))
 refine E_gsT (b := y_42.Result) rfl rfl rfl (fun hb => ?_) (fun hb => ?_)
 {
 rw [ite_t hb] at h
 refine E_op0 (v' := (Graph.av s_2.2.1)) rfl rfl (E_gh rfl (E_mv (v' := .bool s_2.1) rfl (E_gh rfl (E_op0 (v' := (.cptr (Node.av s_2.2.2.1).cells 2)) rfl rfl (E_gh rfl (E_op0 (v' := .int .i64 s_2.2.2.1.D) rfl rfl (E_gh rfl ?_)))))))
 obtain ⟨fit_59, hfit_59, h⟩ := bd_some h
 refine E_callW (windlassref07_fits_ev  hfit_59) rfl ⟨(.refl _), (.refl _), (.refl _), (.refl _), trivial⟩ (blwL_of ⟨(Graph.enc.blw _ 0), rfl, rfl, rfl, trivial⟩) rfl (E_pt rfl rfl (E_mv (v' := .bool fit_59) rfl ?_))
 refine E_gsT (b := fit_59) rfl rfl rfl (fun hb => ?_) (fun hb => ?_)
 {
 rw [ite_t hb] at h
 refine E_mv (v' := .bool s_2.1) rfl (E_gh rfl (E_op0 (v' := .bool (!s_2.1)) rfl rfl (E_gh rfl (E_mv (v' := .bool (!s_2.1)) rfl ?_))))
 refine E_gsT (b := (!s_2.1)) rfl rfl rfl (fun hb => ?_) (fun hb => ?_)
 {
 rw [ite_f hb] at h
 refine E_op0 (v' := (.cptr (Node.av s_2.2.2.1).cells 2)) rfl rfl (E_gh rfl (E_op0 (v' := .int .i64 s_2.2.2.1.D) rfl rfl (E_gh rfl (E_op0 (v' := .bool (s_2.2.2.1.D == 0)) rfl rfl (E_gh rfl (E_pf rfl rfl (E_pt rfl rfl (E_mv (v' := .bool (s_2.2.2.1.D == 0)) rfl (E_nil ?_)))))))))
 exact E_jx _ h (wk_rn [] rfl (Nat.le_of_ble_eq_true rfl) trivial ⟨(rn_b rfl), trivial⟩)
 }
 {
 rw [ite_t hb] at h
 refine E_gm rfl (E_gm rfl (E_gh rfl (E_pt rfl rfl (E_pt rfl rfl (E_mv (v' := .bool true) rfl (E_nil ?_))))))
 exact E_jx _ h (wk_rn [] rfl (Nat.le_of_ble_eq_true rfl) trivial ⟨(rn_b rfl), trivial⟩)
 }
 }
 {
 rw [ite_f hb] at h
 refine E_gm rfl (E_gm rfl (E_gz rfl (E_gz rfl (E_gz rfl (E_gm rfl (E_pf rfl rfl (E_mv (v' := .bool false) rfl (E_nil ?_))))))))
 exact E_jx _ h (wk_rn [] rfl (Nat.le_of_ble_eq_true rfl) trivial ⟨(rn_b rfl), trivial⟩)
 }
 }
 {
 rw [ite_f hb] at h
 refine E_gm rfl (E_gm rfl (E_gm rfl (E_gm rfl (E_pf rfl rfl (E_mv (v' := .bool false) rfl (E_gm rfl (E_gm rfl (E_gm rfl (E_gz rfl (E_gz rfl (E_gz rfl (E_gm rfl (E_pf rfl rfl (E_mv (v' := .bool false) rfl (E_nil ?_)))))))))))))))
 exact E_jx _ h (wk_rn [] rfl (Nat.le_of_ble_eq_true rfl) trivial ⟨(rn_b rfl), trivial⟩)
 }
 }
 {
 refine E_ret (E_blr (E_thr ?_))
 cases h
 exact ⟨trivial, _, rfl, (fz_b rfl (.refl _))⟩
 }
 }
 {
 rw [ite_f hb] at h
 refine E_skip (E_bln ?_)
 exact E_jx _ h (wk_rn [] rfl (Nat.le_of_ble_eq_true rfl) trivial trivial)
 }
 }
 }
 }
 }
 }
 {
 rw [ite_f hb] at h
 refine E_skip (E_bln ?_)
 exact E_jx _ h (wk_aw trivial)
 }
 }
 }
 }
 }
 }
 }
 }
 }
 {
 refine E_sq (E_reg (E_mv (v' := .bool true) rfl (E_nil (E_nx (E_ret ?_)))))
 cases h
 exact ⟨trivial, _, rfl, (fz_b rfl (.refl _))⟩
 }
 }
 }
 }
 }
def fc12 : FC := (.seq (.reg [oO 2 (.box (.t 0)), oO 4 (.mv (.v (.bool false)))] []) (.seq (.seq (.reg [oO 11 (.fad 0 (.t 2)), oO 12 (.load none (.t 11)), oO 13 (.len .sl (.t 12)), oO 14 (.bin .none .lss (.t 13) (.v (.int .i64 1))), oO 15 (.mv (.t 14)), ⟨(some 16), some (15, false), .op (.fad 0 (.t 2))⟩, ⟨(some 17), some (15, false), .op (.load none (.t 16))⟩, ⟨(some 18), some (15, false), .op (.len .sl (.t 17))⟩, ⟨(some 19), some (15, false), .op (.bin .none .gtr (.t 18) (.v (.int .i64 16)))⟩, oO 20 (.pick (.t 15) (.v (.bool true)) (.t 19)), oO 21 (.mv (.t 20)), ⟨(some 22), some (21, false), .op (.fad 0 (.t 2))⟩, ⟨(some 23), some (21, false), .op (.load none (.t 22))⟩, ⟨(some 24), some (21, false), .op (.iad none (some 8) (.t 23) (.v (.int .i64 0)))⟩, ⟨(some 25), some (21, false), .op (.fad 0 (.t 24))⟩, ⟨(some 26), some (21, false), .op (.load none (.t 25))⟩, ⟨(some 27), some (21, false), .op (.len .sl (.t 26))⟩, ⟨(some 28), some (21, false), .op (.bin .none .neq (.t 27) (.v (.int .i64 0)))⟩, oO 29 (.pick (.t 21) (.v (.bool true)) (.t 28)), oO 30 (.mv (.t 29)), ⟨(some 31), some (30, false), .op (.fad 0 (.t 2))⟩, ⟨(some 32), some (30, false), .op (.load none (.t 31))⟩, ⟨(some 33), some (30, false), .op (.iad none (some 8) (.t 32) (.v (.int .i64 0)))⟩, ⟨(some 34), some (30, false), .op (.fad 4 (.t 33))⟩, ⟨(some 35), some (30, false), .op (.load none (.t 34))⟩, oO 36 (.pick (.t 30) (.v (.bool true)) (.t 35))] []) (.cond (.t 36) (.seq (.reg [oO 4 (.mv (.v (.bool false)))] []) .ret) .skip)) (.seq (.seq (.reg [oO 37 (.fad 0 (.t 2)), oO 38 (.load none (.t 37)), oO 39 (.len .sl (.t 38)), oO 40 (.mv (.v (.int .i64 0)))] []) (.block 0 (.loop (.seq (.reg [oO 41 (.bin .none .lss (.t 40) (.t 39))] []) (.seq (.cond (.t 41) .skip (.exit 0)) (.seq (.block 1 (.seq (.reg [oO 42 (.iad none (some 8) (.t 38) (.t 40)), oO 43 (.load (some 8) (.t 42)), oO 6 (.new [.nils, .nils, (.int .i64 0), .nils, (.bool false), (.int .i64 0), .nils, (.int .i64 0)]), ⟨none, none, .op (.store 8 (.t 6) (.t 43))⟩] []) (.seq (.reg [oO 44 (.load (some 8) (.t 6)), oO 45 (.mv (.t 1)), ⟨(some 46), none, .call 31 [(.t 44), (.t 45)]⟩, oO 47 (.un .not (.t 46))] []) (.cond (.t 47) (.seq (.reg [oO 4 (.mv (.v (.bool false)))] []) .ret) .skip)))) (.reg [oO 48 (.bin .none .add (.t 40) (.v (.int .i64 1))), oO 40 (.mv (.t 48))] []))))))) (.seq (.seq (.reg [oO 49 (.fad 0 (.t 2)), oO 50 (.load none (.t 49)), oO 51 (.len .sl (.t 50)), oO 52 (.mv (.v (.int .i64 0)))] []) (.block 2 (.loop (.seq (.reg [oO 53 (.bin .none .lss (.t 52) (.t 51))] []) (.seq (.cond (.t 53) .skip (.exit 2)) (.seq (.block 3 (.seq (.reg [oO 54 (.iad none (some 8) (.t 50) (.t 52)), oO 55 (.load (some 8) (.t 54)), oO 8 (.new [.nils, .nils, (.int .i64 0), .nils, (.bool false), (.int .i64 0), .nils, (.int .i64 0)]), ⟨none, none, .op (.store 8 (.t 8) (.t 55))⟩] []) (.seq (.reg [oO 56 (.fad 6 (.t 8)), oO 57 (.load none (.t 56)), oO 58 (.len .sl (.t 57)), oO 59 (.mv (.v (.int .i64 0)))] []) (.block 4 (.loop (.seq (.reg [oO 60 (.bin .none .lss (.t 59) (.t 58))] []) (.seq (.cond (.t 60) .skip (.exit 4)) (.seq (.block 5 (.seq (.reg [oO 61 (.iad none (some 12) (.t 57) (.t 59)), oO 62 (.load (some 12) (.t 61)), oO 10 (.new [(.int .u8 0), (.int .u8 0), (.int .i64 0), (.int .i64 0), (.int .i64 0), (.int .i64 0), (.int .i64 0), (.int .i64 0), (.int .u64 0), .nils, (.int .i64 0), (.int .i64 0)]), ⟨none, none, .op (.store 12 (.t 10) (.t 62))⟩] []) (.seq (.reg [oO 63 (.fad 0 (.t 2)), oO 64 (.load none (.t 63)), oO 65 (.load (some 8) (.t 8)), oO 66 (.mv (.t 1)), oO 67 (.load (some 12) (.t 10)), ⟨(some 68), none, .call 32 [(.t 64), (.t 65), (.t 66), (.t 67)]⟩, oO 69 (.un .not (.t 68))] []) (.cond (.t 69) (.seq (.reg [oO 4 (.mv (.v (.bool false)))] []) .ret) .skip)))) (.reg [oO 70 (.bin .none .add (.t 59) (.v (.int .i64 1))), oO 59 (.mv (.t 70))] []))))))))) (.reg [oO 71 (.bin .none .add (.t 52) (.v (.int .i64 1))), oO 52 (.mv (.t 71))] []))))))) (.seq (.reg [oO 4 (.mv (.v (.bool true)))] []) .ret)))))
theorem fn12 : Fn3 Tryd.prog 12 72 [(4, none)] fc12 := ⟨_, _, Tryd.func12, rfl, rfl, rfl, by kernel_rfl⟩
def windlassref07_Right_s (g_00 : Graphs) (bound_01 : Bool) : Option Bool :=
  (jp (fun (s_2 : (Bool × Bool)) => (if s_2.2 then (some false) else ((rng (fun (i_5 : Nat) (f_6 : Graph) (s_4 : Unit) => (((windlassref07_head_s f_6 s_2.1).bind fun hea_8 => (if (!hea_8) then (some (.ret (some false))) else (some (.nxt ())))) : Option (Stp Unit (Option Bool)))) g_00.Funcs ()).bind (oc (fun (s_4 : Unit) => ((rng (fun (i_10 : Nat) (f_11 : Graph) (s_9 : Unit) => (((rng (fun (i_14 : Nat) (n_15 : Node) (s_13 : Unit) => (((windlassref07_node_s g_00.Funcs f_11 s_2.1 n_15).bind fun nod_17 => (if (!nod_17) then (some (.ret (some (.ret (some false))))) else (some (.nxt ())))) : Option (Stp Unit (Option (Stp Unit (Option Bool)))))) f_11.Nodes ()).bind (oc (fun (s_13 : Unit) => (some (.nxt ()))))) : Option (Stp Unit (Option Bool)))) g_00.Funcs ()).bind (oc (fun (s_9 : Unit) => (some true))))))))) (fun k_1 => (if (decide ((List.length g_00.Funcs : Int) < 1)) then (k_1 (bound_01, true)) else (if (decide ((List.length g_00.Funcs : Int) > 16)) then (k_1 (bound_01, true)) else ((getI g_00.Funcs 0).bind fun y_3 => (if ((List.length y_3.Params : Int) != 0) then (k_1 (bound_01, true)) else (k_1 (bound_01, y_3.Result))))))))
theorem windlassref07_Right_ev {g_00 : Graphs} {bound_01 : Bool} {r : Bool} (h : windlassref07_Right_s g_00 bound_01 = some r) : PureEv Tryd.prog 12 [(Graphs.av g_00), (.bool bound_01)] (.bool r) := by
 unfold windlassref07_Right_s at h
 refine PureEv_end mixed fn12 (by simp) [6, 8, 10] 6 ?_
 unfold fc12
 refine E_sq (E_reg (E_op0 (v' := (.cptr (Graphs.av g_00).cells 0)) rfl rfl (E_mv (v' := .bool false) rfl (E_nil (E_nx (E_as ?_))))))
 refine E_jp h (fun s_2 => [(1, (.bool s_2.1)), (2, (.cptr (Graphs.av g_00).cells 0)), (36, (.bool s_2.2))]) (fun s_2 => []) (fun k_1 h => ?_) (fun s_2 h => ?_)
 {
 refine E_reg (E_op0 (v' := (.cptr (Graphs.av g_00).cells 0)) rfl rfl (E_op0 (v' := .sl false 8 (List.map Graph.av g_00.Funcs)) rfl rfl (E_len rfl (E_op0 (v' := (.bool (decide ((List.length g_00.Funcs : Int) < 1)))) rfl rfl (E_mv (v' := (.bool (decide ((List.length g_00.Funcs : Int) < 1)))) rfl ?_)))))
 refine E_gsT (b := (decide ((List.length g_00.Funcs : Int) < 1))) rfl rfl rfl (fun hb => ?_) (fun hb => ?_)
 {
 rw [ite_f hb] at h
 refine E_op0 (v' := (.cptr (Graphs.av g_00).cells 0)) rfl rfl (E_gh rfl (E_op0 (v' := .sl false 8 (List.map Graph.av g_00.Funcs)) rfl rfl (E_gh rfl (E_len rfl (E_gh rfl (E_op0 (v' := (.bool (decide ((List.length g_00.Funcs : Int) > 16)))) rfl rfl (E_pf rfl rfl (E_mv (v' := (.bool (decide ((List.length g_00.Funcs : Int) > 16)))) rfl ?_))))))))
 refine E_gsT (b := (decide ((List.length g_00.Funcs : Int) > 16))) rfl rfl rfl (fun hb => ?_) (fun hb => ?_)
 {
 rw [ite_f hb] at h
 refine E_op0 (v' := (.cptr (Graphs.av g_00).cells 0)) rfl rfl (E_gh rfl (E_op0 (v' := .sl false 8 (List.map Graph.av g_00.Funcs)) rfl rfl (E_gh rfl ?_)))
 obtain ⟨y_3, hy_3, h⟩ := bd_some h
 refine E_iadF rfl rfl hy_3 (E_gh rfl (E_op0 (v' := (.cptr (Graph.av y_3).cells 0)) rfl rfl (E_gh rfl (E_op0 (v' := (.sl false 1 (List.map (avI .i64) y_3.Params))) rfl rfl (E_gh rfl (E_len rfl (E_gh rfl (E_op0 (v' := (.bool ((List.length y_3.Params : Int) != 0))) rfl rfl (E_pf rfl rfl (E_mv (v' := (.bool ((List.length y_3.Params : Int) != 0))) rfl ?_))))))))))
 refine E_gsT (b := ((List.length y_3.Params : Int) != 0)) rfl rfl rfl (fun hb => ?_) (fun hb => ?_)
 {
 rw [ite_f hb] at h
 refine E_op0 (v' := (.cptr (Graphs.av g_00).cells 0)) rfl rfl (E_gh rfl (E_op0 (v' := .sl false 8 (List.map Graph.av g_00.Funcs)) rfl rfl (E_gh rfl (E_iadF rfl rfl hy_3 (E_gh rfl (E_op0 (v' := (.cptr (Graph.av y_3).cells 4)) rfl rfl (E_gh rfl (E_op0 (v' := .bool y_3.Result) rfl rfl (E_pf rfl rfl (E_nil ?_))))))))))
 exact E_jx _ h (wk_aw ⟨(.refl _), (.refl _), (.refl _), trivial⟩)
 }
 {
 rw [ite_t hb] at h
 refine E_gm rfl (E_gm rfl (E_gm rfl (E_gm rfl (E_pt rfl rfl (E_nil ?_)))))
 exact E_jx _ h (wk_aw ⟨(.refl _), (.refl _), (.refl _), trivial⟩)
 }
 }
 {
 rw [ite_t hb] at h
 refine E_gm rfl (E_gm rfl (E_gm rfl (E_gm rfl (E_gm rfl (E_gm rfl (E_pt rfl rfl (E_mv (v' := .bool true) rfl (E_gm rfl (E_gm rfl (E_gm rfl (E_gm rfl (E_gm rfl (E_pt rfl rfl (E_nil ?_))))))))))))))
 exact E_jx _ h (wk_aw ⟨(.refl _), (.refl _), (.refl _), trivial⟩)
 }
 }
 {
 rw [ite_t hb] at h
 refine E_gm rfl (E_gm rfl (E_gm rfl (E_pt rfl rfl (E_mv (v' := .bool true) rfl (E_gm rfl (E_gm rfl (E_gm rfl (E_gm rfl (E_gm rfl (E_gm rfl (E_gm rfl (E_pt rfl rfl (E_mv (v' := .bool true) rfl (E_gm rfl (E_gm rfl ?_)))))))))))))))
 refine E_gm rfl (E_gm rfl (E_gm rfl (E_pt rfl rfl (E_nil ?_))))
 exact E_jx _ h (wk_aw ⟨(.refl _), (.refl _), (.refl _), trivial⟩)
 }
 }
 {
 refine E_sq ?_
 refine E_cs (t := s_2.2) rfl (fun hb => ?_) (fun hb => ?_)
 {
 rw [ite_t hb] at h
 refine E_sq (E_reg (E_mv (v' := .bool false) rfl (E_nil (E_nx (E_ret (E_thr ?_))))))
 cases h
 exact ⟨trivial, _, rfl, (fz_b rfl (.refl _))⟩
 }
 {
 rw [ite_f hb] at h
 refine E_skip (E_nx (E_as (E_sq (E_reg (E_op0 (v' := (.cptr (Graphs.av g_00).cells 0)) rfl rfl (E_op0 (v' := .sl false 8 (List.map Graph.av g_00.Funcs)) rfl rfl (E_len rfl (E_mv (v' := .int .i64 0) rfl (E_nil (E_nx (E_sq ?_)))))))))))
 refine E_rngO (fun s_4 => [(1, (.bool s_2.1)), (2, (.cptr (Graphs.av g_00).cells 0)), (38, (.sl false 8 (List.map Graph.av g_00.Funcs)))]) (fun s_4 => []) h (by decide) (by decide) (fun _ => ⟨rfl, rfl, rfl, rfl⟩) (wk_aw ⟨(.refl _), (.refl _), (.refl _), (.refl _), (.refl _), trivial⟩) (fun i_5 f_6 s_4 c hx_7 hlt h => ?_) (fun s_4 fr' S' h hw => ?_)
 {
 refine E_sq (E_reg (E_iadF rfl rfl (getI_of hx_7) (E_op0 (v' := (Graph.av f_6)) rfl rfl (E_op (v' := .ptr 0 0 0) (S' := [.arr 0 [.nils, .nils, (.int .i64 0), .nils, (.bool false), (.int .i64 0), .nils, (.int .i64 0)]]) rfl rfl rfl (E_do (S' := [.arr 0 [(.sl false 1 (List.map (avI .i64) f_6.Params)), (.sl false 1 (List.map (avI .u8) f_6.Kinds)), (.int .i64 f_6.Cells), (.sl false 1 (List.map (avI .i64) f_6.Init)), (.bool f_6.Result), (.int .i64 f_6.Keep), (.sl false 12 (List.map Node.av f_6.Nodes)), (.int .i64 f_6.Entry)]]) rfl rfl (E_nil (E_nx (E_sq (E_reg (E_opw (v' := (Graph.av f_6)) rfl (.aggL ⟨(.refl _), (.refl _), (.refl _), (.refl _), (.refl _), (.refl _), (.refl _), (.refl _), trivial⟩) rfl (E_mv (v' := .bool s_2.1) rfl ?_)))))))))))
 obtain ⟨hea_8, hhea_8, h⟩ := bd_some h
 refine E_callW (windlassref07_head_ev  hhea_8) rfl ⟨(.refl _), (.refl _), trivial⟩ (blwL_of ⟨(Graph.enc.blw _ 0), rfl, trivial⟩) rfl (E_op0 (v' := .bool (!hea_8)) rfl rfl (E_nil (E_nx ?_)))
 refine E_cs (t := (!hea_8)) rfl (fun hb => ?_) (fun hb => ?_)
 {
 rw [ite_t hb] at h
 refine E_sq (E_reg (E_mv (v' := .bool false) rfl (E_nil (E_nx (E_ret ?_)))))
 cases h
 refine L_rrO rfl (fun h => ?_)
 refine E_thr ?_
 cases h
 exact ⟨trivial, _, rfl, (fz_b rfl (.refl _))⟩
 }
 {
 rw [ite_f hb] at h
 refine E_skip ?_
 cases h
 exact L_nn rfl (wk_rn [] rfl (Nat.le_of_ble_eq_true rfl) trivial ⟨(rn_b rfl), (rn_b rfl), (rn_b rfl), (rn_b (cp_blw (Graphs.enc.blw _ 0))), (rn_b (Graph.enc.blws 0)), trivial⟩)
 }
 }
 {
 refine X_nx hw (E_as (E_sq (E_reg (E_op0 (v' := (.cptr (Graphs.av g_00).cells 0)) rfl rfl (E_op0 (v' := .sl false 8 (List.map Graph.av g_00.Funcs)) rfl rfl (E_len rfl (E_mv (v' := .int .i64 0) rfl (E_nil (E_nx (E_sq ?_))))))))))
 refine E_rngO (fun s_9 => [(1, (.bool s_2.1)), (2, (.cptr (Graphs.av g_00).cells 0)), (50, (.sl false 8 (List.map Graph.av g_00.Funcs)))]) (fun s_9 => []) h (by decide) (by decide) (fun _ => ⟨rfl, rfl, rfl, rfl⟩) (wk_aw ⟨(.refl _), (.refl _), (.refl _), (.refl _), (.refl _), trivial⟩) (fun i_10 f_11 s_9 c hx_12 hlt h => ?_) (fun s_9 fr' S' h hw => ?_)
 {
 refine E_sq (E_reg (E_iadF rfl rfl (getI_of hx_12) (E_op0 (v' := (Graph.av f_11)) rfl rfl (E_op (v' := .ptr 0 0 0) (S' := [.arr 0 [.nils, .nils, (.int .i64 0), .nils, (.bool false), (.int .i64 0), .nils, (.int .i64 0)]]) rfl rfl rfl (E_do (S' := [.arr 0 [(.sl false 1 (List.map (avI .i64) f_11.Params)), (.sl false 1 (List.map (avI .u8) f_11.Kinds)), (.int .i64 f_11.Cells), (.sl false 1 (List.map (avI .i64) f_11.Init)), (.bool f_11.Result), (.int .i64 f_11.Keep), (.sl false 12 (List.map Node.av f_11.Nodes)), (.int .i64 f_11.Entry)]]) rfl rfl (E_nil (E_nx (E_sq (E_reg (E_op0 (v' := .ptr 0 0 6) rfl rfl (E_op (v' := .sl false 12 (List.map Node.av f_11.Nodes)) (S' := [.arr 0 [(.sl false 1 (List.map (avI .i64) f_11.Params)), (.sl false 1 (List.map (avI .u8) f_11.Kinds)), (.int .i64 f_11.Cells), (.sl false 1 (List.map (avI .i64) f_11.Init)), (.bool f_11.Result), (.int .i64 f_11.Keep), (.sl false 12 (List.map Node.av f_11.Nodes)), (.int .i64 f_11.Entry)]]) rfl rfl rfl (E_len rfl (E_mv (v' := .int .i64 0) rfl (E_nil (E_nx ?_)))))))))))))))
 refine E_rngO (fun s_13 => [(1, (.bool s_2.1)), (2, (.cptr (Graphs.av g_00).cells 0)), (8, (.ptr 0 0 0)), (50, (.sl false 8 (List.map Graph.av g_00.Funcs))), (51, (.int .i64 (List.length g_00.Funcs : Int))), (52, (.int .i64 (i_10 : Int))), (57, (.sl false 12 (List.map Node.av f_11.Nodes)))]) (fun s_13 => [.arr 0 [(.sl false 1 (List.map (avI .i64) f_11.Params)), (.sl false 1 (List.map (avI .u8) f_11.Kinds)), (.int .i64 f_11.Cells), (.sl false 1 (List.map (avI .i64) f_11.Init)), (.bool f_11.Result), (.int .i64 f_11.Keep), (.sl false 12 (List.map Node.av f_11.Nodes)), (.int .i64 f_11.Entry)]]) h (by decide) (by decide) (fun _ => ⟨rfl, rfl, rfl, rfl⟩) (wk_rn [some (0, 0)] rfl (Nat.le_of_ble_eq_true rfl) ⟨(rn_ob rfl rfl (.cons (rn_b ((encI .i64).blws 0)) (.cons (rn_b ((encI .u8).blws 0)) (.cons (rn_b rfl) (.cons (rn_b ((encI .i64).blws 0)) (.cons (rn_b rfl) (.cons (rn_b rfl) (.cons (rn_b (Node.enc.blws 0)) (.cons (rn_b rfl) (.nil (Nat.zero_le _)))))))))) rfl), trivial⟩ ⟨(rn_b rfl), (rn_b rfl), (rn_b rfl), (rn_b (cp_blw (Graphs.enc.blw _ 0))), (rn_ptr rfl rfl rfl rfl), (rn_b (Graph.enc.blws 0)), (rn_b rfl), (rn_b rfl), (rn_b (Node.enc.blws 0)), trivial⟩) (fun i_14 n_15 s_13 c hx_16 hlt h => ?_) (fun s_13 fr' S' h hw => ?_)
 {
 refine E_sq (E_reg (E_iadF rfl rfl (getI_of hx_16) (E_op0 (v' := (Node.av n_15)) rfl rfl (E_op (v' := .ptr 1 0 0) (S' := [.arr 0 [(.sl false 1 (List.map (avI .i64) f_11.Params)), (.sl false 1 (List.map (avI .u8) f_11.Kinds)), (.int .i64 f_11.Cells), (.sl false 1 (List.map (avI .i64) f_11.Init)), (.bool f_11.Result), (.int .i64 f_11.Keep), (.sl false 12 (List.map Node.av f_11.Nodes)), (.int .i64 f_11.Entry)], .arr 0 [(.int .u8 0), (.int .u8 0), (.int .i64 0), (.int .i64 0), (.int .i64 0), (.int .i64 0), (.int .i64 0), (.int .i64 0), (.int .u64 0), .nils, (.int .i64 0), (.int .i64 0)]]) rfl rfl rfl (E_do (S' := [.arr 0 [(.sl false 1 (List.map (avI .i64) f_11.Params)), (.sl false 1 (List.map (avI .u8) f_11.Kinds)), (.int .i64 f_11.Cells), (.sl false 1 (List.map (avI .i64) f_11.Init)), (.bool f_11.Result), (.int .i64 f_11.Keep), (.sl false 12 (List.map Node.av f_11.Nodes)), (.int .i64 f_11.Entry)], .arr 0 [(.int .u8 n_15.Op), (.int .u8 n_15.By), (.int .i64 n_15.D), (.int .i64 n_15.E), (.int .i64 n_15.A), (.int .i64 n_15.B), (.int .i64 n_15.F), (.int .i64 n_15.Cell), (.int .u64 n_15.Imm), (.sl false 1 (List.map (avI .i64) n_15.Args)), (.int .i64 n_15.Next), (.int .i64 n_15.Else)]]) rfl rfl (E_nil (E_nx (E_sq (E_reg (E_op0 (v' := (.cptr (Graphs.av g_00).cells 0)) rfl rfl (E_op0 (v' := .sl false 8 (List.map Graph.av g_00.Funcs)) rfl rfl (E_opw (v' := (Graph.av f_11)) rfl (.aggL ⟨(.refl _), (.refl _), (.refl _), (.refl _), (.refl _), (.refl _), (.refl _), (.refl _), trivial⟩) rfl (E_mv (v' := .bool s_2.1) rfl (E_opw (v' := (Node.av n_15)) rfl (.aggL ⟨(.refl _), (.refl _), (.refl _), (.refl _), (.refl _), (.refl _), (.refl _), (.refl _), (.refl _), (.refl _), (.refl _), (.refl _), trivial⟩) rfl ?_))))))))))))))
 obtain ⟨nod_17, hnod_17, h⟩ := bd_some h
 refine E_callW (windlassref07_node_ev  hnod_17) rfl ⟨(.refl _), (.refl _), (.refl _), (.refl _), trivial⟩ (blwL_of ⟨(Graph.enc.blws 0), (Graph.enc.blw _ 0), rfl, (Node.enc.blw _ 0), trivial⟩) rfl (E_op0 (v' := .bool (!nod_17)) rfl rfl (E_nil (E_nx ?_)))
 refine E_cs (t := (!nod_17)) rfl (fun hb => ?_) (fun hb => ?_)
 {
 rw [ite_t hb] at h
 refine E_sq (E_reg (E_mv (v' := .bool false) rfl (E_nil (E_nx (E_ret ?_)))))
 cases h
 refine L_rrO rfl (fun h => ?_)
 cases h
 refine L_rrO rfl (fun h => ?_)
 refine E_thr ?_
 cases h
 exact ⟨trivial, _, rfl, (fz_b rfl (.refl _))⟩
 }
 {
 rw [ite_f hb] at h
 refine E_skip ?_
 cases h
 exact L_nn rfl (wk_rn [some (0, 0)] rfl (Nat.le_of_ble_eq_true rfl) ⟨(rn_ob rfl rfl (.cons (rn_b ((encI .i64).blws 0)) (.cons (rn_b ((encI .u8).blws 0)) (.cons (rn_b rfl) (.cons (rn_b ((encI .i64).blws 0)) (.cons (rn_b rfl) (.cons (rn_b rfl) (.cons (rn_b (Node.enc.blws 0)) (.cons (rn_b rfl) (.nil (Nat.zero_le _)))))))))) rfl), trivial⟩ ⟨(rn_b rfl), (rn_b rfl), (rn_b rfl), (rn_b (cp_blw (Graphs.enc.blw _ 0))), (rn_ptr rfl rfl rfl rfl), (rn_b (Graph.enc.blws 0)), (rn_b rfl), (rn_b rfl), (rn_b (Node.enc.blws 0)), trivial⟩)
 }
 }
 {
 cases h
 exact X_nn rfl hw (wk_rn [] rfl (Nat.le_of_ble_eq_true rfl) trivial ⟨(rn_b rfl), (rn_b rfl), (rn_b rfl), (rn_b (cp_blw (Graphs.enc.blw _ 0))), (rn_b (Graph.enc.blws 0)), trivial⟩)
 }
 }
 {
 refine X_nx hw (E_sq (E_reg (E_mv (v' := .bool true) rfl (E_nil (E_nx (E_ret ?_))))))
 cases h
 exact ⟨trivial, _, rfl, (fz_b rfl (.refl _))⟩
 }
 }
 }
 }
def fc26 : FC := (.seq (.reg [oO 4 (.mv (.v (.bool false)))] []) (.seq (.seq (.reg [oO 6 (.mv (.t 0)), oO 7 (.len .sl (.t 6)), oO 8 (.mv (.t 1)), oO 9 (.len .sl (.t 8)), oO 10 (.bin .none .neq (.t 7) (.t 9))] []) (.cond (.t 10) (.seq (.reg [oO 4 (.mv (.v (.bool false)))] []) .ret) .skip)) (.seq (.seq (.reg [oO 11 (.mv (.t 0)), oO 12 (.len .sl (.t 11)), oO 13 (.mv (.v (.int .i64 0)))] []) (.block 0 (.loop (.seq (.reg [oO 14 (.bin .none .lss (.t 13) (.t 12))] []) (.seq (.cond (.t 14) .skip (.exit 0)) (.seq (.block 1 (.seq (.reg [oO 15 (.mv (.t 13)), oO 5 (.mv (.t 15))] []) (.seq (.reg [oO 16 (.mv (.t 0)), oO 17 (.mv (.t 5)), oO 18 (.iad none none (.t 16) (.t 17)), oO 19 (.load none (.t 18)), oO 20 (.mv (.t 1)), oO 21 (.mv (.t 5)), oO 22 (.iad none none (.t 20) (.t 21)), oO 23 (.load none (.t 22)), oO 24 (.bin .none .neq (.t 19) (.t 23))] []) (.cond (.t 24) (.seq (.reg [oO 4 (.mv (.v (.bool false)))] []) .ret) .skip)))) (.reg [oO 25 (.bin .none .add (.t 13) (.v (.int .i64 1))), oO 13 (.mv (.t 25))] []))))))) (.seq (.reg [oO 4 (.mv (.v (.bool true)))] []) .ret))))
theorem fn26 : Fn3 Tryd.prog 26 26 [(4, none)] fc26 := ⟨_, _, Tryd.func26, rfl, rfl, rfl, by kernel_rfl⟩
def windlassref07_SameInts_s (a_00 : (List Int)) (b_01 : (List Int)) : Option Bool :=
  (if ((List.length a_00 : Int) != (List.length b_01 : Int)) then (some false) else ((rni (fun (i_2 : Nat) (s_1 : (List Int)) => (((getI a_00 (i_2 : Int)).bind fun y_3 => ((getI s_1 (i_2 : Int)).bind fun y_4 => (if (y_3 != y_4) then (some (.ret (some false))) else (some (.nxt s_1))))) : Option (Stp (List Int) (Option Bool)))) (List.length a_00 : Int) b_01).bind (oc (fun (s_1 : (List Int)) => (some true)))))
theorem windlassref07_SameInts_ev {a_00 : (List Int)} {b_01 : (List Int)} {r : Bool} (h : windlassref07_SameInts_s a_00 b_01 = some r) : PureEv Tryd.prog 26 [(.sl false 1 (List.map (avI .i64) a_00)), (.sl false 1 (List.map (avI .i64) b_01))] (.bool r) := by
 unfold windlassref07_SameInts_s at h
 refine PureEv_end mixed fn26 (by simp) [] 6 ?_
 unfold fc26
 refine E_sq (E_reg (E_mv (v' := .bool false) rfl (E_nil (E_nx (E_as (E_sq (E_reg (E_mv (v' := (.sl false 1 (List.map (avI .i64) a_00))) rfl (E_len rfl (E_mv (v' := (.sl false 1 (List.map (avI .i64) b_01))) rfl (E_len rfl (E_op0 (v' := (.bool ((List.length a_00 : Int) != (List.length b_01 : Int)))) rfl rfl (E_nil (E_nx (E_sq ?_)))))))))))))))
 refine E_cs (t := ((List.length a_00 : Int) != (List.length b_01 : Int))) rfl (fun hb => ?_) (fun hb => ?_)
 {
 rw [ite_t hb] at h
 refine E_sq (E_reg (E_mv (v' := .bool false) rfl (E_nil (E_nx (E_ret (E_thr ?_))))))
 cases h
 exact ⟨trivial, _, rfl, (fz_b rfl (.refl _))⟩
 }
 {
 rw [ite_f hb] at h
 refine E_skip (E_nx (E_as (E_sq (E_reg (E_mv (v' := (.sl false 1 (List.map (avI .i64) a_00))) rfl (E_len rfl (E_mv (v' := .int .i64 0) rfl (E_nil (E_nx (E_sq ?_))))))))))
 refine E_rniO (fun s_1 => [(0, (.sl false 1 (List.map (avI .i64) a_00))), (1, (.sl false 1 (List.map (avI .i64) s_1)))]) (fun s_1 => []) h (by decide) (by decide) (fun _ => ⟨rfl, rfl, rfl, rfl⟩) (wk_aw ⟨(.refl _), (.refl _), (.refl _), (.refl _), trivial⟩) (fun i_2 s_1 c hlt h => ?_) (fun s_1 fr' S' h hw => ?_)
 {
 refine E_sq (E_reg (E_mv (v' := .int .i64 (i_2 : Int)) rfl (E_mv (v' := .int .i64 (i_2 : Int)) rfl (E_nil (E_nx (E_sq (E_reg (E_mv (v' := (.sl false 1 (List.map (avI .i64) a_00))) rfl (E_mv (v' := .int .i64 (i_2 : Int)) rfl ?_)))))))))
 obtain ⟨y_3, hy_3, h⟩ := bd_some h
 refine E_iadF rfl rfl hy_3 (E_op0 (v' := .int .i64 y_3) rfl rfl (E_mv (v' := (.sl false 1 (List.map (avI .i64) s_1))) rfl (E_mv (v' := .int .i64 (i_2 : Int)) rfl ?_)))
 obtain ⟨y_4, hy_4, h⟩ := bd_some h
 refine E_iadF rfl rfl hy_4 (E_op0 (v' := .int .i64 y_4) rfl rfl (E_op0 (v' := .bool (y_3 != y_4)) rfl rfl (E_nil (E_nx ?_))))
 refine E_cs (t := (y_3 != y_4)) rfl (fun hb => ?_) (fun hb => ?_)
 {
 rw [ite_t hb] at h
 refine E_sq (E_reg (E_mv (v' := .bool false) rfl (E_nil (E_nx (E_ret ?_)))))
 cases h
 refine L_rrO rfl (fun h => ?_)
 refine E_thr ?_
 cases h
 exact ⟨trivial, _, rfl, (fz_b rfl (.refl _))⟩
 }
 {
 rw [ite_f hb] at h
 refine E_skip ?_
 cases h
 exact L_nn rfl (wk_aw ⟨(.refl _), (.refl _), (.refl _), (.refl _), trivial⟩)
 }
 }
 {
 refine X_nx hw (E_sq (E_reg (E_mv (v' := .bool true) rfl (E_nil (E_nx (E_ret ?_))))))
 cases h
 exact ⟨trivial, _, rfl, (fz_b rfl (.refl _))⟩
 }
 }
def fc13 : FC := (.seq (.reg [oO 4 (.mv (.v (.bool false)))] []) (.seq (.seq (.reg [oO 6 (.mv (.t 0)), oO 7 (.len .sl (.t 6)), oO 8 (.mv (.t 1)), oO 9 (.len .sl (.t 8)), oO 10 (.bin .none .neq (.t 7) (.t 9))] []) (.cond (.t 10) (.seq (.reg [oO 4 (.mv (.v (.bool false)))] []) .ret) .skip)) (.seq (.seq (.reg [oO 11 (.mv (.t 0)), oO 12 (.len .sl (.t 11)), oO 13 (.mv (.v (.int .i64 0)))] []) (.block 0 (.loop (.seq (.reg [oO 14 (.bin .none .lss (.t 13) (.t 12))] []) (.seq (.cond (.t 14) .skip (.exit 0)) (.seq (.block 1 (.seq (.reg [oO 15 (.mv (.t 13)), oO 5 (.mv (.t 15))] []) (.seq (.reg [oO 16 (.mv (.t 0)), oO 17 (.mv (.t 5)), oO 18 (.iad none none (.t 16) (.t 17)), oO 19 (.load none (.t 18)), oO 20 (.mv (.t 1)), oO 21 (.mv (.t 5)), oO 22 (.iad none none (.t 20) (.t 21)), oO 23 (.load none (.t 22)), ⟨(some 24), none, .call 26 [(.t 19), (.t 23)]⟩, oO 25 (.un .not (.t 24))] []) (.cond (.t 25) (.seq (.reg [oO 4 (.mv (.v (.bool false)))] []) .ret) .skip)))) (.reg [oO 26 (.bin .none .add (.t 13) (.v (.int .i64 1))), oO 13 (.mv (.t 26))] []))))))) (.seq (.reg [oO 4 (.mv (.v (.bool true)))] []) .ret))))
theorem fn13 : Fn3 Tryd.prog 13 27 [(4, none)] fc13 := ⟨_, _, Tryd.func13, rfl, rfl, rfl, by kernel_rfl⟩
def windlassref11_SameLists_s (a_00 : (List (List Int))) (b_01 : (List (List Int))) : Option Bool :=
  (if ((List.length a_00 : Int) != (List.length b_01 : Int)) then (some false) else ((rni (fun (i_2 : Nat) (s_1 : (List (List Int))) => (((getI a_00 (i_2 : Int)).bind fun y_3 => ((getI s_1 (i_2 : Int)).bind fun y_4 => ((windlassref07_SameInts_s y_3 y_4).bind fun sam_5 => (if (!sam_5) then (some (.ret (some false))) else (some (.nxt s_1)))))) : Option (Stp (List (List Int)) (Option Bool)))) (List.length a_00 : Int) b_01).bind (oc (fun (s_1 : (List (List Int))) => (some true)))))
theorem windlassref11_SameLists_ev {a_00 : (List (List Int))} {b_01 : (List (List Int))} {r : Bool} (h : windlassref11_SameLists_s a_00 b_01 = some r) : PureEv Tryd.prog 13 [(.sl false 1 (List.map (avL 1 (avI .i64)) a_00)), (.sl false 1 (List.map (avL 1 (avI .i64)) b_01))] (.bool r) := by
 unfold windlassref11_SameLists_s at h
 refine PureEv_end mixed fn13 (by simp) [] 6 ?_
 unfold fc13
 refine E_sq (E_reg (E_mv (v' := .bool false) rfl (E_nil (E_nx (E_as (E_sq (E_reg (E_mv (v' := (.sl false 1 (List.map (avL 1 (avI .i64)) a_00))) rfl (E_len rfl (E_mv (v' := (.sl false 1 (List.map (avL 1 (avI .i64)) b_01))) rfl (E_len rfl (E_op0 (v' := (.bool ((List.length a_00 : Int) != (List.length b_01 : Int)))) rfl rfl (E_nil (E_nx (E_sq ?_)))))))))))))))
 refine E_cs (t := ((List.length a_00 : Int) != (List.length b_01 : Int))) rfl (fun hb => ?_) (fun hb => ?_)
 {
 rw [ite_t hb] at h
 refine E_sq (E_reg (E_mv (v' := .bool false) rfl (E_nil (E_nx (E_ret (E_thr ?_))))))
 cases h
 exact ⟨trivial, _, rfl, (fz_b rfl (.refl _))⟩
 }
 {
 rw [ite_f hb] at h
 refine E_skip (E_nx (E_as (E_sq (E_reg (E_mv (v' := (.sl false 1 (List.map (avL 1 (avI .i64)) a_00))) rfl (E_len rfl (E_mv (v' := .int .i64 0) rfl (E_nil (E_nx (E_sq ?_))))))))))
 refine E_rniO (fun s_1 => [(0, (.sl false 1 (List.map (avL 1 (avI .i64)) a_00))), (1, (.sl false 1 (List.map (avL 1 (avI .i64)) s_1)))]) (fun s_1 => []) h (by decide) (by decide) (fun _ => ⟨rfl, rfl, rfl, rfl⟩) (wk_aw ⟨(.refl _), (.refl _), (.refl _), (.refl _), trivial⟩) (fun i_2 s_1 c hlt h => ?_) (fun s_1 fr' S' h hw => ?_)
 {
 refine E_sq (E_reg (E_mv (v' := .int .i64 (i_2 : Int)) rfl (E_mv (v' := .int .i64 (i_2 : Int)) rfl (E_nil (E_nx (E_sq (E_reg (E_mv (v' := (.sl false 1 (List.map (avL 1 (avI .i64)) a_00))) rfl (E_mv (v' := .int .i64 (i_2 : Int)) rfl ?_)))))))))
 obtain ⟨y_3, hy_3, h⟩ := bd_some h
 refine E_iadF rfl rfl hy_3 (E_op0 (v' := (.sl false 1 (List.map (avI .i64) y_3))) rfl rfl (E_mv (v' := (.sl false 1 (List.map (avL 1 (avI .i64)) s_1))) rfl (E_mv (v' := .int .i64 (i_2 : Int)) rfl ?_)))
 obtain ⟨y_4, hy_4, h⟩ := bd_some h
 refine E_iadF rfl rfl hy_4 (E_op0 (v' := (.sl false 1 (List.map (avI .i64) y_4))) rfl rfl ?_)
 obtain ⟨sam_5, hsam_5, h⟩ := bd_some h
 refine E_callW (windlassref07_SameInts_ev  hsam_5) rfl ⟨(.refl _), (.refl _), trivial⟩ (blwL_of ⟨((encI .i64).blws 0), ((encI .i64).blws 0), trivial⟩) rfl (E_op0 (v' := .bool (!sam_5)) rfl rfl (E_nil (E_nx ?_)))
 refine E_cs (t := (!sam_5)) rfl (fun hb => ?_) (fun hb => ?_)
 {
 rw [ite_t hb] at h
 refine E_sq (E_reg (E_mv (v' := .bool false) rfl (E_nil (E_nx (E_ret ?_)))))
 cases h
 refine L_rrO rfl (fun h => ?_)
 refine E_thr ?_
 cases h
 exact ⟨trivial, _, rfl, (fz_b rfl (.refl _))⟩
 }
 {
 rw [ite_f hb] at h
 refine E_skip ?_
 cases h
 exact L_nn rfl (wk_aw ⟨(.refl _), (.refl _), (.refl _), (.refl _), trivial⟩)
 }
 }
 {
 refine X_nx hw (E_sq (E_reg (E_mv (v' := .bool true) rfl (E_nil (E_nx (E_ret ?_))))))
 cases h
 exact ⟨trivial, _, rfl, (fz_b rfl (.refl _))⟩
 }
 }
def windlassref07_In_r_s (l_00 : (List Int)) (n_01 : Int) : Option Bool :=
  ((rni (fun (i_2 : Nat) (s_1 : Int) => (((getI l_00 (i_2 : Int)).bind fun y_3 => (if (y_3 == s_1) then (some (.ret (some true))) else (some (.nxt s_1)))) : Option (Stp Int (Option Bool)))) (List.length l_00 : Int) n_01).bind (oc (fun (s_1 : Int) => (some false))))
theorem windlassref07_In_r_ev {l_00 : (List Int)} {n_01 : Int} {r : Bool} (h : windlassref07_In_r_s l_00 n_01 = some r) : Ev Tryd.prog 18 [(.ref 0 0 0 (List.length l_00) none), (.int .i64 n_01)] (hp [.arr 0 (flat (avI .i64) l_00)]) (.bool r) (hp [.arr 0 (flat (avI .i64) l_00)]) := by
 unfold windlassref07_In_r_s at h
 refine Ev_end mixed fn18 (by simp) [] ?_
 unfold fc18
 refine E_sq (E_reg (E_mv (v' := .bool false) rfl (E_nil (E_nx (E_as (E_sq (E_reg (E_mv (v' := (.ref 0 0 0 (List.length l_00) none)) rfl (E_lenR rfl (E_mv (v' := .int .i64 0) rfl (E_nil (E_nx (E_sq ?_)))))))))))))
 refine E_rniO (fun s_1 => [(1, (.int .i64 s_1)), (7, (.ref 0 0 0 (List.length l_00) none))]) (fun s_1 => [.arr 0 (flat (avI .i64) l_00)]) h (by decide) (by decide) (fun _ => ⟨rfl, rfl, rfl, rfl⟩) (wk_rn [some (0, 0)] rfl (Nat.le_of_ble_eq_true rfl) ⟨(rn_obS rfl rfl (.refl ((encI .i64).blwf 0 _)) rfl), trivial⟩ ⟨(rn_b rfl), (rn_b rfl), (rn_b rfl), (rn_refL (encI .i64) rfl rfl rfl), trivial⟩) (fun i_2 s_1 c hlt h => ?_) (fun s_1 fr' S' h hw => ?_)
 {
 refine E_sq (E_reg ?_)
 obtain ⟨y_3, hy_3, h⟩ := bd_some h
 refine E_iadR rfl rfl ⟨(getI_some hy_3).1, (getI_some hy_3).2.1⟩ ?_
 refine E_ldR (encI .i64) rfl rfl (by first | rfl | exact (Nat.add_zero _).symm | (simp only [Nat.zero_add]; exact (Nat.add_zero _).symm) | (simp only [Nat.zero_add, Nat.add_zero])) (getI_some hy_3).2.2 rfl (.refl _) ?_
 refine E_mv (v' := .int .i64 y_3) rfl (E_nil (E_nx (E_sq (E_reg (E_mv (v' := .int .i64 y_3) rfl (E_mv (v' := .int .i64 s_1) rfl (E_op0 (v' := .bool (y_3 == s_1)) rfl rfl (E_nil (E_nx ?_)))))))))
 refine E_cs (t := (y_3 == s_1)) rfl (fun hb => ?_) (fun hb => ?_)
 {
 rw [ite_t hb] at h
 refine E_sq (E_reg (E_mv (v' := .bool true) rfl (E_nil (E_nx (E_ret ?_)))))
 cases h
 refine L_rrO rfl (fun h => ?_)
 refine E_thr ?_
 cases h
 exact ⟨trivial, _, _, rfl, gwk_rn [some (0, 0)] rfl (Nat.le_of_ble_eq_true rfl) ⟨(rn_obS rfl rfl (.refl ((encI .i64).blwf 0 _)) rfl), trivial⟩, (rn_b rfl)⟩
 }
 {
 rw [ite_f hb] at h
 refine E_skip ?_
 cases h
 exact L_nn rfl (wk_rn [some (0, 0)] rfl (Nat.le_of_ble_eq_true rfl) ⟨(rn_obS rfl rfl (.refl ((encI .i64).blwf 0 _)) rfl), trivial⟩ ⟨(rn_b rfl), (rn_b rfl), (rn_b rfl), (rn_refL (encI .i64) rfl rfl rfl), trivial⟩)
 }
 }
 {
 refine X_nx hw (E_sq (E_reg (E_mv (v' := .bool false) rfl (E_nil (E_nx (E_ret ?_))))))
 cases h
 exact ⟨trivial, _, _, rfl, gwk_rn [some (0, 0)] rfl (Nat.le_of_ble_eq_true rfl) ⟨(rn_obS rfl rfl (.refl ((encI .i64).blwf 0 _)) rfl), trivial⟩, (rn_b rfl)⟩
 }
def fc64 : FC := (.seq (.reg [oO 4 (.mv (.v .nils))] []) (.seq (.seq (.reg [oO 7 (.mv (.t 1)), oO 8 (.len .sl (.t 7)), oO 9 (.mv (.v (.int .i64 0)))] []) (.block 0 (.loop (.seq (.reg [oO 10 (.bin .none .lss (.t 9) (.t 8))] []) (.seq (.cond (.t 10) .skip (.exit 0)) (.seq (.block 1 (.seq (.reg [oO 11 (.iad none none (.t 7) (.t 9)), oO 12 (.load none (.t 11)), oO 6 (.mv (.t 12))] []) (.seq (.reg [oO 13 (.mv (.t 6)), oO 14 (.bin .none .geq (.t 13) (.v (.int .i64 0))), oO 15 (.mv (.t 14)), ⟨(some 16), some (15, true), .op (.mv (.t 0))⟩, ⟨(some 17), some (15, true), .op (.mv (.t 6))⟩, ⟨(some 18), some (15, true), .call 18 [(.t 16), (.t 17)]⟩, ⟨(some 19), some (15, true), .op (.un .not (.t 18))⟩, oO 20 (.pick (.t 15) (.t 19) (.v (.bool false)))] []) (.cond (.t 20) (.reg [oO 21 (.mv (.t 0)), oO 22 (.mv (.t 6)), oO 23 (.bsl none [(.int .i64 0)] 1 [(0, 1, (.t 22))]), oO 24 (.app none 8 (.t 21) (.t 23)), oO 0 (.mv (.t 24))] []) .skip)))) (.reg [oO 25 (.bin .none .add (.t 9) (.v (.int .i64 1))), oO 9 (.mv (.t 25))] []))))))) (.seq (.reg [oO 26 (.mv (.t 0)), oO 4 (.mv (.t 26))] []) .ret)))
theorem fn64 : Fn3 Tryd.prog 64 27 [(4, none)] fc64 := ⟨_, _, Tryd.func64, rfl, rfl, rfl, by kernel_rfl⟩
def windlassref07_add_n_o_s (more_01 : (List Int)) : Option (List Int) :=
  ((rng (fun (i_2 : Nat) (n_3 : Int) (s_1 : ((List Int) × (List Int))) => (((getI s_1.1 (i_2 : Int)).bind fun y_5 => (jp (fun (s_7 : Bool) => (if s_7 then ((appL 8 s_1.2 [y_5]).bind fun l_9 => (some (.nxt (s_1.1, l_9)))) else (some (.nxt (s_1.1, s_1.2))))) (fun k_6 => (if (decide (y_5 ≥ 0)) then ((windlassref07_In_r_s s_1.2 y_5).bind fun (vin_8 : Bool) => (k_6 (!vin_8))) else (k_6 false))))) : Option (Stp ((List Int) × (List Int)) (Option (List Int))))) more_01 (more_01, [])).bind (oc (fun (s_1 : ((List Int) × (List Int))) => (some s_1.2))))
theorem windlassref07_add_n_o_ev {more_01 : (List Int)} {r : (List Int)} (h : windlassref07_add_n_o_s more_01 = some r) : Ev Tryd.prog 64 [.nils, (.sl false 1 (List.map (avI .i64) more_01))] (hp []) (.ref 0 1 0 (List.length r) none) (hp [.arr 1 (flat (avI .i64) r)]) := by
 unfold windlassref07_add_n_o_s at h
 refine Ev_end mixed fn64 (by simp) [24] ?_
 unfold fc64
 refine E_sq (E_reg (E_mv (v' := .nils) rfl (E_nil (E_nx (E_as (E_sq (E_reg (E_mv (v' := (.sl false 1 (List.map (avI .i64) more_01))) rfl (E_len rfl (E_mv (v' := .int .i64 0) rfl (E_nil (E_nx (E_sq ?_)))))))))))))
 refine E_rngO (fun s_1 => [(0, (.ref 0 1 0 (List.length s_1.2) none)), (7, (.sl false 1 (List.map (avI .i64) s_1.1)))]) (fun s_1 => [.arr 1 (flat (avI .i64) s_1.2)]) h (by decide) (by decide) (fun _ => ⟨rfl, rfl, rfl, rfl⟩) (wk_rn [none] rfl (Nat.le_of_ble_eq_true rfl) ⟨(rn_obN rfl rfl rfl), trivial⟩ ⟨(rn_b rfl), (rn_b rfl), (rn_nil rfl), (rn_b ((encI .i64).blws 0)), trivial⟩) (fun i_2 n_3 s_1 c hx_4 hlt h => ?_) (fun s_1 fr' S' h hw => ?_)
 {
 refine E_sq (E_reg ?_)
 obtain ⟨y_5, hy_5, h⟩ := bd_some h
 refine E_iadF rfl rfl hy_5 (E_op0 (v' := .int .i64 y_5) rfl rfl (E_mv (v' := .int .i64 y_5) rfl (E_nil (E_nx ?_))))
 refine E_jp h (fun s_7 => [(0, (.ref 0 1 0 (List.length s_1.2) none)), (6, (.int .i64 y_5)), (7, (.sl false 1 (List.map (avI .i64) s_1.1))), (8, (.int .i64 (List.length more_01 : Int))), (9, (.int .i64 (i_2 : Int))), (20, (.bool s_7))]) (fun s_7 => [.arr 1 (flat (avI .i64) s_1.2)]) (fun k_6 h => ?_) (fun s_7 h => ?_)
 {
 refine E_reg (E_mv (v' := .int .i64 y_5) rfl (E_op0 (v' := (.bool (decide (y_5 ≥ 0)))) rfl rfl (E_mv (v' := (.bool (decide (y_5 ≥ 0)))) rfl ?_)))
 refine E_gsT (b := (decide (y_5 ≥ 0))) rfl rfl rfl (fun hb => ?_) (fun hb => ?_)
 {
 rw [ite_t hb] at h
 refine E_mv (v' := (.ref 0 1 0 (List.length s_1.2) none)) rfl (E_gh rfl (E_mv (v' := .int .i64 y_5) rfl (E_gh rfl ?_)))
 obtain ⟨vin_8, hvin_8, h⟩ := bd_some h
 refine E_callF (S' := [.arr 1 (flat (avI .i64) s_1.2)]) (r' := (.bool vin_8)) (windlassref07_In_r_ev hvin_8) [0] rfl rfl (by decide) rfl rfl ⟨(fr_in rfl rfl (.refl ((encI .i64).blwf 0 _))), trivial⟩ ⟨(fr_outS rfl rfl (.refl ((encI .i64).blwf 0 _)) rfl rfl), trivial⟩ ⟨.inl rfl, trivial⟩ rfl (.cons (fi_ref rfl rfl rfl rfl) (.cons (.base rfl (.refl _)) (.nil (Nat.zero_le _)))) (rn_b rfl) ?_
 refine E_gh rfl (E_op0 (v' := .bool (!vin_8)) rfl rfl (E_pt rfl rfl (E_nil ?_)))
 exact E_jx _ h (wk_rn [some (0, 0)] rfl (Nat.le_of_ble_eq_true rfl) ⟨(rn_ob rfl rfl (.refl ((encI .i64).blwf 0 _)) rfl), trivial⟩ ⟨(rn_refL (encI .i64) rfl rfl rfl), (rn_b rfl), (rn_b ((encI .i64).blws 0)), (rn_b rfl), (rn_b rfl), (rn_b rfl), trivial⟩)
 }
 {
 rw [ite_f hb] at h
 refine E_gm rfl (E_gm rfl (E_gm rfl (E_pf rfl rfl (E_nil ?_))))
 exact E_jx _ h (wk_rn [some (0, 0)] rfl (Nat.le_of_ble_eq_true rfl) ⟨(rn_ob rfl rfl (.refl ((encI .i64).blwf 0 _)) rfl), trivial⟩ ⟨(rn_refL (encI .i64) rfl rfl rfl), (rn_b rfl), (rn_b ((encI .i64).blws 0)), (rn_b rfl), (rn_b rfl), (rn_b rfl), trivial⟩)
 }
 }
 {
 refine E_cs (t := s_7) rfl (fun hb => ?_) (fun hb => ?_)
 {
 rw [ite_t hb] at h
 refine E_reg (E_mv (v' := (.ref 0 1 0 (List.length s_1.2) none)) rfl (E_mv (v' := .int .i64 y_5) rfl (E_opw (v' := (.sl true 1 (List.map (avI .i64) [y_5]))) rfl (.refl _) rfl ?_)))
 obtain ⟨l_9, hl_9, h⟩ := bd_some h
 refine E_apL (S' := [.arr 2 (flat (avI .i64) l_9)]) (encI .i64) rfl (src_sl [y_5]) rfl hl_9 rfl (E_mv (v' := (.ref 0 2 0 (List.length l_9) none)) rfl (E_nil ?_))
 cases h
 exact L_nn rfl (wk_rn [some (0, 0)] rfl (Nat.le_of_ble_eq_true rfl) ⟨(rn_ob rfl rfl (.refl ((encI .i64).blwf 0 _)) rfl), trivial⟩ ⟨(rn_b rfl), (rn_b rfl), (rn_refL (encI .i64) rfl rfl rfl), (rn_b ((encI .i64).blws 0)), trivial⟩)
 }
 {
 rw [ite_f hb] at h
 refine E_skip ?_
 cases h
 exact L_nn rfl (wk_rn [some (0, 0)] rfl (Nat.le_of_ble_eq_true rfl) ⟨(rn_ob rfl rfl (.refl ((encI .i64).blwf 0 _)) rfl), trivial⟩ ⟨(rn_b rfl), (rn_b rfl), (rn_refL (encI .i64) rfl rfl rfl), (rn_b ((encI .i64).blws 0)), trivial⟩)
 }
 }
 }
 {
 refine X_nx hw (E_sq (E_reg (E_mv (v' := (.ref 0 1 0 (List.length s_1.2) none)) rfl (E_mv (v' := (.ref 0 1 0 (List.length s_1.2) none)) rfl (E_nil (E_nx (E_ret ?_)))))))
 cases h
 exact ⟨trivial, _, _, rfl, gwk_rn [some (0, 0)] rfl (Nat.le_of_ble_eq_true rfl) ⟨(rn_ob rfl rfl (.refl ((encI .i64).blwf 0 _)) rfl), trivial⟩, (rn_refL (encI .i64) rfl rfl rfl)⟩
 }
def fc33 : FC := (.seq (.reg [oO 1 (.box (.t 0)), oO 2 (.mv (.v .nils))] []) (.seq (.reg [oO 3 (.mv (.v .nils))] []) (.seq (.seq (.reg [oO 4 (.fad 0 (.t 1)), oO 5 (.load none (.t 4))] []) (.block 0 (.seq (.seq (.reg [oO 7 (.bin .none .eql (.t 5) (.v (.int .u8 1))), oO 6 (.mv (.t 7))] []) (.cond (.t 6) .skip (.seq (.reg [oO 8 (.bin .none .eql (.t 5) (.v (.int .u8 2))), oO 6 (.mv (.t 8))] []) (.cond (.t 6) .skip (.seq (.reg [oO 9 (.bin .none .eql (.t 5) (.v (.int .u8 3))), oO 6 (.mv (.t 9))] []) (.cond (.t 6) .skip (.seq (.reg [oO 10 (.bin .none .eql (.t 5) (.v (.int .u8 4))), oO 6 (.mv (.t 10))] []) (.cond (.t 6) .skip (.seq (.reg [oO 11 (.bin .none .eql (.t 5) (.v (.int .u8 6))), oO 6 (.mv (.t 11))] []) (.cond (.t 6) .skip (.seq (.reg [oO 12 (.bin .none .eql (.t 5) (.v (.int .u8 7))), oO 6 (.mv (.t 12))] []) (.cond (.t 6) .skip (.seq (.reg [oO 13 (.bin .none .eql (.t 5) (.v (.int .u8 11))), oO 6 (.mv (.t 13))] []) (.cond (.t 6) .skip (.reg [oO 14 (.bin .none .eql (.t 5) (.v (.int .u8 16))), oO 6 (.mv (.t 14))] []))))))))))))))) (.cond (.t 6) (.reg [oO 15 (.mv (.t 3)), oO 16 (.fad 2 (.t 1)), oO 17 (.load none (.t 16)), oO 18 (.bsl none [(.int .i64 0)] 1 [(0, 1, (.t 17))]), ⟨(some 19), none, .call 64 [(.t 15), (.t 18)]⟩, oO 3 (.mv (.t 19))] []) (.seq (.reg [oO 21 (.bin .none .eql (.t 5) (.v (.int .u8 15))), oO 20 (.mv (.t 21))] []) (.cond (.t 20) (.reg [oO 22 (.mv (.t 3)), oO 23 (.fad 2 (.t 1)), oO 24 (.load none (.t 23)), oO 25 (.fad 3 (.t 1)), oO 26 (.load none (.t 25)), oO 27 (.bsl none [(.int .i64 0)] 2 [(0, 1, (.t 24)), (1, 1, (.t 26))]), ⟨(some 28), none, .call 64 [(.t 22), (.t 27)]⟩, oO 3 (.mv (.t 28))] []) .skip)))))) (.seq (.reg [oO 29 (.mv (.t 3)), oO 2 (.mv (.t 29))] []) .ret))))
theorem fn33 : Fn3 Tryd.prog 33 30 [(2, none)] fc33 := ⟨_, _, Tryd.func33, rfl, rfl, rfl, by kernel_rfl⟩
def windlassref07_Writes_s (n_00 : Node) : Option (List Int) :=
  (jp (fun (s_2 : (List Int)) => (some s_2)) (fun k_1 => (jp (fun (s_4 : Bool) => (if s_4 then ((windlassref07_add_n_o_s ([n_00.D])).bind fun (add_5 : (List Int)) => (k_1 add_5)) else (if (n_00.Op == 15) then ((windlassref07_add_n_o_s ([n_00.D, n_00.E])).bind fun (add_6 : (List Int)) => (k_1 add_6)) else (k_1 [])))) (fun k_3 => (if (n_00.Op == 1) then (k_3 (n_00.Op == 1)) else (if (n_00.Op == 2) then (k_3 (n_00.Op == 2)) else (if (n_00.Op == 3) then (k_3 (n_00.Op == 3)) else (if (n_00.Op == 4) then (k_3 (n_00.Op == 4)) else (if (n_00.Op == 6) then (k_3 (n_00.Op == 6)) else (if (n_00.Op == 7) then (k_3 (n_00.Op == 7)) else (if (n_00.Op == 11) then (k_3 (n_00.Op == 11)) else (k_3 (n_00.Op == 16)))))))))))))
theorem windlassref07_Writes_ev {n_00 : Node} {r : (List Int)} (h : windlassref07_Writes_s n_00 = some r) : PureEv Tryd.prog 33 [(Node.av n_00)] (.sl false 1 (List.map (avI .i64) r)) := by
 unfold windlassref07_Writes_s at h
 refine PureEv_end mixed fn33 (by simp) [] 6 ?_
 unfold fc33
 refine E_sq (E_reg (E_op0 (v' := (.cptr (Node.av n_00).cells 0)) rfl rfl (E_mv (v' := .nils) rfl (E_nil (E_nx (E_sq (E_reg (E_mv (v' := .nils) rfl (E_nil (E_nx (E_as (E_sq (E_reg (E_op0 (v' := (.cptr (Node.av n_00).cells 0)) rfl rfl (E_op0 (v' := .int .u8 n_00.Op) rfl rfl ?_)))))))))))))))
 refine E_nil (E_nx ?_)
 refine E_jp h (fun s_2 => [(3, (.ref 0 1 0 (List.length s_2) none))]) (fun s_2 => [.arr 1 (flat (avI .i64) s_2)]) (fun k_1 h => ?_) (fun s_2 h => ?_)
 {
 refine E_block (E_as (E_sq (E_reg (E_op0 (v' := .bool (n_00.Op == 1)) rfl rfl (E_mv (v' := .bool (n_00.Op == 1)) rfl (E_nil (E_nx ?_)))))))
 refine E_jp h (fun s_4 => [(1, (.cptr (Node.av n_00).cells 0)), (3, .nils), (5, (.int .u8 n_00.Op)), (6, (.bool s_4))]) (fun s_4 => []) (fun k_3 h => ?_) (fun s_4 h => ?_)
 {
 refine E_cs (t := (n_00.Op == 1)) rfl (fun hb => ?_) (fun hb => ?_)
 {
 rw [ite_t hb] at h
 refine E_skip ?_
 exact E_jx _ h (wk_aw ⟨(.refl _), (.refl _), (.refl _), (.refl _), trivial⟩)
 }
 {
 rw [ite_f hb] at h
 refine E_sq (E_reg (E_op0 (v' := .bool (n_00.Op == 2)) rfl rfl (E_mv (v' := .bool (n_00.Op == 2)) rfl (E_nil (E_nx ?_)))))
 refine E_cs (t := (n_00.Op == 2)) rfl (fun hb => ?_) (fun hb => ?_)
 {
 rw [ite_t hb] at h
 refine E_skip ?_
 exact E_jx _ h (wk_aw ⟨(.refl _), (.refl _), (.refl _), (.refl _), trivial⟩)
 }
 {
 rw [ite_f hb] at h
 refine E_sq (E_reg (E_op0 (v' := .bool (n_00.Op == 3)) rfl rfl (E_mv (v' := .bool (n_00.Op == 3)) rfl (E_nil (E_nx ?_)))))
 refine E_cs (t := (n_00.Op == 3)) rfl (fun hb => ?_) (fun hb => ?_)
 {
 rw [ite_t hb] at h
 refine E_skip ?_
 exact E_jx _ h (wk_aw ⟨(.refl _), (.refl _), (.refl _), (.refl _), trivial⟩)
 }
 {
 rw [ite_f hb] at h
 refine E_sq (E_reg (E_op0 (v' := .bool (n_00.Op == 4)) rfl rfl (E_mv (v' := .bool (n_00.Op == 4)) rfl (E_nil (E_nx ?_)))))
 refine E_cs (t := (n_00.Op == 4)) rfl (fun hb => ?_) (fun hb => ?_)
 {
 rw [ite_t hb] at h
 refine E_skip ?_
 exact E_jx _ h (wk_aw ⟨(.refl _), (.refl _), (.refl _), (.refl _), trivial⟩)
 }
 {
 rw [ite_f hb] at h
 refine E_sq (E_reg (E_op0 (v' := .bool (n_00.Op == 6)) rfl rfl (E_mv (v' := .bool (n_00.Op == 6)) rfl (E_nil (E_nx ?_)))))
 refine E_cs (t := (n_00.Op == 6)) rfl (fun hb => ?_) (fun hb => ?_)
 {
 rw [ite_t hb] at h
 refine E_skip ?_
 exact E_jx _ h (wk_aw ⟨(.refl _), (.refl _), (.refl _), (.refl _), trivial⟩)
 }
 {
 rw [ite_f hb] at h
 refine E_sq (E_reg (E_op0 (v' := .bool (n_00.Op == 7)) rfl rfl (E_mv (v' := .bool (n_00.Op == 7)) rfl (E_nil (E_nx ?_)))))
 refine E_cs (t := (n_00.Op == 7)) rfl (fun hb => ?_) (fun hb => ?_)
 {
 rw [ite_t hb] at h
 refine E_skip ?_
 exact E_jx _ h (wk_aw ⟨(.refl _), (.refl _), (.refl _), (.refl _), trivial⟩)
 }
 {
 rw [ite_f hb] at h
 refine E_sq (E_reg (E_op0 (v' := .bool (n_00.Op == 11)) rfl rfl (E_mv (v' := .bool (n_00.Op == 11)) rfl (E_nil (E_nx ?_)))))
 refine E_cs (t := (n_00.Op == 11)) rfl (fun hb => ?_) (fun hb => ?_)
 {
 rw [ite_t hb] at h
 refine E_skip ?_
 exact E_jx _ h (wk_aw ⟨(.refl _), (.refl _), (.refl _), (.refl _), trivial⟩)
 }
 {
 rw [ite_f hb] at h
 refine E_reg (E_op0 (v' := .bool (n_00.Op == 16)) rfl rfl (E_mv (v' := .bool (n_00.Op == 16)) rfl (E_nil ?_)))
 exact E_jx _ h (wk_aw ⟨(.refl _), (.refl _), (.refl _), (.refl _), trivial⟩)
 }
 }
 }
 }
 }
 }
 }
 }
 {
 refine E_cs (t := s_4) rfl (fun hb => ?_) (fun hb => ?_)
 {
 rw [ite_t hb] at h
 refine E_reg (E_mv (v' := .nils) rfl (E_op0 (v' := (.cptr (Node.av n_00).cells 2)) rfl rfl (E_op0 (v' := .int .i64 n_00.D) rfl rfl (E_opw (v' := (.sl true 1 (List.map (avI .i64) [n_00.D]))) rfl (.refl _) rfl ?_))))
 obtain ⟨add_5, hadd_5, h⟩ := bd_some h
 refine E_callF (S' := [.arr 1 (flat (avI .i64) add_5)]) (r' := (.ref 0 1 0 (List.length add_5) none)) (windlassref07_add_n_o_ev hadd_5) [] rfl rfl (by decide) rfl rfl trivial ⟨(fr_outN rfl rfl (.refl ((encI .i64).blwf 0 _)) rfl), trivial⟩ trivial rfl (.cons (rn_b rfl) (.cons (.base ((encI .i64).blws 0) .ex) (.nil (Nat.zero_le _)))) (fo_ref rfl rfl rfl rfl) ?_
 refine E_mv (v' := (.ref 0 1 0 (List.length add_5) none)) rfl (E_nil (E_bln ?_))
 exact E_jx _ h (wk_rn [some (0, 0)] rfl (Nat.le_of_ble_eq_true rfl) ⟨(rn_ob rfl rfl (.refl ((encI .i64).blwf 0 _)) rfl), trivial⟩ ⟨(rn_refL (encI .i64) rfl rfl rfl), trivial⟩)
 }
 {
 rw [ite_f hb] at h
 refine E_sq (E_reg (E_op0 (v' := .bool (n_00.Op == 15)) rfl rfl (E_mv (v' := .bool (n_00.Op == 15)) rfl (E_nil (E_nx ?_)))))
 refine E_cs (t := (n_00.Op == 15)) rfl (fun hb => ?_) (fun hb => ?_)
 {
 rw [ite_t hb] at h
 refine E_reg (E_mv (v' := .nils) rfl (E_op0 (v' := (.cptr (Node.av n_00).cells 2)) rfl rfl (E_op0 (v' := .int .i64 n_00.D) rfl rfl (E_op0 (v' := (.cptr (Node.av n_00).cells 3)) rfl rfl (E_op0 (v' := .int .i64 n_00.E) rfl rfl (E_opw (v' := (.sl true 1 (List.map (avI .i64) [n_00.D, n_00.E]))) rfl (.refl _) rfl ?_))))))
 obtain ⟨add_6, hadd_6, h⟩ := bd_some h
 refine E_callF (S' := [.arr 1 (flat (avI .i64) add_6)]) (r' := (.ref 0 1 0 (List.length add_6) none)) (windlassref07_add_n_o_ev hadd_6) [] rfl rfl (by decide) rfl rfl trivial ⟨(fr_outN rfl rfl (.refl ((encI .i64).blwf 0 _)) rfl), trivial⟩ trivial rfl (.cons (rn_b rfl) (.cons (.base ((encI .i64).blws 0) .ex) (.nil (Nat.zero_le _)))) (fo_ref rfl rfl rfl rfl) ?_
 refine E_mv (v' := (.ref 0 1 0 (List.length add_6) none)) rfl (E_nil (E_bln ?_))
 exact E_jx _ h (wk_rn [some (0, 0)] rfl (Nat.le_of_ble_eq_true rfl) ⟨(rn_ob rfl rfl (.refl ((encI .i64).blwf 0 _)) rfl), trivial⟩ ⟨(rn_refL (encI .i64) rfl rfl rfl), trivial⟩)
 }
 {
 rw [ite_f hb] at h
 refine E_skip (E_bln ?_)
 exact E_jx _ h (wk_rn [none] rfl (Nat.le_of_ble_eq_true rfl) ⟨(rn_obN rfl rfl rfl), trivial⟩ ⟨(rn_nil rfl), trivial⟩)
 }
 }
 }
 }
 {
 refine E_sq (E_reg (E_mv (v' := (.ref 0 1 0 (List.length s_2) none)) rfl (E_mv (v' := (.ref 0 1 0 (List.length s_2) none)) rfl (E_nil (E_nx (E_ret ?_))))))
 cases h
 exact ⟨trivial, _, rfl, (fz_ref (encI .i64) (Nat.zero_le _) rfl)⟩
 }
end Go.Proofs.YtgoejecjmodjiaaDoor

