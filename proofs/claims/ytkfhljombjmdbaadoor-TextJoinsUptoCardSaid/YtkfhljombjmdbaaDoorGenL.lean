/- What the functions compute, and that they do (printed by wip/gen/gen.py), part 1. -/
import Derived.Test.YtkfhljombjmdbaaDoorWlH1
import Derived.Test.YtkfhljombjmdbaaDoorRows
import Derived.Test.YtkfhljombjmdbaaDoorTxN
namespace Go.Proofs.YtkfhljombjmdbaaDoor
open Go Go.Ab
set_option maxRecDepth 20000
set_option maxHeartbeats 2000000
set_option linter.unusedVariables false
set_option linter.unusedSimpArgs false
/- windlass/windlasslaw04.first -/
def fc19 : FC := (.seq (.reg [⟨(some 0), none, .op (.mv (.v (.bool false)))⟩] [])
  (.seq (.reg [⟨(some 5), none, .call 20 [(.v (.str (ByteArray.mk #[35, 32, 120, 10, 102, 117, 110, 99, 32, 49, 32, 110, 112, 32, 49, 32, 48, 10, 32, 32, 103, 101, 116, 32, 32, 48, 10, 99, 111, 110, 115, 116, 32, 55, 10])))]⟩,
  ⟨(some 4), none, .op (.mv (.t 5))⟩,
  ⟨(some 6), none, .op (.ext 0 (.t 4))⟩,
  ⟨(some 7), none, .op (.ext 1 (.t 4))⟩,
  ⟨(some 8), none, .op (.ext 2 (.t 4))⟩,
  ⟨(some 1), none, .op (.new [.nils])⟩,
  ⟨none, none, .op (.store 1 (.t 1) (.t 6))⟩,
  ⟨(some 2), none, .op (.mv (.t 7))⟩,
  ⟨(some 3), none, .op (.mv (.t 8))⟩] [])
  (.seq (.reg [⟨(some 9), none, .op (.mv (.t 3))⟩,
  ⟨(some 10), none, .op (.bin .none .eql (.t 9) (.v (.int .i64 0)))⟩,
  ⟨(some 11), none, .op (.mv (.t 10))⟩,
  ⟨(some 12), some (11, true), .op (.mv (.t 2))⟩,
  ⟨(some 13), some (11, true), .op (.bin .none .eql (.t 12) (.v (.int .i64 0)))⟩,
  ⟨(some 14), none, .op (.pick (.t 11) (.t 13) (.v (.bool false)))⟩,
  ⟨(some 15), none, .op (.mv (.t 14))⟩,
  ⟨(some 16), some (15, true), .op (.fad 0 (.t 1))⟩,
  ⟨(some 17), some (15, true), .op (.load none (.t 16))⟩,
  ⟨(some 18), some (15, true), .op (.len .sl (.t 17))⟩,
  ⟨(some 19), some (15, true), .op (.bin .none .eql (.t 18) (.v (.int .i64 1)))⟩,
  ⟨(some 20), none, .op (.pick (.t 15) (.t 19) (.v (.bool false)))⟩,
  ⟨(some 21), none, .op (.mv (.t 20))⟩,
  ⟨(some 22), some (21, true), .op (.fad 0 (.t 1))⟩,
  ⟨(some 23), some (21, true), .op (.load none (.t 22))⟩,
  ⟨(some 24), some (21, true), .op (.iad none (some 5) (.t 23) (.v (.int .i64 0)))⟩,
  ⟨(some 25), some (21, true), .op (.fad 0 (.t 24))⟩,
  ⟨(some 26), some (21, true), .op (.load none (.t 25))⟩,
  ⟨(some 27), some (21, true), .op (.bin .none .eql (.t 26) (.v (.int .i64 1)))⟩,
  ⟨(some 28), none, .op (.pick (.t 21) (.t 27) (.v (.bool false)))⟩,
  ⟨(some 29), none, .op (.mv (.t 28))⟩,
  ⟨(some 30), some (29, true), .op (.fad 0 (.t 1))⟩,
  ⟨(some 31), some (29, true), .op (.load none (.t 30))⟩,
  ⟨(some 32), some (29, true), .op (.iad none (some 5) (.t 31) (.v (.int .i64 0)))⟩,
  ⟨(some 33), some (29, true), .op (.fad 1 (.t 32))⟩,
  ⟨(some 34), some (29, true), .op (.load none (.t 33))⟩,
  ⟨(some 35), some (29, true), .op (.len .sl (.t 34))⟩,
  ⟨(some 36), some (29, true), .op (.bin .none .eql (.t 35) (.v (.int .i64 2)))⟩,
  ⟨(some 37), none, .op (.pick (.t 29) (.t 36) (.v (.bool false)))⟩,
  ⟨(some 38), none, .op (.mv (.t 37))⟩,
  ⟨(some 39), some (38, true), .op (.fad 0 (.t 1))⟩,
  ⟨(some 40), some (38, true), .op (.load none (.t 39))⟩,
  ⟨(some 41), some (38, true), .op (.iad none (some 5) (.t 40) (.v (.int .i64 0)))⟩,
  ⟨(some 42), some (38, true), .op (.fad 3 (.t 41))⟩,
  ⟨(some 43), some (38, true), .op (.load none (.t 42))⟩,
  ⟨(some 44), some (38, true), .op (.bin .none .eql (.t 43) (.v (.int .i64 0)))⟩,
  ⟨(some 45), none, .op (.pick (.t 38) (.t 44) (.v (.bool false)))⟩,
  ⟨(some 46), none, .op (.mv (.t 45))⟩,
  ⟨(some 47), some (46, true), .op (.fad 0 (.t 1))⟩,
  ⟨(some 48), some (46, true), .op (.load none (.t 47))⟩,
  ⟨(some 49), some (46, true), .op (.iad none (some 5) (.t 48) (.v (.int .i64 0)))⟩,
  ⟨(some 50), some (46, true), .op (.fad 4 (.t 49))⟩,
  ⟨(some 51), some (46, true), .op (.load none (.t 50))⟩,
  ⟨(some 52), some (46, true), .op (.len .sl (.t 51))⟩,
  ⟨(some 53), some (46, true), .op (.bin .none .eql (.t 52) (.v (.int .i64 2)))⟩,
  ⟨(some 54), none, .op (.pick (.t 46) (.t 53) (.v (.bool false)))⟩,
  ⟨(some 55), none, .op (.mv (.t 54))⟩,
  ⟨(some 56), some (55, true), .op (.fad 0 (.t 1))⟩,
  ⟨(some 57), some (55, true), .op (.load none (.t 56))⟩,
  ⟨(some 58), some (55, true), .op (.iad none (some 5) (.t 57) (.v (.int .i64 0)))⟩,
  ⟨(some 59), some (55, true), .op (.fad 4 (.t 58))⟩,
  ⟨(some 60), some (55, true), .op (.load none (.t 59))⟩,
  ⟨(some 61), some (55, true), .op (.iad none (some 3) (.t 60) (.v (.int .i64 1)))⟩,
  ⟨(some 62), some (55, true), .op (.fad 2 (.t 61))⟩,
  ⟨(some 63), some (55, true), .op (.load none (.t 62))⟩,
  ⟨(some 64), some (55, true), .op (.bin .none .eql (.t 63) (.v (.int .u64 7)))⟩,
  ⟨(some 65), none, .op (.pick (.t 55) (.t 64) (.v (.bool false)))⟩,
  ⟨(some 0), none, .op (.mv (.t 65))⟩] [])
  .ret)))
theorem fn19 : Fn3 Tryd.prog 19 66 [(0, none)] fc19 := ⟨_, _, Tryd.func19, rfl, rfl, rfl, by kernel_rfl⟩
def windlasslaw04_first_s  : Option Bool :=
  ((text_Parse_s (ByteArray.mk #[35, 32, 120, 10, 102, 117, 110, 99, 32, 49, 32, 110, 112, 32, 49, 32, 48, 10, 32, 32, 103, 101, 116, 32, 32, 48, 10, 99, 111, 110, 115, 116, 32, 55, 10])).bind fun par_1 => (jp (fun (s_3 : Bool) => (some s_3)) (fun k_2 => (if (par_1.2.2 == 0) then (if (par_1.2.1 == 0) then (if ((List.length par_1.1.Funcs : Int) == 1) then ((getI par_1.1.Funcs 0).bind fun y_4 => (if (y_4.Params == 1) then (if ((List.length y_4.Locals : Int) == 2) then (if (y_4.Keep == 0) then (if ((List.length y_4.Code : Int) == 2) then ((getI y_4.Code 1).bind fun y_5 => (k_2 (y_5.Imm == 7))) else (k_2 false)) else (k_2 false)) else (k_2 false)) else (k_2 false))) else (k_2 false)) else (k_2 false)) else (k_2 false)))))
theorem windlasslaw04_first_ev  {r : Bool} (h : windlasslaw04_first_s  = some r) : PureEv Tryd.prog 19 [] (.bool r) := by
  unfold windlasslaw04_first_s at h
  refine PureEv_end mixed fn19 (by simp) [1] 6 ?_
  unfold fc19
  refine E_sq ?_
  refine E_reg ?_
  refine E_mv (v' := (.bool false)) rfl ?_
  refine E_nil ?_
  refine E_nx ?_
  refine E_sq ?_
  refine E_reg ?_
  obtain ⟨par_1, hpar_1, h⟩ := bd_some h
  refine E_callW (text_Parse_ev  hpar_1) rfl ⟨(.refl _), trivial⟩ (blwL_of ⟨rfl, trivial⟩) (tup_blw ⟨(Program.enc.blw _ 0), rfl, rfl, trivial⟩) ?_
  refine E_mv (v' := (.tup [(Program.av par_1.1), (.int .i64 par_1.2.1), (.int .i64 par_1.2.2)])) rfl ?_
  refine E_op0 (v' := (Program.av par_1.1)) rfl rfl ?_
  refine E_op0 (v' := (.int .i64 par_1.2.1)) rfl rfl ?_
  refine E_op0 (v' := (.int .i64 par_1.2.2)) rfl rfl ?_
  refine E_op (v' := .ptr 0 0 0) (S' := [.arr 0 [.nils]]) rfl rfl rfl ?_
  refine E_do (S' := [.arr 0 [(.sl false 5 (List.map Func.av par_1.1.Funcs))]]) rfl rfl ?_
  refine E_mv (v' := (.int .i64 par_1.2.1)) rfl ?_
  refine E_mv (v' := (.int .i64 par_1.2.2)) rfl ?_
  refine E_nil ?_
  refine E_nx ?_
  refine E_jp h (fun s_3 => [(0, (.bool s_3))]) (fun s_3 => []) (fun k_2 h => ?_) (fun s_3 h => ?_)
  · refine E_reg ?_
    refine E_mv (v' := (.int .i64 par_1.2.2)) (by kernel_rfl) ?_
    refine E_op0 (v := (.bool (par_1.2.2 == 0))) (v' := (.bool (par_1.2.2 == 0))) (by kernel_rfl) rfl ?_
    refine E_mv (v' := (.bool (par_1.2.2 == 0))) (by kernel_rfl) ?_
    refine E_gsT (b := (par_1.2.2 == 0)) rfl rfl rfl (fun hb => ?_) (fun hb => ?_)
    · rw [ite_t hb] at h
      refine E_mv (v' := (.int .i64 par_1.2.1)) (by kernel_rfl) ?_
      refine E_gh rfl ?_
      refine E_op0 (v := (.bool (par_1.2.1 == 0))) (v' := (.bool (par_1.2.1 == 0))) (by kernel_rfl) rfl ?_
      refine E_pt rfl rfl ?_
      refine E_mv (v' := (.bool (par_1.2.1 == 0))) (by kernel_rfl) ?_
      refine E_gsT (b := (par_1.2.1 == 0)) rfl rfl rfl (fun hb => ?_) (fun hb => ?_)
      · rw [ite_t hb] at h
        refine E_op0 (v := (.ptr 0 0 0)) (v' := (.ptr 0 0 0)) (by kernel_rfl) rfl ?_
        refine E_gh rfl ?_
        refine E_op (v' := (.sl false 5 (List.map Func.av par_1.1.Funcs))) (S' := [.arr 0 [(.sl false 5 (List.map Func.av par_1.1.Funcs))]]) rfl rfl rfl ?_
        refine E_gh rfl ?_
        refine E_len rfl ?_
        refine E_gh rfl ?_
        refine E_op0 (v := (.bool ((List.length par_1.1.Funcs : Int) == 1))) (v' := (.bool ((List.length par_1.1.Funcs : Int) == 1))) (by kernel_rfl) rfl ?_
        refine E_pt rfl rfl ?_
        refine E_mv (v' := (.bool ((List.length par_1.1.Funcs : Int) == 1))) (by kernel_rfl) ?_
        refine E_gsT (b := ((List.length par_1.1.Funcs : Int) == 1)) rfl rfl rfl (fun hb => ?_) (fun hb => ?_)
        · rw [ite_t hb] at h
          refine E_op0 (v := (.ptr 0 0 0)) (v' := (.ptr 0 0 0)) (by kernel_rfl) rfl ?_
          refine E_gh rfl ?_
          refine E_op (v' := (.sl false 5 (List.map Func.av par_1.1.Funcs))) (S' := [.arr 0 [(.sl false 5 (List.map Func.av par_1.1.Funcs))]]) rfl rfl rfl ?_
          refine E_gh rfl ?_
          obtain ⟨y_4, hy_4, h⟩ := bd_some h
          refine E_iadF rfl rfl hy_4 ?_
          refine E_gh rfl ?_
          refine E_op0 (v := (.cptr (Func.av y_4).cells 0)) (v' := (.cptr (Func.av y_4).cells 0)) (by kernel_rfl) rfl ?_
          refine E_gh rfl ?_
          refine E_op0 (v := (.int .i64 y_4.Params)) (v' := (.int .i64 y_4.Params)) (by kernel_rfl) rfl ?_
          refine E_gh rfl ?_
          refine E_op0 (v := (.bool (y_4.Params == 1))) (v' := (.bool (y_4.Params == 1))) (by kernel_rfl) rfl ?_
          refine E_pt rfl rfl ?_
          refine E_mv (v' := (.bool (y_4.Params == 1))) (by kernel_rfl) ?_
          refine E_gsT (b := (y_4.Params == 1)) rfl rfl rfl (fun hb => ?_) (fun hb => ?_)
          · rw [ite_t hb] at h
            refine E_op0 (v := (.ptr 0 0 0)) (v' := (.ptr 0 0 0)) (by kernel_rfl) rfl ?_
            refine E_gh rfl ?_
            refine E_op (v' := (.sl false 5 (List.map Func.av par_1.1.Funcs))) (S' := [.arr 0 [(.sl false 5 (List.map Func.av par_1.1.Funcs))]]) rfl rfl rfl ?_
            refine E_gh rfl ?_
            refine E_iadF rfl rfl hy_4 ?_
            refine E_gh rfl ?_
            refine E_op0 (v := (.cptr (Func.av y_4).cells 1)) (v' := (.cptr (Func.av y_4).cells 1)) (by kernel_rfl) rfl ?_
            refine E_gh rfl ?_
            refine E_op0 (v := (.sl false 1 (List.map (avI .u8) y_4.Locals))) (v' := (.sl false 1 (List.map (avI .u8) y_4.Locals))) (by kernel_rfl) rfl ?_
            refine E_gh rfl ?_
            refine E_len rfl ?_
            refine E_gh rfl ?_
            refine E_op0 (v := (.bool ((List.length y_4.Locals : Int) == 2))) (v' := (.bool ((List.length y_4.Locals : Int) == 2))) (by kernel_rfl) rfl ?_
            refine E_pt rfl rfl ?_
            refine E_mv (v' := (.bool ((List.length y_4.Locals : Int) == 2))) (by kernel_rfl) ?_
            refine E_gsT (b := ((List.length y_4.Locals : Int) == 2)) rfl rfl rfl (fun hb => ?_) (fun hb => ?_)
            · rw [ite_t hb] at h
              refine E_op0 (v := (.ptr 0 0 0)) (v' := (.ptr 0 0 0)) (by kernel_rfl) rfl ?_
              refine E_gh rfl ?_
              refine E_op (v' := (.sl false 5 (List.map Func.av par_1.1.Funcs))) (S' := [.arr 0 [(.sl false 5 (List.map Func.av par_1.1.Funcs))]]) rfl rfl rfl ?_
              refine E_gh rfl ?_
              refine E_iadF rfl rfl hy_4 ?_
              refine E_gh rfl ?_
              refine E_op0 (v := (.cptr (Func.av y_4).cells 3)) (v' := (.cptr (Func.av y_4).cells 3)) (by kernel_rfl) rfl ?_
              refine E_gh rfl ?_
              refine E_op0 (v := (.int .i64 y_4.Keep)) (v' := (.int .i64 y_4.Keep)) (by kernel_rfl) rfl ?_
              refine E_gh rfl ?_
              refine E_op0 (v := (.bool (y_4.Keep == 0))) (v' := (.bool (y_4.Keep == 0))) (by kernel_rfl) rfl ?_
              refine E_pt rfl rfl ?_
              refine E_mv (v' := (.bool (y_4.Keep == 0))) (by kernel_rfl) ?_
              refine E_gsT (b := (y_4.Keep == 0)) rfl rfl rfl (fun hb => ?_) (fun hb => ?_)
              · rw [ite_t hb] at h
                refine E_op0 (v := (.ptr 0 0 0)) (v' := (.ptr 0 0 0)) (by kernel_rfl) rfl ?_
                refine E_gh rfl ?_
                refine E_op (v' := (.sl false 5 (List.map Func.av par_1.1.Funcs))) (S' := [.arr 0 [(.sl false 5 (List.map Func.av par_1.1.Funcs))]]) rfl rfl rfl ?_
                refine E_gh rfl ?_
                refine E_iadF rfl rfl hy_4 ?_
                refine E_gh rfl ?_
                refine E_op0 (v := (.cptr (Func.av y_4).cells 4)) (v' := (.cptr (Func.av y_4).cells 4)) (by kernel_rfl) rfl ?_
                refine E_gh rfl ?_
                refine E_op0 (v := (.sl false 3 (List.map Instr.av y_4.Code))) (v' := (.sl false 3 (List.map Instr.av y_4.Code))) (by kernel_rfl) rfl ?_
                refine E_gh rfl ?_
                refine E_len rfl ?_
                refine E_gh rfl ?_
                refine E_op0 (v := (.bool ((List.length y_4.Code : Int) == 2))) (v' := (.bool ((List.length y_4.Code : Int) == 2))) (by kernel_rfl) rfl ?_
                refine E_pt rfl rfl ?_
                refine E_mv (v' := (.bool ((List.length y_4.Code : Int) == 2))) (by kernel_rfl) ?_
                refine E_gsT (b := ((List.length y_4.Code : Int) == 2)) rfl rfl rfl (fun hb => ?_) (fun hb => ?_)
                · rw [ite_t hb] at h
                  refine E_op0 (v := (.ptr 0 0 0)) (v' := (.ptr 0 0 0)) (by kernel_rfl) rfl ?_
                  refine E_gh rfl ?_
                  refine E_op (v' := (.sl false 5 (List.map Func.av par_1.1.Funcs))) (S' := [.arr 0 [(.sl false 5 (List.map Func.av par_1.1.Funcs))]]) rfl rfl rfl ?_
                  refine E_gh rfl ?_
                  refine E_iadF rfl rfl hy_4 ?_
                  refine E_gh rfl ?_
                  refine E_op0 (v := (.cptr (Func.av y_4).cells 4)) (v' := (.cptr (Func.av y_4).cells 4)) (by kernel_rfl) rfl ?_
                  refine E_gh rfl ?_
                  refine E_op0 (v := (.sl false 3 (List.map Instr.av y_4.Code))) (v' := (.sl false 3 (List.map Instr.av y_4.Code))) (by kernel_rfl) rfl ?_
                  refine E_gh rfl ?_
                  obtain ⟨y_5, hy_5, h⟩ := bd_some h
                  refine E_iadF rfl rfl hy_5 ?_
                  refine E_gh rfl ?_
                  refine E_op0 (v := (.cptr (Instr.av y_5).cells 2)) (v' := (.cptr (Instr.av y_5).cells 2)) (by kernel_rfl) rfl ?_
                  refine E_gh rfl ?_
                  refine E_op0 (v := (.int .u64 y_5.Imm)) (v' := (.int .u64 y_5.Imm)) (by kernel_rfl) rfl ?_
                  refine E_gh rfl ?_
                  refine E_op0 (v := (.bool (y_5.Imm == 7))) (v' := (.bool (y_5.Imm == 7))) (by kernel_rfl) rfl ?_
                  refine E_pt rfl rfl ?_
                  refine E_mv (v' := (.bool (y_5.Imm == 7))) (by kernel_rfl) ?_
                  refine E_nil ?_
                  exact E_jx _ h (wk_rn [] rfl (Nat.le_of_ble_eq_true rfl) trivial ⟨(rn_b rfl), trivial⟩)
                · rw [ite_f hb] at h
                  refine E_gm rfl ?_
                  refine E_gm rfl ?_
                  refine E_gm rfl ?_
                  refine E_gm rfl ?_
                  refine E_gm rfl ?_
                  refine E_gm rfl ?_
                  refine E_gm rfl ?_
                  refine E_gm rfl ?_
                  refine E_pf rfl rfl ?_
                  refine E_mv (v' := (.bool false)) (by kernel_rfl) ?_
                  refine E_nil ?_
                  exact E_jx _ h (wk_rn [] rfl (Nat.le_of_ble_eq_true rfl) trivial ⟨(rn_b rfl), trivial⟩)
              · rw [ite_f hb] at h
                refine E_gm rfl ?_
                refine E_gm rfl ?_
                refine E_gm rfl ?_
                refine E_gm rfl ?_
                refine E_gm rfl ?_
                refine E_gm rfl ?_
                refine E_pf rfl rfl ?_
                refine E_mv (v' := (.bool false)) (by kernel_rfl) ?_
                refine E_gm rfl ?_
                refine E_gm rfl ?_
                refine E_gm rfl ?_
                refine E_gm rfl ?_
                refine E_gm rfl ?_
                refine E_gm rfl ?_
                refine E_gm rfl ?_
                refine E_gm rfl ?_
                refine E_gm rfl ?_
                refine E_pf rfl rfl ?_
                refine E_mv (v' := (.bool false)) (by kernel_rfl) ?_
                refine E_nil ?_
                exact E_jx _ h (wk_rn [] rfl (Nat.le_of_ble_eq_true rfl) trivial ⟨(rn_b rfl), trivial⟩)
            · rw [ite_f hb] at h
              refine E_gm rfl ?_
              refine E_gm rfl ?_
              refine E_gm rfl ?_
              refine E_gm rfl ?_
              refine E_gm rfl ?_
              refine E_pf rfl rfl ?_
              refine E_mv (v' := (.bool false)) (by kernel_rfl) ?_
              refine E_gm rfl ?_
              refine E_gm rfl ?_
              refine E_gm rfl ?_
              refine E_gm rfl ?_
              refine E_gm rfl ?_
              refine E_gm rfl ?_
              refine E_gm rfl ?_
              refine E_pf rfl rfl ?_
              refine E_mv (v' := (.bool false)) (by kernel_rfl) ?_
              refine E_gm rfl ?_
              refine E_gm rfl ?_
              refine E_gm rfl ?_
              refine E_gm rfl ?_
              refine E_gm rfl ?_
              refine E_gm rfl ?_
              refine E_gm rfl ?_
              refine E_gm rfl ?_
              refine E_gm rfl ?_
              refine E_pf rfl rfl ?_
              refine E_mv (v' := (.bool false)) (by kernel_rfl) ?_
              refine E_nil ?_
              exact E_jx _ h (wk_rn [] rfl (Nat.le_of_ble_eq_true rfl) trivial ⟨(rn_b rfl), trivial⟩)
          · rw [ite_f hb] at h
            refine E_gm rfl ?_
            refine E_gm rfl ?_
            refine E_gm rfl ?_
            refine E_gm rfl ?_
            refine E_gm rfl ?_
            refine E_gm rfl ?_
            refine E_pf rfl rfl ?_
            refine E_mv (v' := (.bool false)) (by kernel_rfl) ?_
            refine E_gm rfl ?_
            refine E_gm rfl ?_
            refine E_gm rfl ?_
            refine E_gm rfl ?_
            refine E_gm rfl ?_
            refine E_gm rfl ?_
            refine E_pf rfl rfl ?_
            refine E_mv (v' := (.bool false)) (by kernel_rfl) ?_
            refine E_gm rfl ?_
            refine E_gm rfl ?_
            refine E_gm rfl ?_
            refine E_gm rfl ?_
            refine E_gm rfl ?_
            refine E_gm rfl ?_
            refine E_gm rfl ?_
            refine E_pf rfl rfl ?_
            refine E_mv (v' := (.bool false)) (by kernel_rfl) ?_
            refine E_gm rfl ?_
            refine E_gm rfl ?_
            refine E_gm rfl ?_
            refine E_gm rfl ?_
            refine E_gm rfl ?_
            refine E_gm rfl ?_
            refine E_gm rfl ?_
            refine E_gm rfl ?_
            refine E_gm rfl ?_
            refine E_pf rfl rfl ?_
            refine E_mv (v' := (.bool false)) (by kernel_rfl) ?_
            refine E_nil ?_
            exact E_jx _ h (wk_rn [] rfl (Nat.le_of_ble_eq_true rfl) trivial ⟨(rn_b rfl), trivial⟩)
        · rw [ite_f hb] at h
          refine E_gm rfl ?_
          refine E_gm rfl ?_
          refine E_gm rfl ?_
          refine E_gm rfl ?_
          refine E_gm rfl ?_
          refine E_pf rfl rfl ?_
          refine E_mv (v' := (.bool false)) (by kernel_rfl) ?_
          refine E_gm rfl ?_
          refine E_gm rfl ?_
          refine E_gm rfl ?_
          refine E_gm rfl ?_
          refine E_gm rfl ?_
          refine E_gm rfl ?_
          refine E_gm rfl ?_
          refine E_pf rfl rfl ?_
          refine E_mv (v' := (.bool false)) (by kernel_rfl) ?_
          refine E_gm rfl ?_
          refine E_gm rfl ?_
          refine E_gm rfl ?_
          refine E_gm rfl ?_
          refine E_gm rfl ?_
          refine E_gm rfl ?_
          refine E_pf rfl rfl ?_
          refine E_mv (v' := (.bool false)) (by kernel_rfl) ?_
          refine E_gm rfl ?_
          refine E_gm rfl ?_
          refine E_gm rfl ?_
          refine E_gm rfl ?_
          refine E_gm rfl ?_
          refine E_gm rfl ?_
          refine E_gm rfl ?_
          refine E_pf rfl rfl ?_
          refine E_mv (v' := (.bool false)) (by kernel_rfl) ?_
          refine E_gm rfl ?_
          refine E_gm rfl ?_
          refine E_gm rfl ?_
          refine E_gm rfl ?_
          refine E_gm rfl ?_
          refine E_gm rfl ?_
          refine E_gm rfl ?_
          refine E_gm rfl ?_
          refine E_gm rfl ?_
          refine E_pf rfl rfl ?_
          refine E_mv (v' := (.bool false)) (by kernel_rfl) ?_
          refine E_nil ?_
          exact E_jx _ h (wk_rn [] rfl (Nat.le_of_ble_eq_true rfl) trivial ⟨(rn_b rfl), trivial⟩)
      · rw [ite_f hb] at h
        refine E_gm rfl ?_
        refine E_gm rfl ?_
        refine E_gm rfl ?_
        refine E_pf rfl rfl ?_
        refine E_mv (v' := (.bool false)) (by kernel_rfl) ?_
        refine E_gm rfl ?_
        refine E_gm rfl ?_
        refine E_gm rfl ?_
        refine E_gm rfl ?_
        refine E_gm rfl ?_
        refine E_gm rfl ?_
        refine E_pf rfl rfl ?_
        refine E_mv (v' := (.bool false)) (by kernel_rfl) ?_
        refine E_gm rfl ?_
        refine E_gm rfl ?_
        refine E_gm rfl ?_
        refine E_gm rfl ?_
        refine E_gm rfl ?_
        refine E_gm rfl ?_
        refine E_gm rfl ?_
        refine E_pf rfl rfl ?_
        refine E_mv (v' := (.bool false)) (by kernel_rfl) ?_
        refine E_gm rfl ?_
        refine E_gm rfl ?_
        refine E_gm rfl ?_
        refine E_gm rfl ?_
        refine E_gm rfl ?_
        refine E_gm rfl ?_
        refine E_pf rfl rfl ?_
        refine E_mv (v' := (.bool false)) (by kernel_rfl) ?_
        refine E_gm rfl ?_
        refine E_gm rfl ?_
        refine E_gm rfl ?_
        refine E_gm rfl ?_
        refine E_gm rfl ?_
        refine E_gm rfl ?_
        refine E_gm rfl ?_
        refine E_pf rfl rfl ?_
        refine E_mv (v' := (.bool false)) (by kernel_rfl) ?_
        refine E_gm rfl ?_
        refine E_gm rfl ?_
        refine E_gm rfl ?_
        refine E_gm rfl ?_
        refine E_gm rfl ?_
        refine E_gm rfl ?_
        refine E_gm rfl ?_
        refine E_gm rfl ?_
        refine E_gm rfl ?_
        refine E_pf rfl rfl ?_
        refine E_mv (v' := (.bool false)) (by kernel_rfl) ?_
        refine E_nil ?_
        exact E_jx _ h (wk_rn [] rfl (Nat.le_of_ble_eq_true rfl) trivial ⟨(rn_b rfl), trivial⟩)
    · rw [ite_f hb] at h
      refine E_gm rfl ?_
      refine E_pf rfl rfl ?_
      refine E_mv (v' := (.bool false)) (by kernel_rfl) ?_
      refine E_gm rfl ?_
      refine E_gm rfl ?_
      refine E_gm rfl ?_
      refine E_gm rfl ?_
      refine E_pf rfl rfl ?_
      refine E_mv (v' := (.bool false)) (by kernel_rfl) ?_
      refine E_gm rfl ?_
      refine E_gm rfl ?_
      refine E_gm rfl ?_
      refine E_gm rfl ?_
      refine E_gm rfl ?_
      refine E_gm rfl ?_
      refine E_pf rfl rfl ?_
      refine E_mv (v' := (.bool false)) (by kernel_rfl) ?_
      refine E_gm rfl ?_
      refine E_gm rfl ?_
      refine E_gm rfl ?_
      refine E_gm rfl ?_
      refine E_gm rfl ?_
      refine E_gm rfl ?_
      refine E_gm rfl ?_
      refine E_pf rfl rfl ?_
      refine E_mv (v' := (.bool false)) (by kernel_rfl) ?_
      refine E_gm rfl ?_
      refine E_gm rfl ?_
      refine E_gm rfl ?_
      refine E_gm rfl ?_
      refine E_gm rfl ?_
      refine E_gm rfl ?_
      refine E_pf rfl rfl ?_
      refine E_mv (v' := (.bool false)) (by kernel_rfl) ?_
      refine E_gm rfl ?_
      refine E_gm rfl ?_
      refine E_gm rfl ?_
      refine E_gm rfl ?_
      refine E_gm rfl ?_
      refine E_gm rfl ?_
      refine E_gm rfl ?_
      refine E_pf rfl rfl ?_
      refine E_mv (v' := (.bool false)) (by kernel_rfl) ?_
      refine E_gm rfl ?_
      refine E_gm rfl ?_
      refine E_gm rfl ?_
      refine E_gm rfl ?_
      refine E_gm rfl ?_
      refine E_gm rfl ?_
      refine E_gm rfl ?_
      refine E_gm rfl ?_
      refine E_gm rfl ?_
      refine E_pf rfl rfl ?_
      refine E_mv (v' := (.bool false)) (by kernel_rfl) ?_
      refine E_nil ?_
      exact E_jx _ h (wk_rn [] rfl (Nat.le_of_ble_eq_true rfl) trivial ⟨(rn_b rfl), trivial⟩)
  · refine E_ret ?_
    cases h
    exact ⟨trivial, _, rfl, (fz_b rfl (.refl _))⟩
def gc_windlasslaw04_TextJoins : FC := (.seq (.reg [⟨(some 2), none, .op (.box (.t 0))⟩,
  ⟨(some 3), none, .op (.box (.t 1))⟩,
  ⟨(some 4), none, .op (.mv (.v (.bool false)))⟩] [])
  (.seq (.seq (.reg [⟨(some 13), none, .call 19 []⟩,
  ⟨(some 14), none, .op (.un .not (.t 13))⟩] [])
  (.cond (.t 14)
  (.seq (.reg [⟨(some 4), none, .op (.mv (.v (.bool false)))⟩] [])
  .ret)
  .skip))
  (.seq (.reg [⟨(some 16), none, .op (.load (some 1) (.t 2))⟩,
  ⟨(some 17), none, .call 24 [(.t 16)]⟩,
  ⟨(some 15), none, .op (.mv (.t 17))⟩,
  ⟨(some 18), none, .op (.ext 0 (.t 15))⟩,
  ⟨(some 19), none, .op (.ext 1 (.t 15))⟩,
  ⟨(some 5), none, .op (.mv (.t 18))⟩,
  ⟨(some 6), none, .op (.mv (.t 19))⟩] [])
  (.seq (.reg [⟨(some 21), none, .op (.load (some 1) (.t 3))⟩,
  ⟨(some 22), none, .call 24 [(.t 21)]⟩,
  ⟨(some 20), none, .op (.mv (.t 22))⟩,
  ⟨(some 23), none, .op (.ext 0 (.t 20))⟩,
  ⟨(some 24), none, .op (.ext 1 (.t 20))⟩,
  ⟨(some 7), none, .op (.mv (.t 23))⟩,
  ⟨(some 8), none, .op (.mv (.t 24))⟩] [])
  (.seq (.seq (.reg [⟨(some 25), none, .op (.mv (.t 6))⟩,
  ⟨(some 26), none, .op (.bin .none .neq (.t 25) (.v (.int .i64 0)))⟩,
  ⟨(some 27), none, .op (.mv (.t 26))⟩,
  ⟨(some 28), some (27, false), .op (.mv (.t 8))⟩,
  ⟨(some 29), some (27, false), .op (.bin .none .neq (.t 28) (.v (.int .i64 0)))⟩,
  ⟨(some 30), none, .op (.pick (.t 27) (.v (.bool true)) (.t 29))⟩] [])
  (.cond (.t 30)
  (.seq (.reg [⟨(some 31), none, .op (.mv (.t 5))⟩,
  ⟨(some 32), none, .op (.bin .none .eql (.t 31) (.v (.str (ByteArray.mk #[]))))⟩,
  ⟨(some 33), none, .op (.mv (.t 32))⟩,
  ⟨(some 34), some (33, false), .op (.mv (.t 7))⟩,
  ⟨(some 35), some (33, false), .op (.bin .none .eql (.t 34) (.v (.str (ByteArray.mk #[]))))⟩,
  ⟨(some 36), none, .op (.pick (.t 33) (.v (.bool true)) (.t 35))⟩,
  ⟨(some 4), none, .op (.mv (.t 36))⟩] [])
  .ret)
  .skip))
  (.seq (.reg [⟨(some 37), none, .op (.bsl (some 5) [(.int .i64 0), .nils, (.bool false), (.int .i64 0), .nils] 0 [])⟩,
  ⟨(some 38), none, .op (.fad 0 (.t 2))⟩,
  ⟨(some 39), none, .op (.load none (.t 38))⟩,
  ⟨(some 40), none, .op (.app (some 5) 72 (.t 37) (.t 39))⟩,
  ⟨(some 41), none, .op (.fad 0 (.t 3))⟩,
  ⟨(some 42), none, .op (.load none (.t 41))⟩,
  ⟨(some 43), none, .op (.app (some 5) 72 (.t 40) (.t 42))⟩,
  ⟨(some 44), none, .op (.build [.nils] [(0, 1, (.t 43))])⟩,
  ⟨(some 9), none, .op (.new [.nils])⟩,
  ⟨none, none, .op (.store 1 (.t 9) (.t 44))⟩] [(0, 2), (0, 5), (3, 5), (0, 8), (2, 8), (3, 8), (5, 8), (6, 8)])
  (.seq (.reg [⟨(some 46), none, .op (.mv (.t 5))⟩,
  ⟨(some 47), none, .op (.mv (.t 7))⟩,
  ⟨(some 48), none, .op (.bin .none .add (.t 46) (.t 47))⟩,
  ⟨(some 49), none, .call 20 [(.t 48)]⟩,
  ⟨(some 45), none, .op (.mv (.t 49))⟩,
  ⟨(some 50), none, .op (.ext 0 (.t 45))⟩,
  ⟨(some 51), none, .op (.ext 1 (.t 45))⟩,
  ⟨(some 52), none, .op (.ext 2 (.t 45))⟩,
  ⟨(some 10), none, .op (.new [.nils])⟩,
  ⟨none, none, .op (.store 1 (.t 10) (.t 50))⟩,
  ⟨(some 11), none, .op (.mv (.t 51))⟩,
  ⟨(some 12), none, .op (.mv (.t 52))⟩] [])
  (.seq (.block 1000003 (.seq (.reg [⟨(some 53), none, .op (.mv (.t 12))⟩,
  ⟨(some 54), none, .op (.bin .none .eql (.t 53) (.v (.int .i64 0)))⟩,
  ⟨(some 55), none, .op (.mv (.t 54))⟩,
  ⟨(some 56), some (55, true), .op (.mv (.t 11))⟩,
  ⟨(some 57), some (55, true), .op (.bin .none .eql (.t 56) (.v (.int .i64 0)))⟩,
  ⟨(some 58), none, .op (.pick (.t 55) (.t 57) (.v (.bool false)))⟩,
  ⟨(some 59), none, .op (.mv (.t 58))⟩,
  ⟨(some 60), some (59, true), .op (.load (some 1) (.t 10))⟩,
  ⟨(some 61), some (59, true), .op (.load (some 1) (.t 9))⟩] []) (.reg [⟨(some 62), some (59, true), .call 22 [(.t 60), (.t 61)]⟩,
  ⟨(some 63), none, .op (.pick (.t 59) (.t 62) (.v (.bool false)))⟩,
  ⟨(some 4), none, .op (.mv (.t 63))⟩] [])))
  .ret))))))))
theorem gn_windlasslaw04_TextJoins : Fn3S Tryd.prog 8 64 [(4, none)] gc_windlasslaw04_TextJoins := ⟨_, _, Tryd.func8, rfl, rfl, rfl, by kernel_rfl, by kernel_rfl⟩
def windlasslaw04_TextJoins_s (p_00 : Program) (q_01 : Program) : Option Bool :=
  (windlasslaw04_first_s.bind fun fir_1 => (if (!fir_1) then (some false) else ((text_Print_s p_00).bind fun pri_2 => ((text_Print_s q_01).bind fun pri_3 => (jp (fun (s_5 : Bool) => (if s_5 then (jp (fun (s_7 : Bool) => (some s_7)) (fun k_6 => (if (ByteArray.toList pri_2.1 == ByteArray.toList (ByteArray.mk #[])) then (k_6 true) else (k_6 (ByteArray.toList pri_3.1 == ByteArray.toList (ByteArray.mk #[])))))) else ((appL 72 ([] : List Func) p_00.Funcs).bind fun l_8 => ((appL 72 l_8 q_01.Funcs).bind fun l_9 => ((catS pri_2.1 pri_3.1).bind fun s_10 => ((text_Parse_s s_10).bind fun par_11 => (jp (fun (s_13 : Bool) => (some s_13)) (fun k_12 => (if (par_11.2.2 == 0) then (if (par_11.2.1 == 0) then ((windlassref03_Same_s par_11.1 (Program.mk l_9)).bind fun sam_14 => (k_12 sam_14)) else (k_12 false)) else (k_12 false)))))))))) (fun k_4 => (if (pri_2.2 != 0) then (k_4 true) else (k_4 (pri_3.2 != 0)))))))))
theorem windlasslaw04_TextJoins_ev {p_00 : Program} {q_01 : Program} {r : Bool} (h : windlasslaw04_TextJoins_s p_00 q_01 = some r) : PureEv Tryd.prog 8 [(Program.av p_00), (Program.av q_01)] (.bool r) := by
  unfold windlasslaw04_TextJoins_s at h
  refine PureEv_endS mixed gn_windlasslaw04_TextJoins (by simp) [9, 10, 37] 6 ?_
  unfold gc_windlasslaw04_TextJoins
  refine E_sq ?_
  refine E_reg ?_
  refine E_op0 (v' := (.cptr (Program.av p_00).cells 0)) rfl rfl ?_
  refine E_op0 (v' := (.cptr (Program.av q_01).cells 0)) rfl rfl ?_
  refine E_mv (v' := (.bool false)) rfl ?_
  refine E_nil ?_
  refine E_nx ?_
  refine E_as ?_
  refine E_sq ?_
  refine E_reg ?_
  obtain ⟨fir_1, hfir_1, h⟩ := bd_some h
  refine E_callW (windlasslaw04_first_ev  hfir_1) rfl trivial (blwL_of trivial) rfl ?_
  refine E_op0 (v' := (.bool (!fir_1))) rfl rfl ?_
  refine E_nil ?_
  refine E_nx ?_
  refine E_sq ?_
  refine E_cs (t := (!fir_1)) rfl (fun hb => ?_) (fun hb => ?_)
  · rw [ite_t hb] at h
    refine E_sq ?_
    refine E_reg ?_
    refine E_mv (v' := (.bool false)) rfl ?_
    refine E_nil ?_
    refine E_nx ?_
    refine E_ret ?_
    refine E_thr ?_
    cases h
    exact ⟨trivial, _, rfl, (fz_b rfl (.refl _))⟩
  · rw [ite_f hb] at h
    refine E_skip ?_
    refine E_nx ?_
    refine E_sq ?_
    refine E_reg ?_
    refine E_op0 (v' := (Program.av p_00)) rfl rfl ?_
    obtain ⟨pri_2, hpri_2, h⟩ := bd_some h
    refine E_callW (text_Print_ev  hpri_2) rfl ⟨(.refl _), trivial⟩ (blwL_of ⟨(Program.enc.blw _ 0), trivial⟩) (tup_blw ⟨rfl, rfl, trivial⟩) ?_
    refine E_mv (v' := (.tup [(.str pri_2.1), (.int .i64 pri_2.2)])) rfl ?_
    refine E_op0 (v' := (.str pri_2.1)) rfl rfl ?_
    refine E_op0 (v' := (.int .i64 pri_2.2)) rfl rfl ?_
    refine E_mv (v' := (.str pri_2.1)) rfl ?_
    refine E_mv (v' := (.int .i64 pri_2.2)) rfl ?_
    refine E_nil ?_
    refine E_nx ?_
    refine E_sq ?_
    refine E_reg ?_
    refine E_op0 (v' := (Program.av q_01)) rfl rfl ?_
    obtain ⟨pri_3, hpri_3, h⟩ := bd_some h
    refine E_callW (text_Print_ev  hpri_3) rfl ⟨(.refl _), trivial⟩ (blwL_of ⟨(Program.enc.blw _ 0), trivial⟩) (tup_blw ⟨rfl, rfl, trivial⟩) ?_
    refine E_mv (v' := (.tup [(.str pri_3.1), (.int .i64 pri_3.2)])) rfl ?_
    refine E_op0 (v' := (.str pri_3.1)) rfl rfl ?_
    refine E_op0 (v' := (.int .i64 pri_3.2)) rfl rfl ?_
    refine E_mv (v' := (.str pri_3.1)) rfl ?_
    refine E_mv (v' := (.int .i64 pri_3.2)) rfl ?_
    refine E_nil ?_
    refine E_nx ?_
    refine E_as ?_
    refine E_jp h (fun s_5 => [(2, (.cptr (Program.av p_00).cells 0)), (3, (.cptr (Program.av q_01).cells 0)), (5, (.str pri_2.1)), (7, (.str pri_3.1)), (30, (.bool s_5))]) (fun s_5 => []) (fun k_4 h => ?_) (fun s_5 h => ?_)
    · refine E_reg ?_
      refine E_mv (v' := (.int .i64 pri_2.2)) rfl ?_
      refine E_op0 (v' := (.bool (pri_2.2 != 0))) rfl rfl ?_
      refine E_mv (v' := (.bool (pri_2.2 != 0))) rfl ?_
      refine E_gsT (b := (pri_2.2 != 0)) rfl rfl rfl (fun hb => ?_) (fun hb => ?_)
      · rw [ite_f hb] at h
        refine E_mv (v' := (.int .i64 pri_3.2)) rfl ?_
        refine E_gh rfl ?_
        refine E_op0 (v' := (.bool (pri_3.2 != 0))) rfl rfl ?_
        refine E_pf rfl rfl ?_
        refine E_nil ?_
        exact E_jx _ h (wk_aw ⟨(.refl _), (.refl _), (.refl _), (.refl _), (.refl _), trivial⟩)
      · rw [ite_t hb] at h
        refine E_gm rfl ?_
        refine E_pt rfl rfl ?_
        refine E_nil ?_
        exact E_jx _ h (wk_aw ⟨(.refl _), (.refl _), (.refl _), (.refl _), (.refl _), trivial⟩)
    · refine E_sq ?_
      refine E_cs (t := s_5) rfl (fun hb => ?_) (fun hb => ?_)
      · rw [ite_t hb] at h
        refine E_jp h (fun s_7 => [(4, (.bool s_7))]) (fun s_7 => []) (fun k_6 h => ?_) (fun s_7 h => ?_)
        · refine E_reg ?_
          refine E_mv (v' := (.str pri_2.1)) rfl ?_
          refine E_op0 (v' := (.bool (ByteArray.toList pri_2.1 == ByteArray.toList (ByteArray.mk #[])))) rfl rfl ?_
          refine E_mv (v' := (.bool (ByteArray.toList pri_2.1 == ByteArray.toList (ByteArray.mk #[])))) rfl ?_
          refine E_gsT (b := (ByteArray.toList pri_2.1 == ByteArray.toList (ByteArray.mk #[]))) rfl rfl rfl (fun hb => ?_) (fun hb => ?_)
          · rw [ite_f hb] at h
            refine E_mv (v' := (.str pri_3.1)) rfl ?_
            refine E_gh rfl ?_
            refine E_op0 (v' := (.bool (ByteArray.toList pri_3.1 == ByteArray.toList (ByteArray.mk #[])))) rfl rfl ?_
            refine E_pf rfl rfl ?_
            refine E_mv (v' := (.bool (ByteArray.toList pri_3.1 == ByteArray.toList (ByteArray.mk #[])))) rfl ?_
            refine E_nil ?_
            exact E_jx _ h (wk_aw ⟨(.refl _), trivial⟩)
          · rw [ite_t hb] at h
            refine E_gm rfl ?_
            refine E_pt rfl rfl ?_
            refine E_mv (v' := (.bool true)) rfl ?_
            refine E_nil ?_
            exact E_jx _ h (wk_aw ⟨(.refl _), trivial⟩)
        · refine E_ret ?_
          refine E_thr ?_
          cases h
          exact ⟨trivial, _, rfl, (fz_b rfl (.refl _))⟩
      · rw [ite_f hb] at h
        refine E_skip ?_
        refine E_nx ?_
        refine E_sq ?_
        refine E_regp ?_
        refine E_op (v' := (.ref 0 0 0 (List.length ([] : List Func)) (some 5))) (S' := [.arr 0 (flat Func.av ([] : List Func))]) rfl rfl rfl ?_
        refine E_op0 (v' := (.cptr (Program.av p_00).cells 0)) rfl rfl ?_
        refine E_op0 (v' := (.sl false 5 (List.map Func.av p_00.Funcs))) rfl rfl ?_
        obtain ⟨l_8, hl_8, h⟩ := bd_some h
        refine E_apL (S' := [.arr 1 (flat Func.av l_8)]) Func.enc rfl (src_sl p_00.Funcs) rfl hl_8 rfl ?_
        refine E_op0 (v' := (.cptr (Program.av q_01).cells 0)) rfl rfl ?_
        refine E_op0 (v' := (.sl false 5 (List.map Func.av q_01.Funcs))) rfl rfl ?_
        obtain ⟨l_9, hl_9, h⟩ := bd_some h
        refine E_apL (S' := [.arr 2 (flat Func.av l_9)]) Func.enc rfl (src_sl q_01.Funcs) rfl hl_9 rfl ?_
        refine E_op0 (v' := (.agg [(.ref 0 2 0 (List.length l_9) (some 5))])) rfl rfl ?_
        refine E_op (v' := .ptr 1 0 0) (S' := [.arr 2 (flat Func.av l_9), .arr 0 [.nils]]) rfl rfl rfl ?_
        refine E_do (S' := [.arr 2 (flat Func.av l_9), .arr 0 [(.ref 0 2 0 (List.length l_9) (some 5))]]) rfl rfl ?_
        refine E_nil ?_
        refine And.intro (by simp [okLog, nthL, okPair, hp, fpOf]) ?_
        refine E_nx ?_
        refine E_sq ?_
        refine E_reg ?_
        refine E_mv (v' := (.str pri_2.1)) rfl ?_
        refine E_mv (v' := (.str pri_3.1)) rfl ?_
        obtain ⟨s_10, hs_10, h⟩ := bd_some h
        refine E_cat rfl rfl hs_10 ?_
        obtain ⟨par_11, hpar_11, h⟩ := bd_some h
        refine E_callW (text_Parse_ev  hpar_11) rfl ⟨(.refl _), trivial⟩ (blwL_of ⟨rfl, trivial⟩) (tup_blw ⟨(Program.enc.blw _ 0), rfl, rfl, trivial⟩) ?_
        refine E_mv (v' := (.tup [(Program.av par_11.1), (.int .i64 par_11.2.1), (.int .i64 par_11.2.2)])) rfl ?_
        refine E_op0 (v' := (Program.av par_11.1)) rfl rfl ?_
        refine E_op0 (v' := (.int .i64 par_11.2.1)) rfl rfl ?_
        refine E_op0 (v' := (.int .i64 par_11.2.2)) rfl rfl ?_
        refine E_op (v' := .ptr 2 0 0) (S' := [.arr 2 (flat Func.av l_9), .arr 0 [(.ref 0 2 0 (List.length l_9) (some 5))], .arr 0 [.nils]]) rfl rfl rfl ?_
        refine E_do (S' := [.arr 2 (flat Func.av l_9), .arr 0 [(.ref 0 2 0 (List.length l_9) (some 5))], .arr 0 [(.sl false 5 (List.map Func.av par_11.1.Funcs))]]) rfl rfl ?_
        refine E_mv (v' := (.int .i64 par_11.2.1)) rfl ?_
        refine E_mv (v' := (.int .i64 par_11.2.2)) rfl ?_
        refine E_nil ?_
        refine E_nx ?_
        refine E_jp h (fun s_13 => [(4, (.bool s_13))]) (fun s_13 => []) (fun k_12 h => ?_) (fun s_13 h => ?_)
        · refine E_block ?_
          refine E_sq ?_
          refine E_reg ?_
          refine E_mv (v' := (.int .i64 par_11.2.2)) rfl ?_
          refine E_op0 (v' := (.bool (par_11.2.2 == 0))) rfl rfl ?_
          refine E_mv (v' := (.bool (par_11.2.2 == 0))) rfl ?_
          refine E_gsT (b := (par_11.2.2 == 0)) rfl rfl rfl (fun hb => ?_) (fun hb => ?_)
          · rw [ite_t hb] at h
            refine E_mv (v' := (.int .i64 par_11.2.1)) rfl ?_
            refine E_gh rfl ?_
            refine E_op0 (v' := (.bool (par_11.2.1 == 0))) rfl rfl ?_
            refine E_pt rfl rfl ?_
            refine E_mv (v' := (.bool (par_11.2.1 == 0))) rfl ?_
            refine E_gsT (b := (par_11.2.1 == 0)) rfl rfl rfl (fun hb => ?_) (fun hb => ?_)
            · rw [ite_t hb] at h
              refine E_opw (v' := (Program.av par_11.1)) rfl (.aggL ⟨(.refl _), trivial⟩) rfl ?_
              refine E_gh rfl ?_
              refine E_op (v' := (.agg [(.ref 0 2 0 (List.length l_9) (some 5))])) (S' := [.arr 2 (flat Func.av l_9), .arr 0 [(.ref 0 2 0 (List.length l_9) (some 5))], .arr 0 [(.sl false 5 (List.map Func.av par_11.1.Funcs))]]) rfl rfl rfl ?_
              refine E_nil ?_
              refine E_nxw (F := [(59, (.bool true)), (60, (Program.av par_11.1)), (61, (.agg [(.sl false 5 (List.map Func.av l_9))]))]) (T := []) (wk_trans (fr'' := [(59, (.bool true)), (60, (Program.av par_11.1)), (61, (.agg [(.sl false 5 (List.map Func.av l_9))]))]) (S'' := []) (wk_rn (fr' := [(59, (.bool true)), (60, (Program.av par_11.1)), (61, (.agg [(.ref 0 1 0 (List.length l_9) (some 5))]))]) (S' := [.arr 1 (flat Func.av l_9)]) [some (0, 0)] rfl (Nat.le_of_ble_eq_true rfl) ⟨(rn_ob rfl rfl (.refl (Func.enc.blwf 0 _)) rfl), trivial⟩ ⟨(rn_b rfl), (rn_b (Program.enc.blw _ 0)), (rn_agg ⟨(rn_refL Func.enc rfl rfl rfl), trivial⟩), trivial⟩) (wk_fz 0 6 rfl trivial ⟨(fz_b rfl (.refl _)), (fz_b (Program.enc.blw _ 0) (.refl _)), (fz_agg ⟨(fz_ref Func.enc (Nat.le_of_ble_eq_true rfl) rfl), trivial⟩), trivial⟩)) ?_
              refine E_reg ?_
              refine E_gh rfl ?_
              obtain ⟨sam_14, hsam_14, h⟩ := bd_some h
              refine E_callW (windlassref03_Same_ev  hsam_14) rfl ⟨(.refl _), (.aggL ⟨(.refl _), trivial⟩), trivial⟩ (blwL_of ⟨(Program.enc.blw _ 0), (agg_blw ⟨(Func.enc.blws 0), trivial⟩), trivial⟩) rfl ?_
              refine E_pt rfl rfl ?_
              refine E_mv (v' := (.bool sam_14)) rfl ?_
              refine E_nil ?_
              refine E_bln ?_
              exact E_jx _ h (wk_aw ⟨(.refl _), trivial⟩)
            · rw [ite_f hb] at h
              refine E_gm rfl ?_
              refine E_nil ?_
              refine E_nx ?_
              refine E_reg ?_
              refine E_gm rfl ?_
              refine E_pf rfl rfl ?_
              refine E_mv (v' := (.bool false)) rfl ?_
              refine E_nil ?_
              refine E_bln ?_
              exact E_jx _ h (wk_rn [] rfl (Nat.le_of_ble_eq_true rfl) trivial ⟨(rn_b rfl), trivial⟩)
          · rw [ite_f hb] at h
            refine E_gm rfl ?_
            refine E_pf rfl rfl ?_
            refine E_mv (v' := (.bool false)) rfl ?_
            refine E_gm rfl ?_
            refine E_gm rfl ?_
            refine E_nil ?_
            refine E_nx ?_
            refine E_reg ?_
            refine E_gm rfl ?_
            refine E_pf rfl rfl ?_
            refine E_mv (v' := (.bool false)) rfl ?_
            refine E_nil ?_
            refine E_bln ?_
            exact E_jx _ h (wk_rn [] rfl (Nat.le_of_ble_eq_true rfl) trivial ⟨(rn_b rfl), trivial⟩)
        · refine E_ret ?_
          cases h
          exact ⟨trivial, _, rfl, (fz_b rfl (.refl _))⟩
end Go.Proofs.YtkfhljombjmdbaaDoor
