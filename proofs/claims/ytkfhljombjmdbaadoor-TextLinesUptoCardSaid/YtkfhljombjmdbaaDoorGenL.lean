/- What the functions compute, and that they do (printed by wip/gen/gen.py), part 1. -/
import Derived.Test.YtkfhljombjmdbaaDoorWlH1
import Derived.Test.YtkfhljombjmdbaaDoorRows
import Derived.Test.YtkfhljombjmdbaaDoorTxN
namespace Go.Proofs.YtkfhljombjmdbaaDoor
open Go Go.Ab
set_option maxRecDepth 20000
set_option maxHeartbeats 2000000
set_option linter.unusedVariables false
set_option linter.unusedSimpArgs false
/- windlass/windlasslaw04.first -/
def fc19 : FC := (.seq (.reg [⟨(some 0), none, .op (.mv (.v (.bool false)))⟩] [])
  (.seq (.reg [⟨(some 5), none, .call 20 [(.v (.str (ByteArray.mk #[35, 32, 120, 10, 102, 117, 110, 99, 32, 49, 32, 110, 112, 32, 49, 32, 48, 10, 32, 32, 103, 101, 116, 32, 32, 48, 10, 99, 111, 110, 115, 116, 32, 55, 10])))]⟩,
  ⟨(some 4), none, .op (.mv (.t 5))⟩,
  ⟨(some 6), none, .op (.ext 0 (.t 4))⟩,
  ⟨(some 7), none, .op (.ext 1 (.t 4))⟩,
  ⟨(some 8), none, .op (.ext 2 (.t 4))⟩,
  ⟨(some 1), none, .op (.new [.nils])⟩,
  ⟨none, none, .op (.store 1 (.t 1) (.t 6))⟩,
  ⟨(some 2), none, .op (.mv (.t 7))⟩,
  ⟨(some 3), none, .op (.mv (.t 8))⟩] [])
  (.seq (.reg [⟨(some 9), none, .op (.mv (.t 3))⟩,
  ⟨(some 10), none, .op (.bin .none .eql (.t 9) (.v (.int .i64 0)))⟩,
  ⟨(some 11), none, .op (.mv (.t 10))⟩,
  ⟨(some 12), some (11, true), .op (.mv (.t 2))⟩,
  ⟨(some 13), some (11, true), .op (.bin .none .eql (.t 12) (.v (.int .i64 0)))⟩,
  ⟨(some 14), none, .op (.pick (.t 11) (.t 13) (.v (.bool false)))⟩,
  ⟨(some 15), none, .op (.mv (.t 14))⟩,
  ⟨(some 16), some (15, true), .op (.fad 0 (.t 1))⟩,
  ⟨(some 17), some (15, true), .op (.load none (.t 16))⟩,
  ⟨(some 18), some (15, true), .op (.len .sl (.t 17))⟩,
  ⟨(some 19), some (15, true), .op (.bin .none .eql (.t 18) (.v (.int .i64 1)))⟩,
  ⟨(some 20), none, .op (.pick (.t 15) (.t 19) (.v (.bool false)))⟩,
  ⟨(some 21), none, .op (.mv (.t 20))⟩,
  ⟨(some 22), some (21, true), .op (.fad 0 (.t 1))⟩,
  ⟨(some 23), some (21, true), .op (.load none (.t 22))⟩,
  ⟨(some 24), some (21, true), .op (.iad none (some 5) (.t 23) (.v (.int .i64 0)))⟩,
  ⟨(some 25), some (21, true), .op (.fad 0 (.t 24))⟩,
  ⟨(some 26), some (21, true), .op (.load none (.t 25))⟩,
  ⟨(some 27), some (21, true), .op (.bin .none .eql (.t 26) (.v (.int .i64 1)))⟩,
  ⟨(some 28), none, .op (.pick (.t 21) (.t 27) (.v (.bool false)))⟩,
  ⟨(some 29), none, .op (.mv (.t 28))⟩,
  ⟨(some 30), some (29, true), .op (.fad 0 (.t 1))⟩,
  ⟨(some 31), some (29, true), .op (.load none (.t 30))⟩,
  ⟨(some 32), some (29, true), .op (.iad none (some 5) (.t 31) (.v (.int .i64 0)))⟩,
  ⟨(some 33), some (29, true), .op (.fad 1 (.t 32))⟩,
  ⟨(some 34), some (29, true), .op (.load none (.t 33))⟩,
  ⟨(some 35), some (29, true), .op (.len .sl (.t 34))⟩,
  ⟨(some 36), some (29, true), .op (.bin .none .eql (.t 35) (.v (.int .i64 2)))⟩,
  ⟨(some 37), none, .op (.pick (.t 29) (.t 36) (.v (.bool false)))⟩,
  ⟨(some 38), none, .op (.mv (.t 37))⟩,
  ⟨(some 39), some (38, true), .op (.fad 0 (.t 1))⟩,
  ⟨(some 40), some (38, true), .op (.load none (.t 39))⟩,
  ⟨(some 41), some (38, true), .op (.iad none (some 5) (.t 40) (.v (.int .i64 0)))⟩,
  ⟨(some 42), some (38, true), .op (.fad 3 (.t 41))⟩,
  ⟨(some 43), some (38, true), .op (.load none (.t 42))⟩,
  ⟨(some 44), some (38, true), .op (.bin .none .eql (.t 43) (.v (.int .i64 0)))⟩,
  ⟨(some 45), none, .op (.pick (.t 38) (.t 44) (.v (.bool false)))⟩,
  ⟨(some 46), none, .op (.mv (.t 45))⟩,
  ⟨(some 47), some (46, true), .op (.fad 0 (.t 1))⟩,
  ⟨(some 48), some (46, true), .op (.load none (.t 47))⟩,
  ⟨(some 49), some (46, true), .op (.iad none (some 5) (.t 48) (.v (.int .i64 0)))⟩,
  ⟨(some 50), some (46, true), .op (.fad 4 (.t 49))⟩,
  ⟨(some 51), some (46, true), .op (.load none (.t 50))⟩,
  ⟨(some 52), some (46, true), .op (.len .sl (.t 51))⟩,
  ⟨(some 53), some (46, true), .op (.bin .none .eql (.t 52) (.v (.int .i64 2)))⟩,
  ⟨(some 54), none, .op (.pick (.t 46) (.t 53) (.v (.bool false)))⟩,
  ⟨(some 55), none, .op (.mv (.t 54))⟩,
  ⟨(some 56), some (55, true), .op (.fad 0 (.t 1))⟩,
  ⟨(some 57), some (55, true), .op (.load none (.t 56))⟩,
  ⟨(some 58), some (55, true), .op (.iad none (some 5) (.t 57) (.v (.int .i64 0)))⟩,
  ⟨(some 59), some (55, true), .op (.fad 4 (.t 58))⟩,
  ⟨(some 60), some (55, true), .op (.load none (.t 59))⟩,
  ⟨(some 61), some (55, true), .op (.iad none (some 3) (.t 60) (.v (.int .i64 1)))⟩,
  ⟨(some 62), some (55, true), .op (.fad 2 (.t 61))⟩,
  ⟨(some 63), some (55, true), .op (.load none (.t 62))⟩,
  ⟨(some 64), some (55, true), .op (.bin .none .eql (.t 63) (.v (.int .u64 7)))⟩,
  ⟨(some 65), none, .op (.pick (.t 55) (.t 64) (.v (.bool false)))⟩,
  ⟨(some 0), none, .op (.mv (.t 65))⟩] [])
  .ret)))
theorem fn19 : Fn3 Tryd.prog 19 66 [(0, none)] fc19 := ⟨_, _, Tryd.func19, rfl, rfl, rfl, by kernel_rfl⟩
def windlasslaw04_first_s  : Option Bool :=
  ((text_Parse_s (ByteArray.mk #[35, 32, 120, 10, 102, 117, 110, 99, 32, 49, 32, 110, 112, 32, 49, 32, 48, 10, 32, 32, 103, 101, 116, 32, 32, 48, 10, 99, 111, 110, 115, 116, 32, 55, 10])).bind fun par_1 => (jp (fun (s_3 : Bool) => (some s_3)) (fun k_2 => (if (par_1.2.2 == 0) then (if (par_1.2.1 == 0) then (if ((List.length par_1.1.Funcs : Int) == 1) then ((getI par_1.1.Funcs 0).bind fun y_4 => (if (y_4.Params == 1) then (if ((List.length y_4.Locals : Int) == 2) then (if (y_4.Keep == 0) then (if ((List.length y_4.Code : Int) == 2) then ((getI y_4.Code 1).bind fun y_5 => (k_2 (y_5.Imm == 7))) else (k_2 false)) else (k_2 false)) else (k_2 false)) else (k_2 false))) else (k_2 false)) else (k_2 false)) else (k_2 false)))))
theorem windlasslaw04_first_ev  {r : Bool} (h : windlasslaw04_first_s  = some r) : PureEv Tryd.prog 19 [] (.bool r) := by
  unfold windlasslaw04_first_s at h
  refine PureEv_end mixed fn19 (by simp) [1] 6 ?_
  unfold fc19
  refine E_sq ?_
  refine E_reg ?_
  refine E_mv (v' := (.bool false)) rfl ?_
  refine E_nil ?_
  refine E_nx ?_
  refine E_sq ?_
  refine E_reg ?_
  obtain ⟨par_1, hpar_1, h⟩ := bd_some h
  refine E_callW (text_Parse_ev  hpar_1) rfl ⟨(.refl _), trivial⟩ (blwL_of ⟨rfl, trivial⟩) (tup_blw ⟨(Program.enc.blw _ 0), rfl, rfl, trivial⟩) ?_
  refine E_mv (v' := (.tup [(Program.av par_1.1), (.int .i64 par_1.2.1), (.int .i64 par_1.2.2)])) rfl ?_
  refine E_op0 (v' := (Program.av par_1.1)) rfl rfl ?_
  refine E_op0 (v' := (.int .i64 par_1.2.1)) rfl rfl ?_
  refine E_op0 (v' := (.int .i64 par_1.2.2)) rfl rfl ?_
  refine E_op (v' := .ptr 0 0 0) (S' := [.arr 0 [.nils]]) rfl rfl rfl ?_
  refine E_do (S' := [.arr 0 [(.sl false 5 (List.map Func.av par_1.1.Funcs))]]) rfl rfl ?_
  refine E_mv (v' := (.int .i64 par_1.2.1)) rfl ?_
  refine E_mv (v' := (.int .i64 par_1.2.2)) rfl ?_
  refine E_nil ?_
  refine E_nx ?_
  refine E_jp h (fun s_3 => [(0, (.bool s_3))]) (fun s_3 => []) (fun k_2 h => ?_) (fun s_3 h => ?_)
  · refine E_reg ?_
    refine E_mv (v' := (.int .i64 par_1.2.2)) (by kernel_rfl) ?_
    refine E_op0 (v := (.bool (par_1.2.2 == 0))) (v' := (.bool (par_1.2.2 == 0))) (by kernel_rfl) rfl ?_
    refine E_mv (v' := (.bool (par_1.2.2 == 0))) (by kernel_rfl) ?_
    refine E_gsT (b := (par_1.2.2 == 0)) rfl rfl rfl (fun hb => ?_) (fun hb => ?_)
    · rw [ite_t hb] at h
      refine E_mv (v' := (.int .i64 par_1.2.1)) (by kernel_rfl) ?_
      refine E_gh rfl ?_
      refine E_op0 (v := (.bool (par_1.2.1 == 0))) (v' := (.bool (par_1.2.1 == 0))) (by kernel_rfl) rfl ?_
      refine E_pt rfl rfl ?_
      refine E_mv (v' := (.bool (par_1.2.1 == 0))) (by kernel_rfl) ?_
      refine E_gsT (b := (par_1.2.1 == 0)) rfl rfl rfl (fun hb => ?_) (fun hb => ?_)
      · rw [ite_t hb] at h
        refine E_op0 (v := (.ptr 0 0 0)) (v' := (.ptr 0 0 0)) (by kernel_rfl) rfl ?_
        refine E_gh rfl ?_
        refine E_op (v' := (.sl false 5 (List.map Func.av par_1.1.Funcs))) (S' := [.arr 0 [(.sl false 5 (List.map Func.av par_1.1.Funcs))]]) rfl rfl rfl ?_
        refine E_gh rfl ?_
        refine E_len rfl ?_
        refine E_gh rfl ?_
        refine E_op0 (v := (.bool ((List.length par_1.1.Funcs : Int) == 1))) (v' := (.bool ((List.length par_1.1.Funcs : Int) == 1))) (by kernel_rfl) rfl ?_
        refine E_pt rfl rfl ?_
        refine E_mv (v' := (.bool ((List.length par_1.1.Funcs : Int) == 1))) (by kernel_rfl) ?_
        refine E_gsT (b := ((List.length par_1.1.Funcs : Int) == 1)) rfl rfl rfl (fun hb => ?_) (fun hb => ?_)
        · rw [ite_t hb] at h
          refine E_op0 (v := (.ptr 0 0 0)) (v' := (.ptr 0 0 0)) (by kernel_rfl) rfl ?_
          refine E_gh rfl ?_
          refine E_op (v' := (.sl false 5 (List.map Func.av par_1.1.Funcs))) (S' := [.arr 0 [(.sl false 5 (List.map Func.av par_1.1.Funcs))]]) rfl rfl rfl ?_
          refine E_gh rfl ?_
          obtain ⟨y_4, hy_4, h⟩ := bd_some h
          refine E_iadF rfl rfl hy_4 ?_
          refine E_gh rfl ?_
          refine E_op0 (v := (.cptr (Func.av y_4).cells 0)) (v' := (.cptr (Func.av y_4).cells 0)) (by kernel_rfl) rfl ?_
          refine E_gh rfl ?_
          refine E_op0 (v := (.int .i64 y_4.Params)) (v' := (.int .i64 y_4.Params)) (by kernel_rfl) rfl ?_
          refine E_gh rfl ?_
          refine E_op0 (v := (.bool (y_4.Params == 1))) (v' := (.bool (y_4.Params == 1))) (by kernel_rfl) rfl ?_
          refine E_pt rfl rfl ?_
          refine E_mv (v' := (.bool (y_4.Params == 1))) (by kernel_rfl) ?_
          refine E_gsT (b := (y_4.Params == 1)) rfl rfl rfl (fun hb => ?_) (fun hb => ?_)
          · rw [ite_t hb] at h
            refine E_op0 (v := (.ptr 0 0 0)) (v' := (.ptr 0 0 0)) (by kernel_rfl) rfl ?_
            refine E_gh rfl ?_
            refine E_op (v' := (.sl false 5 (List.map Func.av par_1.1.Funcs))) (S' := [.arr 0 [(.sl false 5 (List.map Func.av par_1.1.Funcs))]]) rfl rfl rfl ?_
            refine E_gh rfl ?_
            refine E_iadF rfl rfl hy_4 ?_
            refine E_gh rfl ?_
            refine E_op0 (v := (.cptr (Func.av y_4).cells 1)) (v' := (.cptr (Func.av y_4).cells 1)) (by kernel_rfl) rfl ?_
            refine E_gh rfl ?_
            refine E_op0 (v := (.sl false 1 (List.map (avI .u8) y_4.Locals))) (v' := (.sl false 1 (List.map (avI .u8) y_4.Locals))) (by kernel_rfl) rfl ?_
            refine E_gh rfl ?_
            refine E_len rfl ?_
            refine E_gh rfl ?_
            refine E_op0 (v := (.bool ((List.length y_4.Locals : Int) == 2))) (v' := (.bool ((List.length y_4.Locals : Int) == 2))) (by kernel_rfl) rfl ?_
            refine E_pt rfl rfl ?_
            refine E_mv (v' := (.bool ((List.length y_4.Locals : Int) == 2))) (by kernel_rfl) ?_
            refine E_gsT (b := ((List.length y_4.Locals : Int) == 2)) rfl rfl rfl (fun hb => ?_) (fun hb => ?_)
            · rw [ite_t hb] at h
              refine E_op0 (v := (.ptr 0 0 0)) (v' := (.ptr 0 0 0)) (by kernel_rfl) rfl ?_
              refine E_gh rfl ?_
              refine E_op (v' := (.sl false 5 (List.map Func.av par_1.1.Funcs))) (S' := [.arr 0 [(.sl false 5 (List.map Func.av par_1.1.Funcs))]]) rfl rfl rfl ?_
              refine E_gh rfl ?_
              refine E_iadF rfl rfl hy_4 ?_
              refine E_gh rfl ?_
              refine E_op0 (v := (.cptr (Func.av y_4).cells 3)) (v' := (.cptr (Func.av y_4).cells 3)) (by kernel_rfl) rfl ?_
              refine E_gh rfl ?_
              refine E_op0 (v := (.int .i64 y_4.Keep)) (v' := (.int .i64 y_4.Keep)) (by kernel_rfl) rfl ?_
              refine E_gh rfl ?_
              refine E_op0 (v := (.bool (y_4.Keep == 0))) (v' := (.bool (y_4.Keep == 0))) (by kernel_rfl) rfl ?_
              refine E_pt rfl rfl ?_
              refine E_mv (v' := (.bool (y_4.Keep == 0))) (by kernel_rfl) ?_
              refine E_gsT (b := (y_4.Keep == 0)) rfl rfl rfl (fun hb => ?_) (fun hb => ?_)
              · rw [ite_t hb] at h
                refine E_op0 (v := (.ptr 0 0 0)) (v' := (.ptr 0 0 0)) (by kernel_rfl) rfl ?_
                refine E_gh rfl ?_
                refine E_op (v' := (.sl false 5 (List.map Func.av par_1.1.Funcs))) (S' := [.arr 0 [(.sl false 5 (List.map Func.av par_1.1.Funcs))]]) rfl rfl rfl ?_
                refine E_gh rfl ?_
                refine E_iadF rfl rfl hy_4 ?_
                refine E_gh rfl ?_
                refine E_op0 (v := (.cptr (Func.av y_4).cells 4)) (v' := (.cptr (Func.av y_4).cells 4)) (by kernel_rfl) rfl ?_
                refine E_gh rfl ?_
                refine E_op0 (v := (.sl false 3 (List.map Instr.av y_4.Code))) (v' := (.sl false 3 (List.map Instr.av y_4.Code))) (by kernel_rfl) rfl ?_
                refine E_gh rfl ?_
                refine E_len rfl ?_
                refine E_gh rfl ?_
                refine E_op0 (v := (.bool ((List.length y_4.Code : Int) == 2))) (v' := (.bool ((List.length y_4.Code : Int) == 2))) (by kernel_rfl) rfl ?_
                refine E_pt rfl rfl ?_
                refine E_mv (v' := (.bool ((List.length y_4.Code : Int) == 2))) (by kernel_rfl) ?_
                refine E_gsT (b := ((List.length y_4.Code : Int) == 2)) rfl rfl rfl (fun hb => ?_) (fun hb => ?_)
                · rw [ite_t hb] at h
                  refine E_op0 (v := (.ptr 0 0 0)) (v' := (.ptr 0 0 0)) (by kernel_rfl) rfl ?_
                  refine E_gh rfl ?_
                  refine E_op (v' := (.sl false 5 (List.map Func.av par_1.1.Funcs))) (S' := [.arr 0 [(.sl false 5 (List.map Func.av par_1.1.Funcs))]]) rfl rfl rfl ?_
                  refine E_gh rfl ?_
                  refine E_iadF rfl rfl hy_4 ?_
                  refine E_gh rfl ?_
                  refine E_op0 (v := (.cptr (Func.av y_4).cells 4)) (v' := (.cptr (Func.av y_4).cells 4)) (by kernel_rfl) rfl ?_
                  refine E_gh rfl ?_
                  refine E_op0 (v := (.sl false 3 (List.map Instr.av y_4.Code))) (v' := (.sl false 3 (List.map Instr.av y_4.Code))) (by kernel_rfl) rfl ?_
                  refine E_gh rfl ?_
                  obtain ⟨y_5, hy_5, h⟩ := bd_some h
                  refine E_iadF rfl rfl hy_5 ?_
                  refine E_gh rfl ?_
                  refine E_op0 (v := (.cptr (Instr.av y_5).cells 2)) (v' := (.cptr (Instr.av y_5).cells 2)) (by kernel_rfl) rfl ?_
                  refine E_gh rfl ?_
                  refine E_op0 (v := (.int .u64 y_5.Imm)) (v' := (.int .u64 y_5.Imm)) (by kernel_rfl) rfl ?_
                  refine E_gh rfl ?_
                  refine E_op0 (v := (.bool (y_5.Imm == 7))) (v' := (.bool (y_5.Imm == 7))) (by kernel_rfl) rfl ?_
                  refine E_pt rfl rfl ?_
                  refine E_mv (v' := (.bool (y_5.Imm == 7))) (by kernel_rfl) ?_
                  refine E_nil ?_
                  exact E_jx _ h (wk_rn [] rfl (Nat.le_of_ble_eq_true rfl) trivial ⟨(rn_b rfl), trivial⟩)
                · rw [ite_f hb] at h
                  refine E_gm rfl ?_
                  refine E_gm rfl ?_
                  refine E_gm rfl ?_
                  refine E_gm rfl ?_
                  refine E_gm rfl ?_
                  refine E_gm rfl ?_
                  refine E_gm rfl ?_
                  refine E_gm rfl ?_
                  refine E_pf rfl rfl ?_
                  refine E_mv (v' := (.bool false)) (by kernel_rfl) ?_
                  refine E_nil ?_
                  exact E_jx _ h (wk_rn [] rfl (Nat.le_of_ble_eq_true rfl) trivial ⟨(rn_b rfl), trivial⟩)
              · rw [ite_f hb] at h
                refine E_gm rfl ?_
                refine E_gm rfl ?_
                refine E_gm rfl ?_
                refine E_gm rfl ?_
                refine E_gm rfl ?_
                refine E_gm rfl ?_
                refine E_pf rfl rfl ?_
                refine E_mv (v' := (.bool false)) (by kernel_rfl) ?_
                refine E_gm rfl ?_
                refine E_gm rfl ?_
                refine E_gm rfl ?_
                refine E_gm rfl ?_
                refine E_gm rfl ?_
                refine E_gm rfl ?_
                refine E_gm rfl ?_
                refine E_gm rfl ?_
                refine E_gm rfl ?_
                refine E_pf rfl rfl ?_
                refine E_mv (v' := (.bool false)) (by kernel_rfl) ?_
                refine E_nil ?_
                exact E_jx _ h (wk_rn [] rfl (Nat.le_of_ble_eq_true rfl) trivial ⟨(rn_b rfl), trivial⟩)
            · rw [ite_f hb] at h
              refine E_gm rfl ?_
              refine E_gm rfl ?_
              refine E_gm rfl ?_
              refine E_gm rfl ?_
              refine E_gm rfl ?_
              refine E_pf rfl rfl ?_
              refine E_mv (v' := (.bool false)) (by kernel_rfl) ?_
              refine E_gm rfl ?_
              refine E_gm rfl ?_
              refine E_gm rfl ?_
              refine E_gm rfl ?_
              refine E_gm rfl ?_
              refine E_gm rfl ?_
              refine E_gm rfl ?_
              refine E_pf rfl rfl ?_
              refine E_mv (v' := (.bool false)) (by kernel_rfl) ?_
              refine E_gm rfl ?_
              refine E_gm rfl ?_
              refine E_gm rfl ?_
              refine E_gm rfl ?_
              refine E_gm rfl ?_
              refine E_gm rfl ?_
              refine E_gm rfl ?_
              refine E_gm rfl ?_
              refine E_gm rfl ?_
              refine E_pf rfl rfl ?_
              refine E_mv (v' := (.bool false)) (by kernel_rfl) ?_
              refine E_nil ?_
              exact E_jx _ h (wk_rn [] rfl (Nat.le_of_ble_eq_true rfl) trivial ⟨(rn_b rfl), trivial⟩)
          · rw [ite_f hb] at h
            refine E_gm rfl ?_
            refine E_gm rfl ?_
            refine E_gm rfl ?_
            refine E_gm rfl ?_
            refine E_gm rfl ?_
            refine E_gm rfl ?_
            refine E_pf rfl rfl ?_
            refine E_mv (v' := (.bool false)) (by kernel_rfl) ?_
            refine E_gm rfl ?_
            refine E_gm rfl ?_
            refine E_gm rfl ?_
            refine E_gm rfl ?_
            refine E_gm rfl ?_
            refine E_gm rfl ?_
            refine E_pf rfl rfl ?_
            refine E_mv (v' := (.bool false)) (by kernel_rfl) ?_
            refine E_gm rfl ?_
            refine E_gm rfl ?_
            refine E_gm rfl ?_
            refine E_gm rfl ?_
            refine E_gm rfl ?_
            refine E_gm rfl ?_
            refine E_gm rfl ?_
            refine E_pf rfl rfl ?_
            refine E_mv (v' := (.bool false)) (by kernel_rfl) ?_
            refine E_gm rfl ?_
            refine E_gm rfl ?_
            refine E_gm rfl ?_
            refine E_gm rfl ?_
            refine E_gm rfl ?_
            refine E_gm rfl ?_
            refine E_gm rfl ?_
            refine E_gm rfl ?_
            refine E_gm rfl ?_
            refine E_pf rfl rfl ?_
            refine E_mv (v' := (.bool false)) (by kernel_rfl) ?_
            refine E_nil ?_
            exact E_jx _ h (wk_rn [] rfl (Nat.le_of_ble_eq_true rfl) trivial ⟨(rn_b rfl), trivial⟩)
        · rw [ite_f hb] at h
          refine E_gm rfl ?_
          refine E_gm rfl ?_
          refine E_gm rfl ?_
          refine E_gm rfl ?_
          refine E_gm rfl ?_
          refine E_pf rfl rfl ?_
          refine E_mv (v' := (.bool false)) (by kernel_rfl) ?_
          refine E_gm rfl ?_
          refine E_gm rfl ?_
          refine E_gm rfl ?_
          refine E_gm rfl ?_
          refine E_gm rfl ?_
          refine E_gm rfl ?_
          refine E_gm rfl ?_
          refine E_pf rfl rfl ?_
          refine E_mv (v' := (.bool false)) (by kernel_rfl) ?_
          refine E_gm rfl ?_
          refine E_gm rfl ?_
          refine E_gm rfl ?_
          refine E_gm rfl ?_
          refine E_gm rfl ?_
          refine E_gm rfl ?_
          refine E_pf rfl rfl ?_
          refine E_mv (v' := (.bool false)) (by kernel_rfl) ?_
          refine E_gm rfl ?_
          refine E_gm rfl ?_
          refine E_gm rfl ?_
          refine E_gm rfl ?_
          refine E_gm rfl ?_
          refine E_gm rfl ?_
          refine E_gm rfl ?_
          refine E_pf rfl rfl ?_
          refine E_mv (v' := (.bool false)) (by kernel_rfl) ?_
          refine E_gm rfl ?_
          refine E_gm rfl ?_
          refine E_gm rfl ?_
          refine E_gm rfl ?_
          refine E_gm rfl ?_
          refine E_gm rfl ?_
          refine E_gm rfl ?_
          refine E_gm rfl ?_
          refine E_gm rfl ?_
          refine E_pf rfl rfl ?_
          refine E_mv (v' := (.bool false)) (by kernel_rfl) ?_
          refine E_nil ?_
          exact E_jx _ h (wk_rn [] rfl (Nat.le_of_ble_eq_true rfl) trivial ⟨(rn_b rfl), trivial⟩)
      · rw [ite_f hb] at h
        refine E_gm rfl ?_
        refine E_gm rfl ?_
        refine E_gm rfl ?_
        refine E_pf rfl rfl ?_
        refine E_mv (v' := (.bool false)) (by kernel_rfl) ?_
        refine E_gm rfl ?_
        refine E_gm rfl ?_
        refine E_gm rfl ?_
        refine E_gm rfl ?_
        refine E_gm rfl ?_
        refine E_gm rfl ?_
        refine E_pf rfl rfl ?_
        refine E_mv (v' := (.bool false)) (by kernel_rfl) ?_
        refine E_gm rfl ?_
        refine E_gm rfl ?_
        refine E_gm rfl ?_
        refine E_gm rfl ?_
        refine E_gm rfl ?_
        refine E_gm rfl ?_
        refine E_gm rfl ?_
        refine E_pf rfl rfl ?_
        refine E_mv (v' := (.bool false)) (by kernel_rfl) ?_
        refine E_gm rfl ?_
        refine E_gm rfl ?_
        refine E_gm rfl ?_
        refine E_gm rfl ?_
        refine E_gm rfl ?_
        refine E_gm rfl ?_
        refine E_pf rfl rfl ?_
        refine E_mv (v' := (.bool false)) (by kernel_rfl) ?_
        refine E_gm rfl ?_
        refine E_gm rfl ?_
        refine E_gm rfl ?_
        refine E_gm rfl ?_
        refine E_gm rfl ?_
        refine E_gm rfl ?_
        refine E_gm rfl ?_
        refine E_pf rfl rfl ?_
        refine E_mv (v' := (.bool false)) (by kernel_rfl) ?_
        refine E_gm rfl ?_
        refine E_gm rfl ?_
        refine E_gm rfl ?_
        refine E_gm rfl ?_
        refine E_gm rfl ?_
        refine E_gm rfl ?_
        refine E_gm rfl ?_
        refine E_gm rfl ?_
        refine E_gm rfl ?_
        refine E_pf rfl rfl ?_
        refine E_mv (v' := (.bool false)) (by kernel_rfl) ?_
        refine E_nil ?_
        exact E_jx _ h (wk_rn [] rfl (Nat.le_of_ble_eq_true rfl) trivial ⟨(rn_b rfl), trivial⟩)
    · rw [ite_f hb] at h
      refine E_gm rfl ?_
      refine E_pf rfl rfl ?_
      refine E_mv (v' := (.bool false)) (by kernel_rfl) ?_
      refine E_gm rfl ?_
      refine E_gm rfl ?_
      refine E_gm rfl ?_
      refine E_gm rfl ?_
      refine E_pf rfl rfl ?_
      refine E_mv (v' := (.bool false)) (by kernel_rfl) ?_
      refine E_gm rfl ?_
      refine E_gm rfl ?_
      refine E_gm rfl ?_
      refine E_gm rfl ?_
      refine E_gm rfl ?_
      refine E_gm rfl ?_
      refine E_pf rfl rfl ?_
      refine E_mv (v' := (.bool false)) (by kernel_rfl) ?_
      refine E_gm rfl ?_
      refine E_gm rfl ?_
      refine E_gm rfl ?_
      refine E_gm rfl ?_
      refine E_gm rfl ?_
      refine E_gm rfl ?_
      refine E_gm rfl ?_
      refine E_pf rfl rfl ?_
      refine E_mv (v' := (.bool false)) (by kernel_rfl) ?_
      refine E_gm rfl ?_
      refine E_gm rfl ?_
      refine E_gm rfl ?_
      refine E_gm rfl ?_
      refine E_gm rfl ?_
      refine E_gm rfl ?_
      refine E_pf rfl rfl ?_
      refine E_mv (v' := (.bool false)) (by kernel_rfl) ?_
      refine E_gm rfl ?_
      refine E_gm rfl ?_
      refine E_gm rfl ?_
      refine E_gm rfl ?_
      refine E_gm rfl ?_
      refine E_gm rfl ?_
      refine E_gm rfl ?_
      refine E_pf rfl rfl ?_
      refine E_mv (v' := (.bool false)) (by kernel_rfl) ?_
      refine E_gm rfl ?_
      refine E_gm rfl ?_
      refine E_gm rfl ?_
      refine E_gm rfl ?_
      refine E_gm rfl ?_
      refine E_gm rfl ?_
      refine E_gm rfl ?_
      refine E_gm rfl ?_
      refine E_gm rfl ?_
      refine E_pf rfl rfl ?_
      refine E_mv (v' := (.bool false)) (by kernel_rfl) ?_
      refine E_nil ?_
      exact E_jx _ h (wk_rn [] rfl (Nat.le_of_ble_eq_true rfl) trivial ⟨(rn_b rfl), trivial⟩)
  · refine E_ret ?_
    cases h
    exact ⟨trivial, _, rfl, (fz_b rfl (.refl _))⟩
/- windlass/windlasslaw04.TextLines -/
def fc9 : FC := (.seq (.reg [⟨(some 2), none, .op (.box (.t 0))⟩,
  ⟨(some 4), none, .op (.mv (.v (.bool false)))⟩] [])
  (.seq (.seq (.reg [⟨(some 17), none, .call 19 []⟩,
  ⟨(some 18), none, .op (.un .not (.t 17))⟩] [])
  (.cond (.t 18)
  (.seq (.reg [⟨(some 4), none, .op (.mv (.v (.bool false)))⟩] [])
  .ret)
  .skip))
  (.seq (.reg [⟨(some 20), none, .op (.load (some 1) (.t 2))⟩,
  ⟨(some 21), none, .call 24 [(.t 20)]⟩,
  ⟨(some 19), none, .op (.mv (.t 21))⟩,
  ⟨(some 22), none, .op (.ext 0 (.t 19))⟩,
  ⟨(some 23), none, .op (.ext 1 (.t 19))⟩,
  ⟨(some 5), none, .op (.mv (.t 22))⟩,
  ⟨(some 6), none, .op (.mv (.t 23))⟩] [])
  (.seq (.seq (.reg [⟨(some 24), none, .op (.mv (.t 6))⟩,
  ⟨(some 25), none, .op (.bin .none .neq (.t 24) (.v (.int .i64 0)))⟩] [])
  (.cond (.t 25)
  (.seq (.reg [⟨(some 26), none, .op (.mv (.t 5))⟩,
  ⟨(some 27), none, .op (.bin .none .eql (.t 26) (.v (.str (ByteArray.mk #[]))))⟩,
  ⟨(some 4), none, .op (.mv (.t 27))⟩] [])
  .ret)
  .skip))
  (.seq (.reg [⟨(some 7), none, .op (.mv (.v (.int .i64 0)))⟩] [])
  (.seq (.seq (.reg [⟨(some 28), none, .op (.fad 0 (.t 2))⟩,
  ⟨(some 29), none, .op (.load none (.t 28))⟩,
  ⟨(some 30), none, .op (.len .sl (.t 29))⟩,
  ⟨(some 31), none, .op (.mv (.v (.int .i64 0)))⟩] [])
  (.block 0 (.loop (.seq (.reg [⟨(some 32), none, .op (.bin .none .lss (.t 31) (.t 30))⟩] [])
  (.seq (.cond (.t 32)
  .skip
  (.exit 0))
  (.seq (.block 1 (.seq (.reg [⟨(some 33), none, .op (.iad none (some 5) (.t 29) (.t 31))⟩,
  ⟨(some 34), none, .op (.load (some 5) (.t 33))⟩,
  ⟨(some 9), none, .op (.new [(.int .i64 0), .nils, (.bool false), (.int .i64 0), .nils])⟩,
  ⟨none, none, .op (.store 5 (.t 9) (.t 34))⟩] [])
  (.reg [⟨(some 35), none, .op (.mv (.t 7))⟩,
  ⟨(some 36), none, .op (.fad 4 (.t 9))⟩,
  ⟨(some 37), none, .op (.load none (.t 36))⟩,
  ⟨(some 38), none, .op (.len .sl (.t 37))⟩,
  ⟨(some 39), none, .op (.bin .none .add (.v (.int .i64 1)) (.t 38))⟩,
  ⟨(some 40), none, .op (.bin .none .add (.t 35) (.t 39))⟩,
  ⟨(some 7), none, .op (.mv (.t 40))⟩] [])))
  (.reg [⟨(some 41), none, .op (.bin .none .add (.t 31) (.v (.int .i64 1)))⟩,
  ⟨(some 31), none, .op (.mv (.t 41))⟩] [])))))))
  (.seq (.reg [⟨(some 42), none, .op (.mv (.t 1))⟩,
  ⟨(some 43), none, .op (.cint .u64 (.t 42))⟩,
  ⟨(some 44), none, .op (.mv (.t 7))⟩,
  ⟨(some 45), none, .op (.bin .none .add (.t 44) (.v (.int .i64 1)))⟩,
  ⟨(some 46), none, .op (.cint .u64 (.t 45))⟩,
  ⟨(some 47), none, .op (.bin .none .rem (.t 43) (.t 46))⟩,
  ⟨(some 48), none, .op (.cint .i64 (.t 47))⟩,
  ⟨(some 10), none, .op (.mv (.t 48))⟩] [])
  (.seq (.reg [⟨(some 11), none, .op (.mv (.v (.str (ByteArray.mk #[]))))⟩,
  ⟨(some 12), none, .op (.mv (.v (.int .i64 0)))⟩] [])
  (.seq (.seq (.reg [⟨(some 13), none, .op (.mv (.v (.int .i64 0)))⟩] [])
  (.block 2 (.loop (.seq (.seq (.reg [⟨(some 49), none, .op (.mv (.t 13))⟩,
  ⟨(some 50), none, .op (.mv (.t 5))⟩,
  ⟨(some 51), none, .op (.len .str (.t 50))⟩,
  ⟨(some 52), none, .op (.bin .none .lss (.t 49) (.t 51))⟩] [])
  (.cond (.t 52)
  .skip
  (.exit 2)))
  (.seq (.block 3 (.seq (.seq (.reg [⟨(some 55), none, .op (.mv (.t 12))⟩,
  ⟨(some 56), none, .op (.mv (.t 10))⟩,
  ⟨(some 57), none, .op (.bin .none .eql (.t 55) (.t 56))⟩,
  ⟨(some 58), none, .op (.mv (.t 57))⟩,
  ⟨(some 59), some (58, true), .op (.mv (.t 13))⟩,
  ⟨(some 60), some (58, true), .op (.bin .none .eql (.t 59) (.v (.int .i64 0)))⟩,
  ⟨(some 61), some (58, true), .op (.mv (.t 60))⟩,
  ⟨(some 62), some (61, false), .op (.mv (.t 5))⟩,
  ⟨(some 63), some (61, false), .op (.mv (.t 13))⟩,
  ⟨(some 64), some (61, false), .op (.bin .none .sub (.t 63) (.v (.int .i64 1)))⟩,
  ⟨(some 65), some (61, false), .op (.idxs (.t 62) (.t 64))⟩,
  ⟨(some 66), some (61, false), .op (.bin .none .eql (.t 65) (.v (.int .u8 10)))⟩,
  ⟨(some 67), some (58, true), .op (.pick (.t 61) (.v (.bool true)) (.t 66))⟩,
  ⟨(some 68), none, .op (.pick (.t 58) (.t 67) (.v (.bool false)))⟩] [])
  (.cond (.t 68)
  (.reg [⟨(some 69), none, .op (.mv (.t 11))⟩,
  ⟨(some 70), none, .op (.bin .none .add (.t 69) (.v (.str (ByteArray.mk #[102, 108, 121, 32, 97, 119, 97, 121, 10]))))⟩,
  ⟨(some 11), none, .op (.mv (.t 70))⟩] [])
  .skip))
  (.seq (.reg [⟨(some 71), none, .op (.mv (.t 11))⟩,
  ⟨(some 72), none, .op (.mv (.t 5))⟩,
  ⟨(some 73), none, .op (.mv (.t 13))⟩,
  ⟨(some 74), none, .op (.mv (.t 13))⟩,
  ⟨(some 75), none, .op (.bin .none .add (.t 74) (.v (.int .i64 1)))⟩,
  ⟨(some 76), none, .op (.sls (.t 72) (some (.t 73)) (some (.t 75)))⟩,
  ⟨(some 77), none, .op (.bin .none .add (.t 71) (.t 76))⟩,
  ⟨(some 11), none, .op (.mv (.t 77))⟩] [])
  (.seq (.reg [⟨(some 78), none, .op (.mv (.t 5))⟩,
  ⟨(some 79), none, .op (.mv (.t 13))⟩,
  ⟨(some 80), none, .op (.idxs (.t 78) (.t 79))⟩,
  ⟨(some 81), none, .op (.bin .none .eql (.t 80) (.v (.int .u8 10)))⟩] [])
  (.cond (.t 81)
  (.reg [⟨(some 82), none, .op (.mv (.t 12))⟩,
  ⟨(some 83), none, .op (.bin .none .add (.t 82) (.v (.int .i64 1)))⟩,
  ⟨(some 12), none, .op (.mv (.t 83))⟩] [])
  .skip)))))
  (.reg [⟨(some 53), none, .op (.mv (.t 13))⟩,
  ⟨(some 54), none, .op (.bin .none .add (.t 53) (.v (.int .i64 1)))⟩,
  ⟨(some 13), none, .op (.mv (.t 54))⟩] []))))))
  (.seq (.seq (.reg [⟨(some 84), none, .op (.mv (.t 10))⟩,
  ⟨(some 85), none, .op (.mv (.t 7))⟩,
  ⟨(some 86), none, .op (.bin .none .eql (.t 84) (.t 85))⟩] [])
  (.cond (.t 86)
  (.reg [⟨(some 87), none, .op (.mv (.t 11))⟩,
  ⟨(some 88), none, .op (.bin .none .add (.t 87) (.v (.str (ByteArray.mk #[102, 108, 121, 32, 97, 119, 97, 121]))))⟩,
  ⟨(some 11), none, .op (.mv (.t 88))⟩] [])
  .skip))
  (.seq (.reg [⟨(some 90), none, .op (.mv (.t 11))⟩,
  ⟨(some 91), none, .call 20 [(.t 90)]⟩,
  ⟨(some 89), none, .op (.mv (.t 91))⟩,
  ⟨(some 92), none, .op (.ext 0 (.t 89))⟩,
  ⟨(some 93), none, .op (.ext 1 (.t 89))⟩,
  ⟨(some 94), none, .op (.ext 2 (.t 89))⟩,
  ⟨(some 14), none, .op (.new [.nils])⟩,
  ⟨none, none, .op (.store 1 (.t 14) (.t 92))⟩,
  ⟨(some 15), none, .op (.mv (.t 93))⟩,
  ⟨(some 16), none, .op (.mv (.t 94))⟩] [])
  (.seq (.reg [⟨(some 95), none, .op (.mv (.t 12))⟩,
  ⟨(some 96), none, .op (.mv (.t 7))⟩,
  ⟨(some 97), none, .op (.bin .none .eql (.t 95) (.t 96))⟩,
  ⟨(some 98), none, .op (.mv (.t 97))⟩,
  ⟨(some 99), some (98, true), .op (.mv (.t 16))⟩,
  ⟨(some 100), some (98, true), .op (.bin .none .eql (.t 99) (.v (.int .i64 40)))⟩,
  ⟨(some 101), none, .op (.pick (.t 98) (.t 100) (.v (.bool false)))⟩,
  ⟨(some 102), none, .op (.mv (.t 101))⟩,
  ⟨(some 103), some (102, true), .op (.mv (.t 15))⟩,
  ⟨(some 104), some (102, true), .op (.mv (.t 10))⟩,
  ⟨(some 105), some (102, true), .op (.bin .none .add (.t 104) (.v (.int .i64 1)))⟩,
  ⟨(some 106), some (102, true), .op (.bin .none .eql (.t 103) (.t 105))⟩,
  ⟨(some 107), none, .op (.pick (.t 102) (.t 106) (.v (.bool false)))⟩,
  ⟨(some 108), none, .op (.mv (.t 107))⟩,
  ⟨(some 109), some (108, true), .op (.fad 0 (.t 14))⟩,
  ⟨(some 110), some (108, true), .op (.load none (.t 109))⟩,
  ⟨(some 111), some (108, true), .op (.len .sl (.t 110))⟩,
  ⟨(some 112), some (108, true), .op (.bin .none .eql (.t 111) (.v (.int .i64 0)))⟩,
  ⟨(some 113), none, .op (.pick (.t 108) (.t 112) (.v (.bool false)))⟩,
  ⟨(some 4), none, .op (.mv (.t 113))⟩] [])
  .ret))))))))))))
theorem fn9 : Fn3 Tryd.prog 9 114 [(4, none)] fc9 := ⟨_, _, Tryd.func9, rfl, rfl, rfl, by kernel_rfl⟩
def windlasslaw04_TextLines_s (fuel : Nat) (p_00 : Program) (vat_01 : Int) : Option Bool :=
  (windlasslaw04_first_s.bind fun fir_1 => (if (!fir_1) then (some false) else ((text_Print_s p_00).bind fun pri_2 => (if (pri_2.2 != 0) then (some (ByteArray.toList pri_2.1 == ByteArray.toList (ByteArray.mk #[]))) else ((rng (fun (i_4 : Nat) (f_5 : Func) (s_3 : Int) => ((some (.nxt (I64 (s_3 + (I64 (1 + (List.length f_5.Code : Int))))))) : Option (Stp Int (Option Bool)))) p_00.Funcs 0).bind (oc (fun (s_3 : Int) => (gd ((U64 (I64 (s_3 + 1))) ≠ 0) ((whileN (fun (s_8 : (ByteArray × Int × Int)) => ((if (decide (s_8.2.2 < (ByteArray.size pri_2.1 : Int))) then (jp (fun (s_10 : (ByteArray × Int)) => (some (.nxt (s_10.1, s_10.2, (I64 (s_8.2.2 + 1)))))) (fun k_9 => (jp (fun (s_12 : Bool) => (jp (fun (s_15 : ByteArray) => ((subS pri_2.1 s_8.2.2 (I64 (s_8.2.2 + 1))).bind fun s_17 => ((catS s_15 s_17).bind fun s_18 => ((strI pri_2.1 s_8.2.2).bind fun b_19 => (if (b_19 == 10) then (k_9 (s_18, (I64 (s_8.2.1 + 1)))) else (k_9 (s_18, s_8.2.1))))))) (fun k_14 => (if s_12 then ((catS s_8.1 (ByteArray.mk #[102, 108, 121, 32, 97, 119, 97, 121, 10])).bind fun s_16 => (k_14 s_16)) else (k_14 s_8.1))))) (fun k_11 => (if (s_8.2.1 == (I64 (Int.tmod (U64 vat_01) (U64 (I64 (s_3 + 1)))))) then (if (s_8.2.2 == 0) then (k_11 true) else ((strI pri_2.1 (I64 (s_8.2.2 - 1))).bind fun b_13 => (k_11 (b_13 == 10)))) else (k_11 false)))))) else (some (.brk (s_8.1, s_8.2.1, s_8.2.2)))) : Option (Stp (ByteArray × Int × Int) (Option Bool)))) fuel ((ByteArray.mk #[]), 0, 0)).bind (oc (fun (s_8 : (ByteArray × Int × Int)) => (jp (fun (s_21 : ByteArray) => ((text_Parse_s s_21).bind fun par_23 => (jp (fun (s_25 : Bool) => (some s_25)) (fun k_24 => (if (s_8.2.1 == s_3) then (if (par_23.2.2 == 40) then (if (par_23.2.1 == (I64 ((I64 (Int.tmod (U64 vat_01) (U64 (I64 (s_3 + 1))))) + 1))) then (k_24 ((List.length par_23.1.Funcs : Int) == 0)) else (k_24 false)) else (k_24 false)) else (k_24 false)))))) (fun k_20 => (if ((I64 (Int.tmod (U64 vat_01) (U64 (I64 (s_3 + 1))))) == s_3) then ((catS s_8.1 (ByteArray.mk #[102, 108, 121, 32, 97, 119, 97, 121])).bind fun s_22 => (k_20 s_22)) else (k_20 s_8.1)))))))))))))))
theorem windlasslaw04_TextLines_ev {fuel : Nat} {p_00 : Program} {vat_01 : Int} {r : Bool} (h : windlasslaw04_TextLines_s fuel p_00 vat_01 = some r) : PureEv Tryd.prog 9 [(Program.av p_00), (.int .i64 vat_01)] (.bool r) := by
  unfold windlasslaw04_TextLines_s at h
  refine PureEv_end mixed fn9 (by simp) [9, 14] 6 ?_
  unfold fc9
  refine E_sq ?_
  refine E_reg ?_
  refine E_op0 (v' := (.cptr (Program.av p_00).cells 0)) rfl rfl ?_
  refine E_mv (v' := (.bool false)) rfl ?_
  refine E_nil ?_
  refine E_nx ?_
  refine E_as ?_
  refine E_sq ?_
  refine E_reg ?_
  obtain ⟨fir_1, hfir_1, h⟩ := bd_some h
  refine E_callW (windlasslaw04_first_ev  hfir_1) rfl trivial (blwL_of trivial) rfl ?_
  refine E_op0 (v' := (.bool (!fir_1))) rfl rfl ?_
  refine E_nil ?_
  refine E_nx ?_
  refine E_sq ?_
  refine E_cs (t := (!fir_1)) rfl (fun hb => ?_) (fun hb => ?_)
  · rw [ite_t hb] at h
    refine E_sq ?_
    refine E_reg ?_
    refine E_mv (v' := (.bool false)) rfl ?_
    refine E_nil ?_
    refine E_nx ?_
    refine E_ret ?_
    refine E_thr ?_
    cases h
    exact ⟨trivial, _, rfl, (fz_b rfl (.refl _))⟩
  · rw [ite_f hb] at h
    refine E_skip ?_
    refine E_nx ?_
    refine E_sq ?_
    refine E_reg ?_
    refine E_op0 (v' := (Program.av p_00)) rfl rfl ?_
    obtain ⟨pri_2, hpri_2, h⟩ := bd_some h
    refine E_callW (text_Print_ev  hpri_2) rfl ⟨(.refl _), trivial⟩ (blwL_of ⟨(Program.enc.blw _ 0), trivial⟩) (tup_blw ⟨rfl, rfl, trivial⟩) ?_
    refine E_mv (v' := (.tup [(.str pri_2.1), (.int .i64 pri_2.2)])) rfl ?_
    refine E_op0 (v' := (.str pri_2.1)) rfl rfl ?_
    refine E_op0 (v' := (.int .i64 pri_2.2)) rfl rfl ?_
    refine E_mv (v' := (.str pri_2.1)) rfl ?_
    refine E_mv (v' := (.int .i64 pri_2.2)) rfl ?_
    refine E_nil ?_
    refine E_nx ?_
    refine E_as ?_
    refine E_sq ?_
    refine E_reg ?_
    refine E_mv (v' := (.int .i64 pri_2.2)) rfl ?_
    refine E_op0 (v' := (.bool (pri_2.2 != 0))) rfl rfl ?_
    refine E_nil ?_
    refine E_nx ?_
    refine E_sq ?_
    refine E_cs (t := (pri_2.2 != 0)) rfl (fun hb => ?_) (fun hb => ?_)
    · rw [ite_t hb] at h
      refine E_sq ?_
      refine E_reg ?_
      refine E_mv (v' := (.str pri_2.1)) rfl ?_
      refine E_op0 (v' := (.bool (ByteArray.toList pri_2.1 == ByteArray.toList (ByteArray.mk #[])))) rfl rfl ?_
      refine E_mv (v' := (.bool (ByteArray.toList pri_2.1 == ByteArray.toList (ByteArray.mk #[])))) rfl ?_
      refine E_nil ?_
      refine E_nx ?_
      refine E_ret ?_
      refine E_thr ?_
      cases h
      exact ⟨trivial, _, rfl, (fz_b rfl (.refl _))⟩
    · rw [ite_f hb] at h
      refine E_skip ?_
      refine E_nx ?_
      refine E_sq ?_
      refine E_reg ?_
      refine E_mv (v' := (.int .i64 0)) rfl ?_
      refine E_nil ?_
      refine E_nx ?_
      refine E_as ?_
      refine E_sq ?_
      refine E_reg ?_
      refine E_op0 (v' := (.cptr (Program.av p_00).cells 0)) rfl rfl ?_
      refine E_op0 (v' := (.sl false 5 (List.map Func.av p_00.Funcs))) rfl rfl ?_
      refine E_len rfl ?_
      refine E_mv (v' := (.int .i64 0)) rfl ?_
      refine E_nil ?_
      refine E_nx ?_
      refine E_sq ?_
      refine E_rngO (fun s_3 => [(1, (.int .i64 vat_01)), (5, (.str pri_2.1)), (7, (.int .i64 s_3)), (29, (.sl false 5 (List.map Func.av p_00.Funcs)))]) (fun s_3 => []) h (by decide) (by decide) (fun _ => ⟨rfl, rfl, rfl, rfl⟩) (wk_aw ⟨(.refl _), (.refl _), (.refl _), (.refl _), (.refl _), (.refl _), trivial⟩) (fun i_4 f_5 s_3 c hx_6 hlt h => ?_) (fun s_3 fr' S' h hw => ?_)
      · refine E_sq ?_
        refine E_reg ?_
        refine E_iadF rfl rfl (getI_of hx_6) ?_
        refine E_op0 (v' := (Func.av f_5)) rfl rfl ?_
        refine E_op (v' := .ptr 0 0 0) (S' := [.arr 0 [(.int .i64 0), .nils, (.bool false), (.int .i64 0), .nils]]) rfl rfl rfl ?_
        refine E_do (S' := [.arr 0 [(.int .i64 f_5.Params), (.sl false 1 (List.map (avI .u8) f_5.Locals)), (.bool f_5.Result), (.int .i64 f_5.Keep), (.sl false 3 (List.map Instr.av f_5.Code))]]) rfl rfl ?_
        refine E_nil ?_
        refine E_nx ?_
        refine E_reg ?_
        refine E_mv (v' := (.int .i64 s_3)) rfl ?_
        refine E_op0 (v' := (.ptr 0 0 4)) rfl rfl ?_
        refine E_op (v' := (.sl false 3 (List.map Instr.av f_5.Code))) (S' := [.arr 0 [(.int .i64 f_5.Params), (.sl false 1 (List.map (avI .u8) f_5.Locals)), (.bool f_5.Result), (.int .i64 f_5.Keep), (.sl false 3 (List.map Instr.av f_5.Code))]]) rfl rfl rfl ?_
        refine E_len rfl ?_
        refine E_op0 (v' := (.int .i64 (I64 (1 + (List.length f_5.Code : Int))))) rfl rfl ?_
        refine E_op0 (v' := (.int .i64 (I64 (s_3 + (I64 (1 + (List.length f_5.Code : Int))))))) rfl rfl ?_
        refine E_mv (v' := (.int .i64 (I64 (s_3 + (I64 (1 + (List.length f_5.Code : Int))))))) rfl ?_
        refine E_nil ?_
        cases h
        exact L_nn rfl (wk_rn [] rfl (Nat.le_of_ble_eq_true rfl) trivial ⟨(rn_b rfl), (rn_b rfl), (rn_b rfl), (rn_b rfl), (rn_b rfl), (rn_b (Func.enc.blws 0)), trivial⟩)
      · refine X_nx hw ?_
        refine E_sq ?_
        refine E_reg ?_
        refine E_mv (v' := (.int .i64 vat_01)) rfl ?_
        refine E_op0 (v' := (.int .u64 (U64 vat_01))) rfl rfl ?_
        refine E_mv (v' := (.int .i64 s_3)) rfl ?_
        refine E_op0 (v' := (.int .i64 (I64 (s_3 + 1)))) rfl rfl ?_
        refine E_op0 (v' := (.int .u64 (U64 (I64 (s_3 + 1))))) rfl rfl ?_
        obtain ⟨hg_7, h⟩ := gd_some h
        refine E_rem rfl rfl hg_7 ?_
        refine E_op0 (v' := (.int .i64 (I64 (Int.tmod (U64 vat_01) (U64 (I64 (s_3 + 1))))))) rfl rfl ?_
        refine E_mv (v' := (.int .i64 (I64 (Int.tmod (U64 vat_01) (U64 (I64 (s_3 + 1))))))) rfl ?_
        refine E_nil ?_
        refine E_nx ?_
        refine E_sq ?_
        refine E_reg ?_
        refine E_mv (v' := (.str (ByteArray.mk #[]))) rfl ?_
        refine E_mv (v' := (.int .i64 0)) rfl ?_
        refine E_nil ?_
        refine E_nx ?_
        refine E_as ?_
        refine E_sq ?_
        refine E_reg ?_
        refine E_mv (v' := (.int .i64 0)) rfl ?_
        refine E_nil ?_
        refine E_nx ?_
        refine E_sq ?_
        refine E_whileO (fun s_8 => [(5, (.str pri_2.1)), (7, (.int .i64 s_3)), (10, (.int .i64 (I64 (Int.tmod (U64 vat_01) (U64 (I64 (s_3 + 1))))))), (11, (.str s_8.1)), (12, (.int .i64 s_8.2.1)), (13, (.int .i64 s_8.2.2))]) (fun s_8 => []) h (wk_aw ⟨(.refl _), (.refl _), (.refl _), (.refl _), (.refl _), (.refl _), trivial⟩) (fun s_8 c h => ?_) (fun s_8 fr' S' h hw => ?_)
        · refine E_as ?_
          refine E_sq ?_
          refine E_reg ?_
          refine E_mv (v' := (.int .i64 s_8.2.2)) rfl ?_
          refine E_mv (v' := (.str pri_2.1)) rfl ?_
          refine E_op0 (v' := (.int .i64 (ByteArray.size pri_2.1 : Int))) rfl rfl ?_
          refine E_op0 (v' := (.bool (decide (s_8.2.2 < (ByteArray.size pri_2.1 : Int))))) rfl rfl ?_
          refine E_nil ?_
          refine E_nx ?_
          refine E_sq ?_
          refine E_cs (t := (decide (s_8.2.2 < (ByteArray.size pri_2.1 : Int)))) rfl (fun hb => ?_) (fun hb => ?_)
          · rw [ite_t hb] at h
            refine E_skip ?_
            refine E_nx ?_
            refine E_jp h (fun s_10 => [(5, (.str pri_2.1)), (7, (.int .i64 s_3)), (10, (.int .i64 (I64 (Int.tmod (U64 vat_01) (U64 (I64 (s_3 + 1))))))), (11, (.str s_10.1)), (12, (.int .i64 s_10.2)), (13, (.int .i64 s_8.2.2))]) (fun s_10 => []) (fun k_9 h => ?_) (fun s_10 h => ?_)
            · refine E_block ?_
              refine E_as ?_
              refine E_jp h (fun s_12 => [(5, (.str pri_2.1)), (7, (.int .i64 s_3)), (10, (.int .i64 (I64 (Int.tmod (U64 vat_01) (U64 (I64 (s_3 + 1))))))), (11, (.str s_8.1)), (12, (.int .i64 s_8.2.1)), (13, (.int .i64 s_8.2.2)), (68, (.bool s_12))]) (fun s_12 => []) (fun k_11 h => ?_) (fun s_12 h => ?_)
              · refine E_reg ?_
                refine E_mv (v' := (.int .i64 s_8.2.1)) rfl ?_
                refine E_mv (v' := (.int .i64 (I64 (Int.tmod (U64 vat_01) (U64 (I64 (s_3 + 1))))))) rfl ?_
                refine E_op0 (v' := (.bool (s_8.2.1 == (I64 (Int.tmod (U64 vat_01) (U64 (I64 (s_3 + 1)))))))) rfl rfl ?_
                refine E_mv (v' := (.bool (s_8.2.1 == (I64 (Int.tmod (U64 vat_01) (U64 (I64 (s_3 + 1)))))))) rfl ?_
                refine E_gsT (b := (s_8.2.1 == (I64 (Int.tmod (U64 vat_01) (U64 (I64 (s_3 + 1))))))) rfl rfl rfl (fun hb => ?_) (fun hb => ?_)
                · rw [ite_t hb] at h
                  refine E_mv (v' := (.int .i64 s_8.2.2)) rfl ?_
                  refine E_gh rfl ?_
                  refine E_op0 (v' := (.bool (s_8.2.2 == 0))) rfl rfl ?_
                  refine E_gh rfl ?_
                  refine E_mv (v' := (.bool (s_8.2.2 == 0))) rfl ?_
                  refine E_gsT (b := (s_8.2.2 == 0)) rfl rfl rfl (fun hb => ?_) (fun hb => ?_)
                  · rw [ite_f hb] at h
                    refine E_mv (v' := (.str pri_2.1)) rfl ?_
                    refine E_gh rfl ?_
                    refine E_mv (v' := (.int .i64 s_8.2.2)) rfl ?_
                    refine E_gh rfl ?_
                    refine E_op0 (v' := (.int .i64 (I64 (s_8.2.2 - 1)))) rfl rfl ?_
                    refine E_gh rfl ?_
                    obtain ⟨b_13, hb_13, h⟩ := bd_some h
                    refine E_idxS rfl rfl hb_13 ?_
                    refine E_gh rfl ?_
                    refine E_op0 (v' := (.bool (b_13 == 10))) rfl rfl ?_
                    refine E_gh rfl ?_
                    refine E_pf rfl rfl ?_
                    refine E_pt rfl rfl ?_
                    refine E_nil ?_
                    exact E_jx _ h (wk_aw ⟨(.refl _), (.refl _), (.refl _), (.refl _), (.refl _), (.refl _), (.refl _), trivial⟩)
                  · rw [ite_t hb] at h
                    refine E_gm rfl ?_
                    refine E_gm rfl ?_
                    refine E_gm rfl ?_
                    refine E_gm rfl ?_
                    refine E_gh rfl ?_
                    refine E_pt rfl rfl ?_
                    refine E_pt rfl rfl ?_
                    refine E_nil ?_
                    exact E_jx _ h (wk_aw ⟨(.refl _), (.refl _), (.refl _), (.refl _), (.refl _), (.refl _), (.refl _), trivial⟩)
                · rw [ite_f hb] at h
                  refine E_gm rfl ?_
                  refine E_gm rfl ?_
                  refine E_gz rfl ?_
                  refine E_gz rfl ?_
                  refine E_gz rfl ?_
                  refine E_gz rfl ?_
                  refine E_gz rfl ?_
                  refine E_gm rfl ?_
                  refine E_pf rfl rfl ?_
                  refine E_nil ?_
                  exact E_jx _ h (wk_aw ⟨(.refl _), (.refl _), (.refl _), (.refl _), (.refl _), (.refl _), (.refl _), trivial⟩)
              · refine E_jp h (fun s_15 => [(5, (.str pri_2.1)), (7, (.int .i64 s_3)), (10, (.int .i64 (I64 (Int.tmod (U64 vat_01) (U64 (I64 (s_3 + 1))))))), (11, (.str s_15)), (12, (.int .i64 s_8.2.1)), (13, (.int .i64 s_8.2.2))]) (fun s_15 => []) (fun k_14 h => ?_) (fun s_15 h => ?_)
                · refine E_cs (t := s_12) rfl (fun hb => ?_) (fun hb => ?_)
                  · rw [ite_t hb] at h
                    refine E_reg ?_
                    refine E_mv (v' := (.str s_8.1)) rfl ?_
                    obtain ⟨s_16, hs_16, h⟩ := bd_some h
                    refine E_cat rfl rfl hs_16 ?_
                    refine E_mv (v' := (.str s_16)) rfl ?_
                    refine E_nil ?_
                    exact E_jx _ h (wk_aw ⟨(.refl _), (.refl _), (.refl _), (.refl _), (.refl _), (.refl _), trivial⟩)
                  · rw [ite_f hb] at h
                    refine E_skip ?_
                    exact E_jx _ h (wk_aw ⟨(.refl _), (.refl _), (.refl _), (.refl _), (.refl _), (.refl _), trivial⟩)
                · refine E_sq ?_
                  refine E_reg ?_
                  refine E_mv (v' := (.str s_15)) rfl ?_
                  refine E_mv (v' := (.str pri_2.1)) rfl ?_
                  refine E_mv (v' := (.int .i64 s_8.2.2)) rfl ?_
                  refine E_mv (v' := (.int .i64 s_8.2.2)) rfl ?_
                  refine E_op0 (v' := (.int .i64 (I64 (s_8.2.2 + 1)))) rfl rfl ?_
                  obtain ⟨s_17, hs_17, h⟩ := bd_some h
                  refine E_sls rfl (fun h0 => loN_int h0) (fun h0 => hiN_int h0) hs_17 ?_
                  obtain ⟨s_18, hs_18, h⟩ := bd_some h
                  refine E_cat rfl rfl hs_18 ?_
                  refine E_mv (v' := (.str s_18)) rfl ?_
                  refine E_nil ?_
                  refine E_nx ?_
                  refine E_sq ?_
                  refine E_reg ?_
                  refine E_mv (v' := (.str pri_2.1)) rfl ?_
                  refine E_mv (v' := (.int .i64 s_8.2.2)) rfl ?_
                  obtain ⟨b_19, hb_19, h⟩ := bd_some h
                  refine E_idxS rfl rfl hb_19 ?_
                  refine E_op0 (v' := (.bool (b_19 == 10))) rfl rfl ?_
                  refine E_nil ?_
                  refine E_nx ?_
                  refine E_cs (t := (b_19 == 10)) rfl (fun hb => ?_) (fun hb => ?_)
                  · rw [ite_t hb] at h
                    refine E_reg ?_
                    refine E_mv (v' := (.int .i64 s_8.2.1)) rfl ?_
                    refine E_op0 (v' := (.int .i64 (I64 (s_8.2.1 + 1)))) rfl rfl ?_
                    refine E_mv (v' := (.int .i64 (I64 (s_8.2.1 + 1)))) rfl ?_
                    refine E_nil ?_
                    refine E_bln ?_
                    exact E_jx _ h (wk_aw ⟨(.refl _), (.refl _), (.refl _), (.refl _), (.refl _), (.refl _), trivial⟩)
                  · rw [ite_f hb] at h
                    refine E_skip ?_
                    refine E_bln ?_
                    exact E_jx _ h (wk_aw ⟨(.refl _), (.refl _), (.refl _), (.refl _), (.refl _), (.refl _), trivial⟩)
            · refine E_reg ?_
              refine E_mv (v' := (.int .i64 s_8.2.2)) rfl ?_
              refine E_op0 (v' := (.int .i64 (I64 (s_8.2.2 + 1)))) rfl rfl ?_
              refine E_mv (v' := (.int .i64 (I64 (s_8.2.2 + 1)))) rfl ?_
              refine E_nil ?_
              cases h
              exact L_nn rfl (wk_aw ⟨(.refl _), (.refl _), (.refl _), (.refl _), (.refl _), (.refl _), trivial⟩)
          · rw [ite_f hb] at h
            refine E_exit ?_
            refine E_the ?_
            cases h
            exact L_bk rfl rfl rfl (wk_aw ⟨(.refl _), (.refl _), (.refl _), (.refl _), (.refl _), (.refl _), trivial⟩)
        · refine X_nx hw ?_
          refine E_as ?_
          refine E_sq ?_
          refine E_reg ?_
          refine E_mv (v' := (.int .i64 (I64 (Int.tmod (U64 vat_01) (U64 (I64 (s_3 + 1))))))) rfl ?_
          refine E_mv (v' := (.int .i64 s_3)) rfl ?_
          refine E_op0 (v' := (.bool ((I64 (Int.tmod (U64 vat_01) (U64 (I64 (s_3 + 1))))) == s_3))) rfl rfl ?_
          refine E_nil ?_
          refine E_nx ?_
          refine E_jp h (fun s_21 => [(7, (.int .i64 s_3)), (10, (.int .i64 (I64 (Int.tmod (U64 vat_01) (U64 (I64 (s_3 + 1))))))), (11, (.str s_21)), (12, (.int .i64 s_8.2.1))]) (fun s_21 => []) (fun k_20 h => ?_) (fun s_21 h => ?_)
          · refine E_cs (t := ((I64 (Int.tmod (U64 vat_01) (U64 (I64 (s_3 + 1))))) == s_3)) rfl (fun hb => ?_) (fun hb => ?_)
            · rw [ite_t hb] at h
              refine E_reg ?_
              refine E_mv (v' := (.str s_8.1)) rfl ?_
              obtain ⟨s_22, hs_22, h⟩ := bd_some h
              refine E_cat rfl rfl hs_22 ?_
              refine E_mv (v' := (.str s_22)) rfl ?_
              refine E_nil ?_
              exact E_jx _ h (wk_aw ⟨(.refl _), (.refl _), (.refl _), (.refl _), trivial⟩)
            · rw [ite_f hb] at h
              refine E_skip ?_
              exact E_jx _ h (wk_aw ⟨(.refl _), (.refl _), (.refl _), (.refl _), trivial⟩)
          · refine E_sq ?_
            refine E_reg ?_
            refine E_mv (v' := (.str s_21)) rfl ?_
            obtain ⟨par_23, hpar_23, h⟩ := bd_some h
            refine E_callW (text_Parse_ev  hpar_23) rfl ⟨(.refl _), trivial⟩ (blwL_of ⟨rfl, trivial⟩) (tup_blw ⟨(Program.enc.blw _ 0), rfl, rfl, trivial⟩) ?_
            refine E_mv (v' := (.tup [(Program.av par_23.1), (.int .i64 par_23.2.1), (.int .i64 par_23.2.2)])) rfl ?_
            refine E_op0 (v' := (Program.av par_23.1)) rfl rfl ?_
            refine E_op0 (v' := (.int .i64 par_23.2.1)) rfl rfl ?_
            refine E_op0 (v' := (.int .i64 par_23.2.2)) rfl rfl ?_
            refine E_op (v' := .ptr 0 0 0) (S' := [.arr 0 [.nils]]) rfl rfl rfl ?_
            refine E_do (S' := [.arr 0 [(.sl false 5 (List.map Func.av par_23.1.Funcs))]]) rfl rfl ?_
            refine E_mv (v' := (.int .i64 par_23.2.1)) rfl ?_
            refine E_mv (v' := (.int .i64 par_23.2.2)) rfl ?_
            refine E_nil ?_
            refine E_nx ?_
            refine E_jp h (fun s_25 => [(4, (.bool s_25))]) (fun s_25 => []) (fun k_24 h => ?_) (fun s_25 h => ?_)
            · refine E_reg ?_
              refine E_mv (v' := (.int .i64 s_8.2.1)) rfl ?_
              refine E_mv (v' := (.int .i64 s_3)) rfl ?_
              refine E_op0 (v' := (.bool (s_8.2.1 == s_3))) rfl rfl ?_
              refine E_mv (v' := (.bool (s_8.2.1 == s_3))) rfl ?_
              refine E_gsT (b := (s_8.2.1 == s_3)) rfl rfl rfl (fun hb => ?_) (fun hb => ?_)
              · rw [ite_t hb] at h
                refine E_mv (v' := (.int .i64 par_23.2.2)) rfl ?_
                refine E_gh rfl ?_
                refine E_op0 (v' := (.bool (par_23.2.2 == 40))) rfl rfl ?_
                refine E_pt rfl rfl ?_
                refine E_mv (v' := (.bool (par_23.2.2 == 40))) rfl ?_
                refine E_gsT (b := (par_23.2.2 == 40)) rfl rfl rfl (fun hb => ?_) (fun hb => ?_)
                · rw [ite_t hb] at h
                  refine E_mv (v' := (.int .i64 par_23.2.1)) rfl ?_
                  refine E_gh rfl ?_
                  refine E_mv (v' := (.int .i64 (I64 (Int.tmod (U64 vat_01) (U64 (I64 (s_3 + 1))))))) rfl ?_
                  refine E_gh rfl ?_
                  refine E_op0 (v' := (.int .i64 (I64 ((I64 (Int.tmod (U64 vat_01) (U64 (I64 (s_3 + 1))))) + 1)))) rfl rfl ?_
                  refine E_gh rfl ?_
                  refine E_op0 (v' := (.bool (par_23.2.1 == (I64 ((I64 (Int.tmod (U64 vat_01) (U64 (I64 (s_3 + 1))))) + 1))))) rfl rfl ?_
                  refine E_pt rfl rfl ?_
                  refine E_mv (v' := (.bool (par_23.2.1 == (I64 ((I64 (Int.tmod (U64 vat_01) (U64 (I64 (s_3 + 1))))) + 1))))) rfl ?_
                  refine E_gsT (b := (par_23.2.1 == (I64 ((I64 (Int.tmod (U64 vat_01) (U64 (I64 (s_3 + 1))))) + 1)))) rfl rfl rfl (fun hb => ?_) (fun hb => ?_)
                  · rw [ite_t hb] at h
                    refine E_op0 (v' := (.ptr 0 0 0)) rfl rfl ?_
                    refine E_gh rfl ?_
                    refine E_op (v' := (.sl false 5 (List.map Func.av par_23.1.Funcs))) (S' := [.arr 0 [(.sl false 5 (List.map Func.av par_23.1.Funcs))]]) rfl rfl rfl ?_
                    refine E_gh rfl ?_
                    refine E_len rfl ?_
                    refine E_gh rfl ?_
                    refine E_op0 (v' := (.bool ((List.length par_23.1.Funcs : Int) == 0))) rfl rfl ?_
                    refine E_pt rfl rfl ?_
                    refine E_mv (v' := (.bool ((List.length par_23.1.Funcs : Int) == 0))) rfl ?_
                    refine E_nil ?_
                    exact E_jx _ h (wk_rn [] rfl (Nat.le_of_ble_eq_true rfl) trivial ⟨(rn_b rfl), trivial⟩)
                  · rw [ite_f hb] at h
                    refine E_gm rfl ?_
                    refine E_gm rfl ?_
                    refine E_gm rfl ?_
                    refine E_pf rfl rfl ?_
                    refine E_mv (v' := (.bool false)) rfl ?_
                    refine E_nil ?_
                    exact E_jx _ h (wk_rn [] rfl (Nat.le_of_ble_eq_true rfl) trivial ⟨(rn_b rfl), trivial⟩)
                · rw [ite_f hb] at h
                  refine E_gm rfl ?_
                  refine E_gm rfl ?_
                  refine E_gm rfl ?_
                  refine E_pf rfl rfl ?_
                  refine E_mv (v' := (.bool false)) rfl ?_
                  refine E_gm rfl ?_
                  refine E_gm rfl ?_
                  refine E_gm rfl ?_
                  refine E_gm rfl ?_
                  refine E_pf rfl rfl ?_
                  refine E_mv (v' := (.bool false)) rfl ?_
                  refine E_nil ?_
                  exact E_jx _ h (wk_rn [] rfl (Nat.le_of_ble_eq_true rfl) trivial ⟨(rn_b rfl), trivial⟩)
              · rw [ite_f hb] at h
                refine E_gm rfl ?_
                refine E_pf rfl rfl ?_
                refine E_mv (v' := (.bool false)) rfl ?_
                refine E_gm rfl ?_
                refine E_gm rfl ?_
                refine E_gm rfl ?_
                refine E_gm rfl ?_
                refine E_pf rfl rfl ?_
                refine E_mv (v' := (.bool false)) rfl ?_
                refine E_gm rfl ?_
                refine E_gm rfl ?_
                refine E_gm rfl ?_
                refine E_gm rfl ?_
                refine E_pf rfl rfl ?_
                refine E_mv (v' := (.bool false)) rfl ?_
                refine E_nil ?_
                exact E_jx _ h (wk_rn [] rfl (Nat.le_of_ble_eq_true rfl) trivial ⟨(rn_b rfl), trivial⟩)
            · refine E_ret ?_
              cases h
              exact ⟨trivial, _, rfl, (fz_b rfl (.refl _))⟩
end Go.Proofs.YtkfhljombjmdbaaDoor
