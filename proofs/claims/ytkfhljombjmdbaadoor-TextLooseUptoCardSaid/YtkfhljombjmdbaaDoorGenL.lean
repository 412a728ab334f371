/- What the functions compute, and that they do (printed by wip/gen/gen.py), part 1. -/
import Derived.Test.YtkfhljombjmdbaaDoorWlH1
import Derived.Test.YtkfhljombjmdbaaDoorRows
import Derived.Test.YtkfhljombjmdbaaDoorTxN
namespace Go.Proofs.YtkfhljombjmdbaaDoor
open Go Go.Ab
set_option maxRecDepth 20000
set_option maxHeartbeats 2000000
set_option linter.unusedVariables false
set_option linter.unusedSimpArgs false
/- windlass/windlasslaw04.first -/
def fc19 : FC := (.seq (.reg [⟨(some 0), none, .op (.mv (.v (.bool false)))⟩] [])
  (.seq (.reg [⟨(some 5), none, .call 20 [(.v (.str (ByteArray.mk #[35, 32, 120, 10, 102, 117, 110, 99, 32, 49, 32, 110, 112, 32, 49, 32, 48, 10, 32, 32, 103, 101, 116, 32, 32, 48, 10, 99, 111, 110, 115, 116, 32, 55, 10])))]⟩,
  ⟨(some 4), none, .op (.mv (.t 5))⟩,
  ⟨(some 6), none, .op (.ext 0 (.t 4))⟩,
  ⟨(some 7), none, .op (.ext 1 (.t 4))⟩,
  ⟨(some 8), none, .op (.ext 2 (.t 4))⟩,
  ⟨(some 1), none, .op (.new [.nils])⟩,
  ⟨none, none, .op (.store 1 (.t 1) (.t 6))⟩,
  ⟨(some 2), none, .op (.mv (.t 7))⟩,
  ⟨(some 3), none, .op (.mv (.t 8))⟩] [])
  (.seq (.reg [⟨(some 9), none, .op (.mv (.t 3))⟩,
  ⟨(some 10), none, .op (.bin .none .eql (.t 9) (.v (.int .i64 0)))⟩,
  ⟨(some 11), none, .op (.mv (.t 10))⟩,
  ⟨(some 12), some (11, true), .op (.mv (.t 2))⟩,
  ⟨(some 13), some (11, true), .op (.bin .none .eql (.t 12) (.v (.int .i64 0)))⟩,
  ⟨(some 14), none, .op (.pick (.t 11) (.t 13) (.v (.bool false)))⟩,
  ⟨(some 15), none, .op (.mv (.t 14))⟩,
  ⟨(some 16), some (15, true), .op (.fad 0 (.t 1))⟩,
  ⟨(some 17), some (15, true), .op (.load none (.t 16))⟩,
  ⟨(some 18), some (15, true), .op (.len .sl (.t 17))⟩,
  ⟨(some 19), some (15, true), .op (.bin .none .eql (.t 18) (.v (.int .i64 1)))⟩,
  ⟨(some 20), none, .op (.pick (.t 15) (.t 19) (.v (.bool false)))⟩,
  ⟨(some 21), none, .op (.mv (.t 20))⟩,
  ⟨(some 22), some (21, true), .op (.fad 0 (.t 1))⟩,
  ⟨(some 23), some (21, true), .op (.load none (.t 22))⟩,
  ⟨(some 24), some (21, true), .op (.iad none (some 5) (.t 23) (.v (.int .i64 0)))⟩,
  ⟨(some 25), some (21, true), .op (.fad 0 (.t 24))⟩,
  ⟨(some 26), some (21, true), .op (.load none (.t 25))⟩,
  ⟨(some 27), some (21, true), .op (.bin .none .eql (.t 26) (.v (.int .i64 1)))⟩,
  ⟨(some 28), none, .op (.pick (.t 21) (.t 27) (.v (.bool false)))⟩,
  ⟨(some 29), none, .op (.mv (.t 28))⟩,
  ⟨(some 30), some (29, true), .op (.fad 0 (.t 1))⟩,
  ⟨(some 31), some (29, true), .op (.load none (.t 30))⟩,
  ⟨(some 32), some (29, true), .op (.iad none (some 5) (.t 31) (.v (.int .i64 0)))⟩,
  ⟨(some 33), some (29, true), .op (.fad 1 (.t 32))⟩,
  ⟨(some 34), some (29, true), .op (.load none (.t 33))⟩,
  ⟨(some 35), some (29, true), .op (.len .sl (.t 34))⟩,
  ⟨(some 36), some (29, true), .op (.bin .none .eql (.t 35) (.v (.int .i64 2)))⟩,
  ⟨(some 37), none, .op (.pick (.t 29) (.t 36) (.v (.bool false)))⟩,
  ⟨(some 38), none, .op (.mv (.t 37))⟩,
  ⟨(some 39), some (38, true), .op (.fad 0 (.t 1))⟩,
  ⟨(some 40), some (38, true), .op (.load none (.t 39))⟩,
  ⟨(some 41), some (38, true), .op (.iad none (some 5) (.t 40) (.v (.int .i64 0)))⟩,
  ⟨(some 42), some (38, true), .op (.fad 3 (.t 41))⟩,
  ⟨(some 43), some (38, true), .op (.load none (.t 42))⟩,
  ⟨(some 44), some (38, true), .op (.bin .none .eql (.t 43) (.v (.int .i64 0)))⟩,
  ⟨(some 45), none, .op (.pick (.t 38) (.t 44) (.v (.bool false)))⟩,
  ⟨(some 46), none, .op (.mv (.t 45))⟩,
  ⟨(some 47), some (46, true), .op (.fad 0 (.t 1))⟩,
  ⟨(some 48), some (46, true), .op (.load none (.t 47))⟩,
  ⟨(some 49), some (46, true), .op (.iad none (some 5) (.t 48) (.v (.int .i64 0)))⟩,
  ⟨(some 50), some (46, true), .op (.fad 4 (.t 49))⟩,
  ⟨(some 51), some (46, true), .op (.load none (.t 50))⟩,
  ⟨(some 52), some (46, true), .op (.len .sl (.t 51))⟩,
  ⟨(some 53), some (46, true), .op (.bin .none .eql (.t 52) (.v (.int .i64 2)))⟩,
  ⟨(some 54), none, .op (.pick (.t 46) (.t 53) (.v (.bool false)))⟩,
  ⟨(some 55), none, .op (.mv (.t 54))⟩,
  ⟨(some 56), some (55, true), .op (.fad 0 (.t 1))⟩,
  ⟨(some 57), some (55, true), .op (.load none (.t 56))⟩,
  ⟨(some 58), some (55, true), .op (.iad none (some 5) (.t 57) (.v (.int .i64 0)))⟩,
  ⟨(some 59), some (55, true), .op (.fad 4 (.t 58))⟩,
  ⟨(some 60), some (55, true), .op (.load none (.t 59))⟩,
  ⟨(some 61), some (55, true), .op (.iad none (some 3) (.t 60) (.v (.int .i64 1)))⟩,
  ⟨(some 62), some (55, true), .op (.fad 2 (.t 61))⟩,
  ⟨(some 63), some (55, true), .op (.load none (.t 62))⟩,
  ⟨(some 64), some (55, true), .op (.bin .none .eql (.t 63) (.v (.int .u64 7)))⟩,
  ⟨(some 65), none, .op (.pick (.t 55) (.t 64) (.v (.bool false)))⟩,
  ⟨(some 0), none, .op (.mv (.t 65))⟩] [])
  .ret)))
theorem fn19 : Fn3 Tryd.prog 19 66 [(0, none)] fc19 := ⟨_, _, Tryd.func19, rfl, rfl, rfl, by kernel_rfl⟩
def windlasslaw04_first_s  : Option Bool :=
  ((text_Parse_s (ByteArray.mk #[35, 32, 120, 10, 102, 117, 110, 99, 32, 49, 32, 110, 112, 32, 49, 32, 48, 10, 32, 32, 103, 101, 116, 32, 32, 48, 10, 99, 111, 110, 115, 116, 32, 55, 10])).bind fun par_1 => (jp (fun (s_3 : Bool) => (some s_3)) (fun k_2 => (if (par_1.2.2 == 0) then (if (par_1.2.1 == 0) then (if ((List.length par_1.1.Funcs : Int) == 1) then ((getI par_1.1.Funcs 0).bind fun y_4 => (if (y_4.Params == 1) then (if ((List.length y_4.Locals : Int) == 2) then (if (y_4.Keep == 0) then (if ((List.length y_4.Code : Int) == 2) then ((getI y_4.Code 1).bind fun y_5 => (k_2 (y_5.Imm == 7))) else (k_2 false)) else (k_2 false)) else (k_2 false)) else (k_2 false))) else (k_2 false)) else (k_2 false)) else (k_2 false)))))
theorem windlasslaw04_first_ev  {r : Bool} (h : windlasslaw04_first_s  = some r) : PureEv Tryd.prog 19 [] (.bool r) := by
  unfold windlasslaw04_first_s at h
  refine PureEv_end mixed fn19 (by simp) [1] 6 ?_
  unfold fc19
  refine E_sq ?_
  refine E_reg ?_
  refine E_mv (v' := (.bool false)) rfl ?_
  refine E_nil ?_
  refine E_nx ?_
  refine E_sq ?_
  refine E_reg ?_
  obtain ⟨par_1, hpar_1, h⟩ := bd_some h
  refine E_callW (text_Parse_ev  hpar_1) rfl ⟨(.refl _), trivial⟩ (blwL_of ⟨rfl, trivial⟩) (tup_blw ⟨(Program.enc.blw _ 0), rfl, rfl, trivial⟩) ?_
  refine E_mv (v' := (.tup [(Program.av par_1.1), (.int .i64 par_1.2.1), (.int .i64 par_1.2.2)])) rfl ?_
  refine E_op0 (v' := (Program.av par_1.1)) rfl rfl ?_
  refine E_op0 (v' := (.int .i64 par_1.2.1)) rfl rfl ?_
  refine E_op0 (v' := (.int .i64 par_1.2.2)) rfl rfl ?_
  refine E_op (v' := .ptr 0 0 0) (S' := [.arr 0 [.nils]]) rfl rfl rfl ?_
  refine E_do (S' := [.arr 0 [(.sl false 5 (List.map Func.av par_1.1.Funcs))]]) rfl rfl ?_
  refine E_mv (v' := (.int .i64 par_1.2.1)) rfl ?_
  refine E_mv (v' := (.int .i64 par_1.2.2)) rfl ?_
  refine E_nil ?_
  refine E_nx ?_
  refine E_jp h (fun s_3 => [(0, (.bool s_3))]) (fun s_3 => []) (fun k_2 h => ?_) (fun s_3 h => ?_)
  · refine E_reg ?_
    refine E_mv (v' := (.int .i64 par_1.2.2)) (by kernel_rfl) ?_
    refine E_op0 (v := (.bool (par_1.2.2 == 0))) (v' := (.bool (par_1.2.2 == 0))) (by kernel_rfl) rfl ?_
    refine E_mv (v' := (.bool (par_1.2.2 == 0))) (by kernel_rfl) ?_
    refine E_gsT (b := (par_1.2.2 == 0)) rfl rfl rfl (fun hb => ?_) (fun hb => ?_)
    · rw [ite_t hb] at h
      refine E_mv (v' := (.int .i64 par_1.2.1)) (by kernel_rfl) ?_
      refine E_gh rfl ?_
      refine E_op0 (v := (.bool (par_1.2.1 == 0))) (v' := (.bool (par_1.2.1 == 0))) (by kernel_rfl) rfl ?_
      refine E_pt rfl rfl ?_
      refine E_mv (v' := (.bool (par_1.2.1 == 0))) (by kernel_rfl) ?_
      refine E_gsT (b := (par_1.2.1 == 0)) rfl rfl rfl (fun hb => ?_) (fun hb => ?_)
      · rw [ite_t hb] at h
        refine E_op0 (v := (.ptr 0 0 0)) (v' := (.ptr 0 0 0)) (by kernel_rfl) rfl ?_
        refine E_gh rfl ?_
        refine E_op (v' := (.sl false 5 (List.map Func.av par_1.1.Funcs))) (S' := [.arr 0 [(.sl false 5 (List.map Func.av par_1.1.Funcs))]]) rfl rfl rfl ?_
        refine E_gh rfl ?_
        refine E_len rfl ?_
        refine E_gh rfl ?_
        refine E_op0 (v := (.bool ((List.length par_1.1.Funcs : Int) == 1))) (v' := (.bool ((List.length par_1.1.Funcs : Int) == 1))) (by kernel_rfl) rfl ?_
        refine E_pt rfl rfl ?_
        refine E_mv (v' := (.bool ((List.length par_1.1.Funcs : Int) == 1))) (by kernel_rfl) ?_
        refine E_gsT (b := ((List.length par_1.1.Funcs : Int) == 1)) rfl rfl rfl (fun hb => ?_) (fun hb => ?_)
        · rw [ite_t hb] at h
          refine E_op0 (v := (.ptr 0 0 0)) (v' := (.ptr 0 0 0)) (by kernel_rfl) rfl ?_
          refine E_gh rfl ?_
          refine E_op (v' := (.sl false 5 (List.map Func.av par_1.1.Funcs))) (S' := [.arr 0 [(.sl false 5 (List.map Func.av par_1.1.Funcs))]]) rfl rfl rfl ?_
          refine E_gh rfl ?_
          obtain ⟨y_4, hy_4, h⟩ := bd_some h
          refine E_iadF rfl rfl hy_4 ?_
          refine E_gh rfl ?_
          refine E_op0 (v := (.cptr (Func.av y_4).cells 0)) (v' := (.cptr (Func.av y_4).cells 0)) (by kernel_rfl) rfl ?_
          refine E_gh rfl ?_
          refine E_op0 (v := (.int .i64 y_4.Params)) (v' := (.int .i64 y_4.Params)) (by kernel_rfl) rfl ?_
          refine E_gh rfl ?_
          refine E_op0 (v := (.bool (y_4.Params == 1))) (v' := (.bool (y_4.Params == 1))) (by kernel_rfl) rfl ?_
          refine E_pt rfl rfl ?_
          refine E_mv (v' := (.bool (y_4.Params == 1))) (by kernel_rfl) ?_
          refine E_gsT (b := (y_4.Params == 1)) rfl rfl rfl (fun hb => ?_) (fun hb => ?_)
          · rw [ite_t hb] at h
            refine E_op0 (v := (.ptr 0 0 0)) (v' := (.ptr 0 0 0)) (by kernel_rfl) rfl ?_
            refine E_gh rfl ?_
            refine E_op (v' := (.sl false 5 (List.map Func.av par_1.1.Funcs))) (S' := [.arr 0 [(.sl false 5 (List.map Func.av par_1.1.Funcs))]]) rfl rfl rfl ?_
            refine E_gh rfl ?_
            refine E_iadF rfl rfl hy_4 ?_
            refine E_gh rfl ?_
            refine E_op0 (v := (.cptr (Func.av y_4).cells 1)) (v' := (.cptr (Func.av y_4).cells 1)) (by kernel_rfl) rfl ?_
            refine E_gh rfl ?_
            refine E_op0 (v := (.sl false 1 (List.map (avI .u8) y_4.Locals))) (v' := (.sl false 1 (List.map (avI .u8) y_4.Locals))) (by kernel_rfl) rfl ?_
            refine E_gh rfl ?_
            refine E_len rfl ?_
            refine E_gh rfl ?_
            refine E_op0 (v := (.bool ((List.length y_4.Locals : Int) == 2))) (v' := (.bool ((List.length y_4.Locals : Int) == 2))) (by kernel_rfl) rfl ?_
            refine E_pt rfl rfl ?_
            refine E_mv (v' := (.bool ((List.length y_4.Locals : Int) == 2))) (by kernel_rfl) ?_
            refine E_gsT (b := ((List.length y_4.Locals : Int) == 2)) rfl rfl rfl (fun hb => ?_) (fun hb => ?_)
            · rw [ite_t hb] at h
              refine E_op0 (v := (.ptr 0 0 0)) (v' := (.ptr 0 0 0)) (by kernel_rfl) rfl ?_
              refine E_gh rfl ?_
              refine E_op (v' := (.sl false 5 (List.map Func.av par_1.1.Funcs))) (S' := [.arr 0 [(.sl false 5 (List.map Func.av par_1.1.Funcs))]]) rfl rfl rfl ?_
              refine E_gh rfl ?_
              refine E_iadF rfl rfl hy_4 ?_
              refine E_gh rfl ?_
              refine E_op0 (v := (.cptr (Func.av y_4).cells 3)) (v' := (.cptr (Func.av y_4).cells 3)) (by kernel_rfl) rfl ?_
              refine E_gh rfl ?_
              refine E_op0 (v := (.int .i64 y_4.Keep)) (v' := (.int .i64 y_4.Keep)) (by kernel_rfl) rfl ?_
              refine E_gh rfl ?_
              refine E_op0 (v := (.bool (y_4.Keep == 0))) (v' := (.bool (y_4.Keep == 0))) (by kernel_rfl) rfl ?_
              refine E_pt rfl rfl ?_
              refine E_mv (v' := (.bool (y_4.Keep == 0))) (by kernel_rfl) ?_
              refine E_gsT (b := (y_4.Keep == 0)) rfl rfl rfl (fun hb => ?_) (fun hb => ?_)
              · rw [ite_t hb] at h
                refine E_op0 (v := (.ptr 0 0 0)) (v' := (.ptr 0 0 0)) (by kernel_rfl) rfl ?_
                refine E_gh rfl ?_
                refine E_op (v' := (.sl false 5 (List.map Func.av par_1.1.Funcs))) (S' := [.arr 0 [(.sl false 5 (List.map Func.av par_1.1.Funcs))]]) rfl rfl rfl ?_
                refine E_gh rfl ?_
                refine E_iadF rfl rfl hy_4 ?_
                refine E_gh rfl ?_
                refine E_op0 (v := (.cptr (Func.av y_4).cells 4)) (v' := (.cptr (Func.av y_4).cells 4)) (by kernel_rfl) rfl ?_
                refine E_gh rfl ?_
                refine E_op0 (v := (.sl false 3 (List.map Instr.av y_4.Code))) (v' := (.sl false 3 (List.map Instr.av y_4.Code))) (by kernel_rfl) rfl ?_
                refine E_gh rfl ?_
                refine E_len rfl ?_
                refine E_gh rfl ?_
                refine E_op0 (v := (.bool ((List.length y_4.Code : Int) == 2))) (v' := (.bool ((List.length y_4.Code : Int) == 2))) (by kernel_rfl) rfl ?_
                refine E_pt rfl rfl ?_
                refine E_mv (v' := (.bool ((List.length y_4.Code : Int) == 2))) (by kernel_rfl) ?_
                refine E_gsT (b := ((List.length y_4.Code : Int) == 2)) rfl rfl rfl (fun hb => ?_) (fun hb => ?_)
                · rw [ite_t hb] at h
                  refine E_op0 (v := (.ptr 0 0 0)) (v' := (.ptr 0 0 0)) (by kernel_rfl) rfl ?_
                  refine E_gh rfl ?_
                  refine E_op (v' := (.sl false 5 (List.map Func.av par_1.1.Funcs))) (S' := [.arr 0 [(.sl false 5 (List.map Func.av par_1.1.Funcs))]]) rfl rfl rfl ?_
                  refine E_gh rfl ?_
                  refine E_iadF rfl rfl hy_4 ?_
                  refine E_gh rfl ?_
                  refine E_op0 (v := (.cptr (Func.av y_4).cells 4)) (v' := (.cptr (Func.av y_4).cells 4)) (by kernel_rfl) rfl ?_
                  refine E_gh rfl ?_
                  refine E_op0 (v := (.sl false 3 (List.map Instr.av y_4.Code))) (v' := (.sl false 3 (List.map Instr.av y_4.Code))) (by kernel_rfl) rfl ?_
                  refine E_gh rfl ?_
                  obtain ⟨y_5, hy_5, h⟩ := bd_some h
                  refine E_iadF rfl rfl hy_5 ?_
                  refine E_gh rfl ?_
                  refine E_op0 (v := (.cptr (Instr.av y_5).cells 2)) (v' := (.cptr (Instr.av y_5).cells 2)) (by kernel_rfl) rfl ?_
                  refine E_gh rfl ?_
                  refine E_op0 (v := (.int .u64 y_5.Imm)) (v' := (.int .u64 y_5.Imm)) (by kernel_rfl) rfl ?_
                  refine E_gh rfl ?_
                  refine E_op0 (v := (.bool (y_5.Imm == 7))) (v' := (.bool (y_5.Imm == 7))) (by kernel_rfl) rfl ?_
                  refine E_pt rfl rfl ?_
                  refine E_mv (v' := (.bool (y_5.Imm == 7))) (by kernel_rfl) ?_
                  refine E_nil ?_
                  exact E_jx _ h (wk_rn [] rfl (Nat.le_of_ble_eq_true rfl) trivial ⟨(rn_b rfl), trivial⟩)
                · rw [ite_f hb] at h
                  refine E_gm rfl ?_
                  refine E_gm rfl ?_
                  refine E_gm rfl ?_
                  refine E_gm rfl ?_
                  refine E_gm rfl ?_
                  refine E_gm rfl ?_
                  refine E_gm rfl ?_
                  refine E_gm rfl ?_
                  refine E_pf rfl rfl ?_
                  refine E_mv (v' := (.bool false)) (by kernel_rfl) ?_
                  refine E_nil ?_
                  exact E_jx _ h (wk_rn [] rfl (Nat.le_of_ble_eq_true rfl) trivial ⟨(rn_b rfl), trivial⟩)
              · rw [ite_f hb] at h
                refine E_gm rfl ?_
                refine E_gm rfl ?_
                refine E_gm rfl ?_
                refine E_gm rfl ?_
                refine E_gm rfl ?_
                refine E_gm rfl ?_
                refine E_pf rfl rfl ?_
                refine E_mv (v' := (.bool false)) (by kernel_rfl) ?_
                refine E_gm rfl ?_
                refine E_gm rfl ?_
                refine E_gm rfl ?_
                refine E_gm rfl ?_
                refine E_gm rfl ?_
                refine E_gm rfl ?_
                refine E_gm rfl ?_
                refine E_gm rfl ?_
                refine E_gm rfl ?_
                refine E_pf rfl rfl ?_
                refine E_mv (v' := (.bool false)) (by kernel_rfl) ?_
                refine E_nil ?_
                exact E_jx _ h (wk_rn [] rfl (Nat.le_of_ble_eq_true rfl) trivial ⟨(rn_b rfl), trivial⟩)
            · rw [ite_f hb] at h
              refine E_gm rfl ?_
              refine E_gm rfl ?_
              refine E_gm rfl ?_
              refine E_gm rfl ?_
              refine E_gm rfl ?_
              refine E_pf rfl rfl ?_
              refine E_mv (v' := (.bool false)) (by kernel_rfl) ?_
              refine E_gm rfl ?_
              refine E_gm rfl ?_
              refine E_gm rfl ?_
              refine E_gm rfl ?_
              refine E_gm rfl ?_
              refine E_gm rfl ?_
              refine E_gm rfl ?_
              refine E_pf rfl rfl ?_
              refine E_mv (v' := (.bool false)) (by kernel_rfl) ?_
              refine E_gm rfl ?_
              refine E_gm rfl ?_
              refine E_gm rfl ?_
              refine E_gm rfl ?_
              refine E_gm rfl ?_
              refine E_gm rfl ?_
              refine E_gm rfl ?_
              refine E_gm rfl ?_
              refine E_gm rfl ?_
              refine E_pf rfl rfl ?_
              refine E_mv (v' := (.bool false)) (by kernel_rfl) ?_
              refine E_nil ?_
              exact E_jx _ h (wk_rn [] rfl (Nat.le_of_ble_eq_true rfl) trivial ⟨(rn_b rfl), trivial⟩)
          · rw [ite_f hb] at h
            refine E_gm rfl ?_
            refine E_gm rfl ?_
            refine E_gm rfl ?_
            refine E_gm rfl ?_
            refine E_gm rfl ?_
            refine E_gm rfl ?_
            refine E_pf rfl rfl ?_
            refine E_mv (v' := (.bool false)) (by kernel_rfl) ?_
            refine E_gm rfl ?_
            refine E_gm rfl ?_
            refine E_gm rfl ?_
            refine E_gm rfl ?_
            refine E_gm rfl ?_
            refine E_gm rfl ?_
            refine E_pf rfl rfl ?_
            refine E_mv (v' := (.bool false)) (by kernel_rfl) ?_
            refine E_gm rfl ?_
            refine E_gm rfl ?_
            refine E_gm rfl ?_
            refine E_gm rfl ?_
            refine E_gm rfl ?_
            refine E_gm rfl ?_
            refine E_gm rfl ?_
            refine E_pf rfl rfl ?_
            refine E_mv (v' := (.bool false)) (by kernel_rfl) ?_
            refine E_gm rfl ?_
            refine E_gm rfl ?_
            refine E_gm rfl ?_
            refine E_gm rfl ?_
            refine E_gm rfl ?_
            refine E_gm rfl ?_
            refine E_gm rfl ?_
            refine E_gm rfl ?_
            refine E_gm rfl ?_
            refine E_pf rfl rfl ?_
            refine E_mv (v' := (.bool false)) (by kernel_rfl) ?_
            refine E_nil ?_
            exact E_jx _ h (wk_rn [] rfl (Nat.le_of_ble_eq_true rfl) trivial ⟨(rn_b rfl), trivial⟩)
        · rw [ite_f hb] at h
          refine E_gm rfl ?_
          refine E_gm rfl ?_
          refine E_gm rfl ?_
          refine E_gm rfl ?_
          refine E_gm rfl ?_
          refine E_pf rfl rfl ?_
          refine E_mv (v' := (.bool false)) (by kernel_rfl) ?_
          refine E_gm rfl ?_
          refine E_gm rfl ?_
          refine E_gm rfl ?_
          refine E_gm rfl ?_
          refine E_gm rfl ?_
          refine E_gm rfl ?_
          refine E_gm rfl ?_
          refine E_pf rfl rfl ?_
          refine E_mv (v' := (.bool false)) (by kernel_rfl) ?_
          refine E_gm rfl ?_
          refine E_gm rfl ?_
          refine E_gm rfl ?_
          refine E_gm rfl ?_
          refine E_gm rfl ?_
          refine E_gm rfl ?_
          refine E_pf rfl rfl ?_
          refine E_mv (v' := (.bool false)) (by kernel_rfl) ?_
          refine E_gm rfl ?_
          refine E_gm rfl ?_
          refine E_gm rfl ?_
          refine E_gm rfl ?_
          refine E_gm rfl ?_
          refine E_gm rfl ?_
          refine E_gm rfl ?_
          refine E_pf rfl rfl ?_
          refine E_mv (v' := (.bool false)) (by kernel_rfl) ?_
          refine E_gm rfl ?_
          refine E_gm rfl ?_
          refine E_gm rfl ?_
          refine E_gm rfl ?_
          refine E_gm rfl ?_
          refine E_gm rfl ?_
          refine E_gm rfl ?_
          refine E_gm rfl ?_
          refine E_gm rfl ?_
          refine E_pf rfl rfl ?_
          refine E_mv (v' := (.bool false)) (by kernel_rfl) ?_
          refine E_nil ?_
          exact E_jx _ h (wk_rn [] rfl (Nat.le_of_ble_eq_true rfl) trivial ⟨(rn_b rfl), trivial⟩)
      · rw [ite_f hb] at h
        refine E_gm rfl ?_
        refine E_gm rfl ?_
        refine E_gm rfl ?_
        refine E_pf rfl rfl ?_
        refine E_mv (v' := (.bool false)) (by kernel_rfl) ?_
        refine E_gm rfl ?_
        refine E_gm rfl ?_
        refine E_gm rfl ?_
        refine E_gm rfl ?_
        refine E_gm rfl ?_
        refine E_gm rfl ?_
        refine E_pf rfl rfl ?_
        refine E_mv (v' := (.bool false)) (by kernel_rfl) ?_
        refine E_gm rfl ?_
        refine E_gm rfl ?_
        refine E_gm rfl ?_
        refine E_gm rfl ?_
        refine E_gm rfl ?_
        refine E_gm rfl ?_
        refine E_gm rfl ?_
        refine E_pf rfl rfl ?_
        refine E_mv (v' := (.bool false)) (by kernel_rfl) ?_
        refine E_gm rfl ?_
        refine E_gm rfl ?_
        refine E_gm rfl ?_
        refine E_gm rfl ?_
        refine E_gm rfl ?_
        refine E_gm rfl ?_
        refine E_pf rfl rfl ?_
        refine E_mv (v' := (.bool false)) (by kernel_rfl) ?_
        refine E_gm rfl ?_
        refine E_gm rfl ?_
        refine E_gm rfl ?_
        refine E_gm rfl ?_
        refine E_gm rfl ?_
        refine E_gm rfl ?_
        refine E_gm rfl ?_
        refine E_pf rfl rfl ?_
        refine E_mv (v' := (.bool false)) (by kernel_rfl) ?_
        refine E_gm rfl ?_
        refine E_gm rfl ?_
        refine E_gm rfl ?_
        refine E_gm rfl ?_
        refine E_gm rfl ?_
        refine E_gm rfl ?_
        refine E_gm rfl ?_
        refine E_gm rfl ?_
        refine E_gm rfl ?_
        refine E_pf rfl rfl ?_
        refine E_mv (v' := (.bool false)) (by kernel_rfl) ?_
        refine E_nil ?_
        exact E_jx _ h (wk_rn [] rfl (Nat.le_of_ble_eq_true rfl) trivial ⟨(rn_b rfl), trivial⟩)
    · rw [ite_f hb] at h
      refine E_gm rfl ?_
      refine E_pf rfl rfl ?_
      refine E_mv (v' := (.bool false)) (by kernel_rfl) ?_
      refine E_gm rfl ?_
      refine E_gm rfl ?_
      refine E_gm rfl ?_
      refine E_gm rfl ?_
      refine E_pf rfl rfl ?_
      refine E_mv (v' := (.bool false)) (by kernel_rfl) ?_
      refine E_gm rfl ?_
      refine E_gm rfl ?_
      refine E_gm rfl ?_
      refine E_gm rfl ?_
      refine E_gm rfl ?_
      refine E_gm rfl ?_
      refine E_pf rfl rfl ?_
      refine E_mv (v' := (.bool false)) (by kernel_rfl) ?_
      refine E_gm rfl ?_
      refine E_gm rfl ?_
      refine E_gm rfl ?_
      refine E_gm rfl ?_
      refine E_gm rfl ?_
      refine E_gm rfl ?_
      refine E_gm rfl ?_
      refine E_pf rfl rfl ?_
      refine E_mv (v' := (.bool false)) (by kernel_rfl) ?_
      refine E_gm rfl ?_
      refine E_gm rfl ?_
      refine E_gm rfl ?_
      refine E_gm rfl ?_
      refine E_gm rfl ?_
      refine E_gm rfl ?_
      refine E_pf rfl rfl ?_
      refine E_mv (v' := (.bool false)) (by kernel_rfl) ?_
      refine E_gm rfl ?_
      refine E_gm rfl ?_
      refine E_gm rfl ?_
      refine E_gm rfl ?_
      refine E_gm rfl ?_
      refine E_gm rfl ?_
      refine E_gm rfl ?_
      refine E_pf rfl rfl ?_
      refine E_mv (v' := (.bool false)) (by kernel_rfl) ?_
      refine E_gm rfl ?_
      refine E_gm rfl ?_
      refine E_gm rfl ?_
      refine E_gm rfl ?_
      refine E_gm rfl ?_
      refine E_gm rfl ?_
      refine E_gm rfl ?_
      refine E_gm rfl ?_
      refine E_gm rfl ?_
      refine E_pf rfl rfl ?_
      refine E_mv (v' := (.bool false)) (by kernel_rfl) ?_
      refine E_nil ?_
      exact E_jx _ h (wk_rn [] rfl (Nat.le_of_ble_eq_true rfl) trivial ⟨(rn_b rfl), trivial⟩)
  · refine E_ret ?_
    cases h
    exact ⟨trivial, _, rfl, (fz_b rfl (.refl _))⟩
/- windlass/windlasslaw04.TextLoose -/
def fc6 : FC := (.seq (.reg [⟨(some 2), none, .op (.box (.t 0))⟩,
  ⟨(some 4), none, .op (.mv (.v (.bool false)))⟩] [])
  (.seq (.seq (.reg [⟨(some 13), none, .call 19 []⟩,
  ⟨(some 14), none, .op (.un .not (.t 13))⟩] [])
  (.cond (.t 14)
  (.seq (.reg [⟨(some 4), none, .op (.mv (.v (.bool false)))⟩] [])
  .ret)
  .skip))
  (.seq (.reg [⟨(some 16), none, .op (.load (some 1) (.t 2))⟩,
  ⟨(some 17), none, .call 24 [(.t 16)]⟩,
  ⟨(some 15), none, .op (.mv (.t 17))⟩,
  ⟨(some 18), none, .op (.ext 0 (.t 15))⟩,
  ⟨(some 19), none, .op (.ext 1 (.t 15))⟩,
  ⟨(some 5), none, .op (.mv (.t 18))⟩,
  ⟨(some 6), none, .op (.mv (.t 19))⟩] [])
  (.seq (.seq (.reg [⟨(some 20), none, .op (.mv (.t 6))⟩,
  ⟨(some 21), none, .op (.bin .none .neq (.t 20) (.v (.int .i64 0)))⟩] [])
  (.cond (.t 21)
  (.seq (.reg [⟨(some 22), none, .op (.mv (.t 5))⟩,
  ⟨(some 23), none, .op (.bin .none .eql (.t 22) (.v (.str (ByteArray.mk #[]))))⟩,
  ⟨(some 4), none, .op (.mv (.t 23))⟩] [])
  .ret)
  .skip))
  (.seq (.reg [⟨(some 7), none, .op (.mv (.v (.str (ByteArray.mk #[]))))⟩] [])
  (.seq (.seq (.reg [⟨(some 8), none, .op (.mv (.v (.int .i64 0)))⟩] [])
  (.block 0 (.loop (.seq (.seq (.reg [⟨(some 24), none, .op (.mv (.t 8))⟩,
  ⟨(some 25), none, .op (.mv (.t 5))⟩,
  ⟨(some 26), none, .op (.len .str (.t 25))⟩,
  ⟨(some 27), none, .op (.bin .none .lss (.t 24) (.t 26))⟩] [])
  (.cond (.t 27)
  .skip
  (.exit 0)))
  (.seq (.block 1 (.seq (.reg [⟨(some 9), none, .op (.mv (.v (.int .i64 0)))⟩] [])
  (.seq (.seq (.reg [⟨(some 30), none, .op (.mv (.t 1))⟩,
  ⟨(some 31), none, .op (.len .sl (.t 30))⟩,
  ⟨(some 32), none, .op (.bin .none .gtr (.t 31) (.v (.int .i64 0)))⟩] [])
  (.cond (.t 32)
  (.reg [⟨(some 33), none, .op (.mv (.t 1))⟩,
  ⟨(some 34), none, .op (.mv (.t 8))⟩,
  ⟨(some 35), none, .op (.mv (.t 1))⟩,
  ⟨(some 36), none, .op (.len .sl (.t 35))⟩,
  ⟨(some 37), none, .op (.bin .none .rem (.t 34) (.t 36))⟩,
  ⟨(some 38), none, .op (.iad none none (.t 33) (.t 37))⟩,
  ⟨(some 39), none, .op (.load none (.t 38))⟩,
  ⟨(some 40), none, .op (.bin .none .rem (.t 39) (.v (.int .u8 3)))⟩,
  ⟨(some 41), none, .op (.cint .i64 (.t 40))⟩,
  ⟨(some 9), none, .op (.mv (.t 41))⟩] [])
  .skip))
  (.seq (.reg [⟨(some 42), none, .op (.mv (.t 5))⟩,
  ⟨(some 43), none, .op (.mv (.t 8))⟩,
  ⟨(some 44), none, .op (.idxs (.t 42) (.t 43))⟩] [])
  (.block 2 (.seq (.reg [⟨(some 53), none, .op (.bin .none .eql (.t 44) (.v (.int .u8 32)))⟩,
  ⟨(some 52), none, .op (.mv (.t 53))⟩] [])
  (.cond (.t 52)
  (.reg [⟨(some 54), none, .op (.mv (.t 7))⟩,
  ⟨(some 55), none, .op (.bsl none [(.str (ByteArray.mk #[]))] 3 [(0, 1, (.v (.str (ByteArray.mk #[32])))), (1, 1, (.v (.str (ByteArray.mk #[32, 32])))), (2, 1, (.v (.str (ByteArray.mk #[32, 32, 32, 32, 32]))))])⟩,
  ⟨(some 56), none, .op (.mv (.t 9))⟩,
  ⟨(some 57), none, .op (.iad none none (.t 55) (.t 56))⟩,
  ⟨(some 58), none, .op (.load none (.t 57))⟩,
  ⟨(some 59), none, .op (.bin .none .add (.t 54) (.t 58))⟩,
  ⟨(some 7), none, .op (.mv (.t 59))⟩] [])
  (.seq (.reg [⟨(some 61), none, .op (.bin .none .eql (.t 44) (.v (.int .u8 10)))⟩,
  ⟨(some 60), none, .op (.mv (.t 61))⟩] [])
  (.cond (.t 60)
  (.reg [⟨(some 62), none, .op (.mv (.t 7))⟩,
  ⟨(some 63), none, .op (.bsl none [(.str (ByteArray.mk #[]))] 3 [(0, 1, (.v (.str (ByteArray.mk #[10])))), (1, 1, (.v (.str (ByteArray.mk #[32, 10, 10, 32, 32])))), (2, 1, (.v (.str (ByteArray.mk #[10, 35, 32, 102, 117, 110, 99, 10]))))])⟩,
  ⟨(some 64), none, .op (.mv (.t 9))⟩,
  ⟨(some 65), none, .op (.iad none none (.t 63) (.t 64))⟩,
  ⟨(some 66), none, .op (.load none (.t 65))⟩,
  ⟨(some 67), none, .op (.bin .none .add (.t 62) (.t 66))⟩,
  ⟨(some 7), none, .op (.mv (.t 67))⟩] [])
  (.reg [⟨(some 45), none, .op (.mv (.t 7))⟩,
  ⟨(some 46), none, .op (.mv (.t 5))⟩,
  ⟨(some 47), none, .op (.mv (.t 8))⟩,
  ⟨(some 48), none, .op (.mv (.t 8))⟩,
  ⟨(some 49), none, .op (.bin .none .add (.t 48) (.v (.int .i64 1)))⟩,
  ⟨(some 50), none, .op (.sls (.t 46) (some (.t 47)) (some (.t 49)))⟩,
  ⟨(some 51), none, .op (.bin .none .add (.t 45) (.t 50))⟩,
  ⟨(some 7), none, .op (.mv (.t 51))⟩] []))))))))))
  (.reg [⟨(some 28), none, .op (.mv (.t 8))⟩,
  ⟨(some 29), none, .op (.bin .none .add (.t 28) (.v (.int .i64 1)))⟩,
  ⟨(some 8), none, .op (.mv (.t 29))⟩] []))))))
  (.seq (.reg [⟨(some 69), none, .op (.mv (.t 7))⟩,
  ⟨(some 70), none, .call 20 [(.t 69)]⟩,
  ⟨(some 68), none, .op (.mv (.t 70))⟩,
  ⟨(some 71), none, .op (.ext 0 (.t 68))⟩,
  ⟨(some 72), none, .op (.ext 1 (.t 68))⟩,
  ⟨(some 73), none, .op (.ext 2 (.t 68))⟩,
  ⟨(some 10), none, .op (.new [.nils])⟩,
  ⟨none, none, .op (.store 1 (.t 10) (.t 71))⟩,
  ⟨(some 11), none, .op (.mv (.t 72))⟩,
  ⟨(some 12), none, .op (.mv (.t 73))⟩] [])
  (.seq (.reg [⟨(some 74), none, .op (.mv (.t 12))⟩,
  ⟨(some 75), none, .op (.bin .none .eql (.t 74) (.v (.int .i64 0)))⟩,
  ⟨(some 76), none, .op (.mv (.t 75))⟩,
  ⟨(some 77), some (76, true), .op (.mv (.t 11))⟩,
  ⟨(some 78), some (76, true), .op (.bin .none .eql (.t 77) (.v (.int .i64 0)))⟩,
  ⟨(some 79), none, .op (.pick (.t 76) (.t 78) (.v (.bool false)))⟩,
  ⟨(some 80), none, .op (.mv (.t 79))⟩,
  ⟨(some 81), some (80, true), .op (.load (some 1) (.t 2))⟩,
  ⟨(some 82), some (80, true), .op (.load (some 1) (.t 10))⟩,
  ⟨(some 83), some (80, true), .call 22 [(.t 81), (.t 82)]⟩,
  ⟨(some 84), none, .op (.pick (.t 80) (.t 83) (.v (.bool false)))⟩,
  ⟨(some 4), none, .op (.mv (.t 84))⟩] [])
  .ret))))))))
theorem fn6 : Fn3 Tryd.prog 6 85 [(4, none)] fc6 := ⟨_, _, Tryd.func6, rfl, rfl, rfl, by kernel_rfl⟩
def windlasslaw04_TextLoose_s (fuel : Nat) (p_00 : Program) (gaps_01 : (List Int)) : Option Bool :=
  (windlasslaw04_first_s.bind fun fir_1 => (if (!fir_1) then (some false) else ((text_Print_s p_00).bind fun pri_2 => (if (pri_2.2 != 0) then (some (ByteArray.toList pri_2.1 == ByteArray.toList (ByteArray.mk #[]))) else ((whileN (fun (s_3 : (ByteArray × Int)) => ((if (decide (s_3.2 < (ByteArray.size pri_2.1 : Int))) then (jp (fun (s_5 : ByteArray) => (some (.nxt (s_5, (I64 (s_3.2 + 1)))))) (fun k_4 => (jp (fun (s_7 : Int) => ((strI pri_2.1 s_3.2).bind fun b_10 => (if (b_10 == 32) then ((getI [(ByteArray.mk #[32]), (ByteArray.mk #[32, 32]), (ByteArray.mk #[32, 32, 32, 32, 32])] s_7).bind fun y_11 => ((catS s_3.1 y_11).bind fun s_12 => (k_4 s_12))) else (if (b_10 == 10) then ((getI [(ByteArray.mk #[10]), (ByteArray.mk #[32, 10, 10, 32, 32]), (ByteArray.mk #[10, 35, 32, 102, 117, 110, 99, 10])] s_7).bind fun y_13 => ((catS s_3.1 y_13).bind fun s_14 => (k_4 s_14))) else ((subS pri_2.1 s_3.2 (I64 (s_3.2 + 1))).bind fun s_15 => ((catS s_3.1 s_15).bind fun s_16 => (k_4 s_16))))))) (fun k_6 => (if (decide ((List.length gaps_01 : Int) > 0)) then (gd ((List.length gaps_01 : Int) ≠ 0) ((getI gaps_01 (Int.tmod s_3.2 (List.length gaps_01 : Int))).bind fun y_9 => (k_6 (I64 (Int.tmod y_9 3))))) else (k_6 0)))))) else (some (.brk (s_3.1, s_3.2)))) : Option (Stp (ByteArray × Int) (Option Bool)))) fuel ((ByteArray.mk #[]), 0)).bind (oc (fun (s_3 : (ByteArray × Int)) => ((text_Parse_s s_3.1).bind fun par_17 => (jp (fun (s_19 : Bool) => (some s_19)) (fun k_18 => (if (par_17.2.2 == 0) then (if (par_17.2.1 == 0) then ((windlassref03_Same_s p_00 par_17.1).bind fun sam_20 => (k_18 sam_20)) else (k_18 false)) else (k_18 false))))))))))))
theorem windlasslaw04_TextLoose_ev {fuel : Nat} {p_00 : Program} {gaps_01 : (List Int)} {r : Bool} (h : windlasslaw04_TextLoose_s fuel p_00 gaps_01 = some r) : PureEv Tryd.prog 6 [(Program.av p_00), (.sl false 1 (List.map (avI .u8) gaps_01))] (.bool r) := by
  unfold windlasslaw04_TextLoose_s at h
  refine PureEv_end mixed fn6 (by simp) [10] 6 ?_
  unfold fc6
  refine E_sq ?_
  refine E_reg ?_
  refine E_op0 (v' := (.cptr (Program.av p_00).cells 0)) rfl rfl ?_
  refine E_mv (v' := (.bool false)) rfl ?_
  refine E_nil ?_
  refine E_nx ?_
  refine E_as ?_
  refine E_sq ?_
  refine E_reg ?_
  obtain ⟨fir_1, hfir_1, h⟩ := bd_some h
  refine E_callW (windlasslaw04_first_ev  hfir_1) rfl trivial (blwL_of trivial) rfl ?_
  refine E_op0 (v' := (.bool (!fir_1))) rfl rfl ?_
  refine E_nil ?_
  refine E_nx ?_
  refine E_sq ?_
  refine E_cs (t := (!fir_1)) rfl (fun hb => ?_) (fun hb => ?_)
  · rw [ite_t hb] at h
    refine E_sq ?_
    refine E_reg ?_
    refine E_mv (v' := (.bool false)) rfl ?_
    refine E_nil ?_
    refine E_nx ?_
    refine E_ret ?_
    refine E_thr ?_
    cases h
    exact ⟨trivial, _, rfl, (fz_b rfl (.refl _))⟩
  · rw [ite_f hb] at h
    refine E_skip ?_
    refine E_nx ?_
    refine E_sq ?_
    refine E_reg ?_
    refine E_op0 (v' := (Program.av p_00)) rfl rfl ?_
    obtain ⟨pri_2, hpri_2, h⟩ := bd_some h
    refine E_callW (text_Print_ev  hpri_2) rfl ⟨(.refl _), trivial⟩ (blwL_of ⟨(Program.enc.blw _ 0), trivial⟩) (tup_blw ⟨rfl, rfl, trivial⟩) ?_
    refine E_mv (v' := (.tup [(.str pri_2.1), (.int .i64 pri_2.2)])) rfl ?_
    refine E_op0 (v' := (.str pri_2.1)) rfl rfl ?_
    refine E_op0 (v' := (.int .i64 pri_2.2)) rfl rfl ?_
    refine E_mv (v' := (.str pri_2.1)) rfl ?_
    refine E_mv (v' := (.int .i64 pri_2.2)) rfl ?_
    refine E_nil ?_
    refine E_nx ?_
    refine E_as ?_
    refine E_sq ?_
    refine E_reg ?_
    refine E_mv (v' := (.int .i64 pri_2.2)) rfl ?_
    refine E_op0 (v' := (.bool (pri_2.2 != 0))) rfl rfl ?_
    refine E_nil ?_
    refine E_nx ?_
    refine E_sq ?_
    refine E_cs (t := (pri_2.2 != 0)) rfl (fun hb => ?_) (fun hb => ?_)
    · rw [ite_t hb] at h
      refine E_sq ?_
      refine E_reg ?_
      refine E_mv (v' := (.str pri_2.1)) rfl ?_
      refine E_op0 (v' := (.bool (ByteArray.toList pri_2.1 == ByteArray.toList (ByteArray.mk #[])))) rfl rfl ?_
      refine E_mv (v' := (.bool (ByteArray.toList pri_2.1 == ByteArray.toList (ByteArray.mk #[])))) rfl ?_
      refine E_nil ?_
      refine E_nx ?_
      refine E_ret ?_
      refine E_thr ?_
      cases h
      exact ⟨trivial, _, rfl, (fz_b rfl (.refl _))⟩
    · rw [ite_f hb] at h
      refine E_skip ?_
      refine E_nx ?_
      refine E_sq ?_
      refine E_reg ?_
      refine E_mv (v' := (.str (ByteArray.mk #[]))) rfl ?_
      refine E_nil ?_
      refine E_nx ?_
      refine E_as ?_
      refine E_sq ?_
      refine E_reg ?_
      refine E_mv (v' := (.int .i64 0)) rfl ?_
      refine E_nil ?_
      refine E_nx ?_
      refine E_sq ?_
      refine E_whileO (fun s_3 => [(1, (.sl false 1 (List.map (avI .u8) gaps_01))), (2, (.cptr (Program.av p_00).cells 0)), (5, (.str pri_2.1)), (7, (.str s_3.1)), (8, (.int .i64 s_3.2))]) (fun s_3 => []) h (wk_aw ⟨(.refl _), (.refl _), (.refl _), (.refl _), (.refl _), trivial⟩) (fun s_3 c h => ?_) (fun s_3 fr' S' h hw => ?_)
      · refine E_as ?_
        refine E_sq ?_
        refine E_reg ?_
        refine E_mv (v' := (.int .i64 s_3.2)) rfl ?_
        refine E_mv (v' := (.str pri_2.1)) rfl ?_
        refine E_op0 (v' := (.int .i64 (ByteArray.size pri_2.1 : Int))) rfl rfl ?_
        refine E_op0 (v' := (.bool (decide (s_3.2 < (ByteArray.size pri_2.1 : Int))))) rfl rfl ?_
        refine E_nil ?_
        refine E_nx ?_
        refine E_sq ?_
        refine E_cs (t := (decide (s_3.2 < (ByteArray.size pri_2.1 : Int)))) rfl (fun hb => ?_) (fun hb => ?_)
        · rw [ite_t hb] at h
          refine E_skip ?_
          refine E_nx ?_
          refine E_jp h (fun s_5 => [(1, (.sl false 1 (List.map (avI .u8) gaps_01))), (2, (.cptr (Program.av p_00).cells 0)), (5, (.str pri_2.1)), (7, (.str s_5)), (8, (.int .i64 s_3.2))]) (fun s_5 => []) (fun k_4 h => ?_) (fun s_5 h => ?_)
          · refine E_block ?_
            refine E_sq ?_
            refine E_reg ?_
            refine E_mv (v' := (.int .i64 0)) rfl ?_
            refine E_nil ?_
            refine E_nx ?_
            refine E_as ?_
            refine E_sq ?_
            refine E_reg ?_
            refine E_mv (v' := (.sl false 1 (List.map (avI .u8) gaps_01))) rfl ?_
            refine E_len rfl ?_
            refine E_op0 (v' := (.bool (decide ((List.length gaps_01 : Int) > 0)))) rfl rfl ?_
            refine E_nil ?_
            refine E_nx ?_
            refine E_jp h (fun s_7 => [(1, (.sl false 1 (List.map (avI .u8) gaps_01))), (2, (.cptr (Program.av p_00).cells 0)), (5, (.str pri_2.1)), (7, (.str s_3.1)), (8, (.int .i64 s_3.2)), (9, (.int .i64 s_7))]) (fun s_7 => []) (fun k_6 h => ?_) (fun s_7 h => ?_)
            · refine E_cs (t := (decide ((List.length gaps_01 : Int) > 0))) rfl (fun hb => ?_) (fun hb => ?_)
              · rw [ite_t hb] at h
                refine E_reg ?_
                refine E_mv (v' := (.sl false 1 (List.map (avI .u8) gaps_01))) rfl ?_
                refine E_mv (v' := (.int .i64 s_3.2)) rfl ?_
                refine E_mv (v' := (.sl false 1 (List.map (avI .u8) gaps_01))) rfl ?_
                refine E_len rfl ?_
                obtain ⟨hg_8, h⟩ := gd_some h
                refine E_rem rfl rfl hg_8 ?_
                obtain ⟨y_9, hy_9, h⟩ := bd_some h
                refine E_iadF rfl rfl hy_9 ?_
                refine E_op0 (v' := (.int .u8 y_9)) rfl rfl ?_
                refine E_op0 (v' := (.int .u8 (Int.tmod y_9 3))) rfl rfl ?_
                refine E_op0 (v' := (.int .i64 (I64 (Int.tmod y_9 3)))) rfl rfl ?_
                refine E_mv (v' := (.int .i64 (I64 (Int.tmod y_9 3)))) rfl ?_
                refine E_nil ?_
                exact E_jx _ h (wk_aw ⟨(.refl _), (.refl _), (.refl _), (.refl _), (.refl _), (.refl _), trivial⟩)
              · rw [ite_f hb] at h
                refine E_skip ?_
                exact E_jx _ h (wk_aw ⟨(.refl _), (.refl _), (.refl _), (.refl _), (.refl _), (.refl _), trivial⟩)
            · refine E_sq ?_
              refine E_reg ?_
              refine E_mv (v' := (.str pri_2.1)) rfl ?_
              refine E_mv (v' := (.int .i64 s_3.2)) rfl ?_
              obtain ⟨b_10, hb_10, h⟩ := bd_some h
              refine E_idxS rfl rfl hb_10 ?_
              refine E_nil ?_
              refine E_nx ?_
              refine E_block ?_
              refine E_sq ?_
              refine E_reg ?_
              refine E_op0 (v' := (.bool (b_10 == 32))) rfl rfl ?_
              refine E_mv (v' := (.bool (b_10 == 32))) rfl ?_
              refine E_nil ?_
              refine E_nx ?_
              refine E_cs (t := (b_10 == 32)) rfl (fun hb => ?_) (fun hb => ?_)
              · rw [ite_t hb] at h
                refine E_reg ?_
                refine E_mv (v' := (.str s_3.1)) rfl ?_
                refine E_opw (v := (.sl true 1 (List.map avS [(ByteArray.mk #[32]), (ByteArray.mk #[32, 32]), (ByteArray.mk #[32, 32, 32, 32, 32])]))) (v' := (.sl true 1 (List.map avS [(ByteArray.mk #[32]), (ByteArray.mk #[32, 32]), (ByteArray.mk #[32, 32, 32, 32, 32])]))) (rd := []) (δ := none) (by kernel_rfl) (.refl _) rfl ?_
                refine E_mv (v' := (.int .i64 s_7)) rfl ?_
                obtain ⟨y_11, hy_11, h⟩ := bd_some h
                refine E_iadF rfl rfl hy_11 ?_
                refine E_op0 (v' := (.str y_11)) rfl rfl ?_
                obtain ⟨s_12, hs_12, h⟩ := bd_some h
                refine E_cat rfl rfl hs_12 ?_
                refine E_mv (v' := (.str s_12)) rfl ?_
                refine E_nil ?_
                refine E_bln ?_
                refine E_bln ?_
                exact E_jx _ h (wk_aw ⟨(.refl _), (.refl _), (.refl _), (.refl _), (.refl _), trivial⟩)
              · rw [ite_f hb] at h
                refine E_sq ?_
                refine E_reg ?_
                refine E_op0 (v' := (.bool (b_10 == 10))) rfl rfl ?_
                refine E_mv (v' := (.bool (b_10 == 10))) rfl ?_
                refine E_nil ?_
                refine E_nx ?_
                refine E_cs (t := (b_10 == 10)) rfl (fun hb => ?_) (fun hb => ?_)
                · rw [ite_t hb] at h
                  refine E_reg ?_
                  refine E_mv (v' := (.str s_3.1)) rfl ?_
                  refine E_opw (v := (.sl true 1 (List.map avS [(ByteArray.mk #[10]), (ByteArray.mk #[32, 10, 10, 32, 32]), (ByteArray.mk #[10, 35, 32, 102, 117, 110, 99, 10])]))) (v' := (.sl true 1 (List.map avS [(ByteArray.mk #[10]), (ByteArray.mk #[32, 10, 10, 32, 32]), (ByteArray.mk #[10, 35, 32, 102, 117, 110, 99, 10])]))) (rd := []) (δ := none) (by kernel_rfl) (.refl _) rfl ?_
                  refine E_mv (v' := (.int .i64 s_7)) rfl ?_
                  obtain ⟨y_13, hy_13, h⟩ := bd_some h
                  refine E_iadF rfl rfl hy_13 ?_
                  refine E_op0 (v' := (.str y_13)) rfl rfl ?_
                  obtain ⟨s_14, hs_14, h⟩ := bd_some h
                  refine E_cat rfl rfl hs_14 ?_
                  refine E_mv (v' := (.str s_14)) rfl ?_
                  refine E_nil ?_
                  refine E_bln ?_
                  refine E_bln ?_
                  exact E_jx _ h (wk_aw ⟨(.refl _), (.refl _), (.refl _), (.refl _), (.refl _), trivial⟩)
                · rw [ite_f hb] at h
                  refine E_reg ?_
                  refine E_mv (v' := (.str s_3.1)) rfl ?_
                  refine E_mv (v' := (.str pri_2.1)) rfl ?_
                  refine E_mv (v' := (.int .i64 s_3.2)) rfl ?_
                  refine E_mv (v' := (.int .i64 s_3.2)) rfl ?_
                  refine E_op0 (v' := (.int .i64 (I64 (s_3.2 + 1)))) rfl rfl ?_
                  obtain ⟨s_15, hs_15, h⟩ := bd_some h
                  refine E_sls rfl (fun h0 => loN_int h0) (fun h0 => hiN_int h0) hs_15 ?_
                  obtain ⟨s_16, hs_16, h⟩ := bd_some h
                  refine E_cat rfl rfl hs_16 ?_
                  refine E_mv (v' := (.str s_16)) rfl ?_
                  refine E_nil ?_
                  refine E_bln ?_
                  refine E_bln ?_
                  exact E_jx _ h (wk_aw ⟨(.refl _), (.refl _), (.refl _), (.refl _), (.refl _), trivial⟩)
          · refine E_reg ?_
            refine E_mv (v' := (.int .i64 s_3.2)) rfl ?_
            refine E_op0 (v' := (.int .i64 (I64 (s_3.2 + 1)))) rfl rfl ?_
            refine E_mv (v' := (.int .i64 (I64 (s_3.2 + 1)))) rfl ?_
            refine E_nil ?_
            cases h
            exact L_nn rfl (wk_aw ⟨(.refl _), (.refl _), (.refl _), (.refl _), (.refl _), trivial⟩)
        · rw [ite_f hb] at h
          refine E_exit ?_
          refine E_the ?_
          cases h
          exact L_bk rfl rfl rfl (wk_aw ⟨(.refl _), (.refl _), (.refl _), (.refl _), (.refl _), trivial⟩)
      · refine X_nx hw ?_
        refine E_sq ?_
        refine E_reg ?_
        refine E_mv (v' := (.str s_3.1)) rfl ?_
        obtain ⟨par_17, hpar_17, h⟩ := bd_some h
        refine E_callW (text_Parse_ev  hpar_17) rfl ⟨(.refl _), trivial⟩ (blwL_of ⟨rfl, trivial⟩) (tup_blw ⟨(Program.enc.blw _ 0), rfl, rfl, trivial⟩) ?_
        refine E_mv (v' := (.tup [(Program.av par_17.1), (.int .i64 par_17.2.1), (.int .i64 par_17.2.2)])) rfl ?_
        refine E_op0 (v' := (Program.av par_17.1)) rfl rfl ?_
        refine E_op0 (v' := (.int .i64 par_17.2.1)) rfl rfl ?_
        refine E_op0 (v' := (.int .i64 par_17.2.2)) rfl rfl ?_
        refine E_op (v' := .ptr 0 0 0) (S' := [.arr 0 [.nils]]) rfl rfl rfl ?_
        refine E_do (S' := [.arr 0 [(.sl false 5 (List.map Func.av par_17.1.Funcs))]]) rfl rfl ?_
        refine E_mv (v' := (.int .i64 par_17.2.1)) rfl ?_
        refine E_mv (v' := (.int .i64 par_17.2.2)) rfl ?_
        refine E_nil ?_
        refine E_nx ?_
        refine E_jp h (fun s_19 => [(4, (.bool s_19))]) (fun s_19 => []) (fun k_18 h => ?_) (fun s_19 h => ?_)
        · refine E_reg ?_
          refine E_mv (v' := (.int .i64 par_17.2.2)) rfl ?_
          refine E_op0 (v' := (.bool (par_17.2.2 == 0))) rfl rfl ?_
          refine E_mv (v' := (.bool (par_17.2.2 == 0))) rfl ?_
          refine E_gsT (b := (par_17.2.2 == 0)) rfl rfl rfl (fun hb => ?_) (fun hb => ?_)
          · rw [ite_t hb] at h
            refine E_mv (v' := (.int .i64 par_17.2.1)) rfl ?_
            refine E_gh rfl ?_
            refine E_op0 (v' := (.bool (par_17.2.1 == 0))) rfl rfl ?_
            refine E_pt rfl rfl ?_
            refine E_mv (v' := (.bool (par_17.2.1 == 0))) rfl ?_
            refine E_gsT (b := (par_17.2.1 == 0)) rfl rfl rfl (fun hb => ?_) (fun hb => ?_)
            · rw [ite_t hb] at h
              refine E_op0 (v' := (Program.av p_00)) rfl rfl ?_
              refine E_gh rfl ?_
              refine E_opw (v' := (Program.av par_17.1)) rfl (.aggL ⟨(.refl _), trivial⟩) rfl ?_
              refine E_gh rfl ?_
              obtain ⟨sam_20, hsam_20, h⟩ := bd_some h
              refine E_callW (windlassref03_Same_ev  hsam_20) rfl ⟨(.refl _), (.refl _), trivial⟩ (blwL_of ⟨(Program.enc.blw _ 0), (Program.enc.blw _ 0), trivial⟩) rfl ?_
              refine E_pt rfl rfl ?_
              refine E_mv (v' := (.bool sam_20)) rfl ?_
              refine E_nil ?_
              exact E_jx _ h (wk_rn [] rfl (Nat.le_of_ble_eq_true rfl) trivial ⟨(rn_b rfl), trivial⟩)
            · rw [ite_f hb] at h
              refine E_gm rfl ?_
              refine E_gm rfl ?_
              refine E_pf rfl rfl ?_
              refine E_mv (v' := (.bool false)) rfl ?_
              refine E_nil ?_
              exact E_jx _ h (wk_rn [] rfl (Nat.le_of_ble_eq_true rfl) trivial ⟨(rn_b rfl), trivial⟩)
          · rw [ite_f hb] at h
            refine E_gm rfl ?_
            refine E_pf rfl rfl ?_
            refine E_mv (v' := (.bool false)) rfl ?_
            refine E_gm rfl ?_
            refine E_gm rfl ?_
            refine E_gm rfl ?_
            refine E_pf rfl rfl ?_
            refine E_mv (v' := (.bool false)) rfl ?_
            refine E_nil ?_
            exact E_jx _ h (wk_rn [] rfl (Nat.le_of_ble_eq_true rfl) trivial ⟨(rn_b rfl), trivial⟩)
        · refine E_ret ?_
          cases h
          exact ⟨trivial, _, rfl, (fz_b rfl (.refl _))⟩
end Go.Proofs.YtkfhljombjmdbaaDoor
