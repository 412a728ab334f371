/- What the functions compute, and that they do (printed by wip/gen/gen.py), part 1. -/
import Derived.Test.YtkfhljombjmdbaaDoorWlH1
import Derived.Test.YtkfhljombjmdbaaDoorRows
import Derived.Test.YtkfhljombjmdbaaDoorTxN
namespace Go.Proofs.YtkfhljombjmdbaaDoor
open Go Go.Ab
set_option maxRecDepth 20000
set_option maxHeartbeats 2000000
set_option linter.unusedVariables false
set_option linter.unusedSimpArgs false
/- windlass/windlasslaw04.first -/
def fc19 : FC := (.seq (.reg [⟨(some 0), none, .op (.mv (.v (.bool false)))⟩] [])
  (.seq (.reg [⟨(some 5), none, .call 20 [(.v (.str (ByteArray.mk #[35, 32, 120, 10, 102, 117, 110, 99, 32, 49, 32, 110, 112, 32, 49, 32, 48, 10, 32, 32, 103, 101, 116, 32, 32, 48, 10, 99, 111, 110, 115, 116, 32, 55, 10])))]⟩,
  ⟨(some 4), none, .op (.mv (.t 5))⟩,
  ⟨(some 6), none, .op (.ext 0 (.t 4))⟩,
  ⟨(some 7), none, .op (.ext 1 (.t 4))⟩,
  ⟨(some 8), none, .op (.ext 2 (.t 4))⟩,
  ⟨(some 1), none, .op (.new [.nils])⟩,
  ⟨none, none, .op (.store 1 (.t 1) (.t 6))⟩,
  ⟨(some 2), none, .op (.mv (.t 7))⟩,
  ⟨(some 3), none, .op (.mv (.t 8))⟩] [])
  (.seq (.reg [⟨(some 9), none, .op (.mv (.t 3))⟩,
  ⟨(some 10), none, .op (.bin .none .eql (.t 9) (.v (.int .i64 0)))⟩,
  ⟨(some 11), none, .op (.mv (.t 10))⟩,
  ⟨(some 12), some (11, true), .op (.mv (.t 2))⟩,
  ⟨(some 13), some (11, true), .op (.bin .none .eql (.t 12) (.v (.int .i64 0)))⟩,
  ⟨(some 14), none, .op (.pick (.t 11) (.t 13) (.v (.bool false)))⟩,
  ⟨(some 15), none, .op (.mv (.t 14))⟩,
  ⟨(some 16), some (15, true), .op (.fad 0 (.t 1))⟩,
  ⟨(some 17), some (15, true), .op (.load none (.t 16))⟩,
  ⟨(some 18), some (15, true), .op (.len .sl (.t 17))⟩,
  ⟨(some 19), some (15, true), .op (.bin .none .eql (.t 18) (.v (.int .i64 1)))⟩,
  ⟨(some 20), none, .op (.pick (.t 15) (.t 19) (.v (.bool false)))⟩,
  ⟨(some 21), none, .op (.mv (.t 20))⟩,
  ⟨(some 22), some (21, true), .op (.fad 0 (.t 1))⟩,
  ⟨(some 23), some (21, true), .op (.load none (.t 22))⟩,
  ⟨(some 24), some (21, true), .op (.iad none (some 5) (.t 23) (.v (.int .i64 0)))⟩,
  ⟨(some 25), some (21, true), .op (.fad 0 (.t 24))⟩,
  ⟨(some 26), some (21, true), .op (.load none (.t 25))⟩,
  ⟨(some 27), some (21, true), .op (.bin .none .eql (.t 26) (.v (.int .i64 1)))⟩,
  ⟨(some 28), none, .op (.pick (.t 21) (.t 27) (.v (.bool false)))⟩,
  ⟨(some 29), none, .op (.mv (.t 28))⟩,
  ⟨(some 30), some (29, true), .op (.fad 0 (.t 1))⟩,
  ⟨(some 31), some (29, true), .op (.load none (.t 30))⟩,
  ⟨(some 32), some (29, true), .op (.iad none (some 5) (.t 31) (.v (.int .i64 0)))⟩,
  ⟨(some 33), some (29, true), .op (.fad 1 (.t 32))⟩,
  ⟨(some 34), some (29, true), .op (.load none (.t 33))⟩,
  ⟨(some 35), some (29, true), .op (.len .sl (.t 34))⟩,
  ⟨(some 36), some (29, true), .op (.bin .none .eql (.t 35) (.v (.int .i64 2)))⟩,
  ⟨(some 37), none, .op (.pick (.t 29) (.t 36) (.v (.bool false)))⟩,
  ⟨(some 38), none, .op (.mv (.t 37))⟩,
  ⟨(some 39), some (38, true), .op (.fad 0 (.t 1))⟩,
  ⟨(some 40), some (38, true), .op (.load none (.t 39))⟩,
  ⟨(some 41), some (38, true), .op (.iad none (some 5) (.t 40) (.v (.int .i64 0)))⟩,
  ⟨(some 42), some (38, true), .op (.fad 3 (.t 41))⟩,
  ⟨(some 43), some (38, true), .op (.load none (.t 42))⟩,
  ⟨(some 44), some (38, true), .op (.bin .none .eql (.t 43) (.v (.int .i64 0)))⟩,
  ⟨(some 45), none, .op (.pick (.t 38) (.t 44) (.v (.bool false)))⟩,
  ⟨(some 46), none, .op (.mv (.t 45))⟩,
  ⟨(some 47), some (46, true), .op (.fad 0 (.t 1))⟩,
  ⟨(some 48), some (46, true), .op (.load none (.t 47))⟩,
  ⟨(some 49), some (46, true), .op (.iad none (some 5) (.t 48) (.v (.int .i64 0)))⟩,
  ⟨(some 50), some (46, true), .op (.fad 4 (.t 49))⟩,
  ⟨(some 51), some (46, true), .op (.load none (.t 50))⟩,
  ⟨(some 52), some (46, true), .op (.len .sl (.t 51))⟩,
  ⟨(some 53), some (46, true), .op (.bin .none .eql (.t 52) (.v (.int .i64 2)))⟩,
  ⟨(some 54), none, .op (.pick (.t 46) (.t 53) (.v (.bool false)))⟩,
  ⟨(some 55), none, .op (.mv (.t 54))⟩,
  ⟨(some 56), some (55, true), .op (.fad 0 (.t 1))⟩,
  ⟨(some 57), some (55, true), .op (.load none (.t 56))⟩,
  ⟨(some 58), some (55, true), .op (.iad none (some 5) (.t 57) (.v (.int .i64 0)))⟩,
  ⟨(some 59), some (55, true), .op (.fad 4 (.t 58))⟩,
  ⟨(some 60), some (55, true), .op (.load none (.t 59))⟩,
  ⟨(some 61), some (55, true), .op (.iad none (some 3) (.t 60) (.v (.int .i64 1)))⟩,
  ⟨(some 62), some (55, true), .op (.fad 2 (.t 61))⟩,
  ⟨(some 63), some (55, true), .op (.load none (.t 62))⟩,
  ⟨(some 64), some (55, true), .op (.bin .none .eql (.t 63) (.v (.int .u64 7)))⟩,
  ⟨(some 65), none, .op (.pick (.t 55) (.t 64) (.v (.bool false)))⟩,
  ⟨(some 0), none, .op (.mv (.t 65))⟩] [])
  .ret)))
theorem fn19 : Fn3 Tryd.prog 19 66 [(0, none)] fc19 := ⟨_, _, Tryd.func19, rfl, rfl, rfl, by kernel_rfl⟩
def windlasslaw04_first_s  : Option Bool :=
  ((text_Parse_s (ByteArray.mk #[35, 32, 120, 10, 102, 117, 110, 99, 32, 49, 32, 110, 112, 32, 49, 32, 48, 10, 32, 32, 103, 101, 116, 32, 32, 48, 10, 99, 111, 110, 115, 116, 32, 55, 10])).bind fun par_1 => (jp (fun (s_3 : Bool) => (some s_3)) (fun k_2 => (if (par_1.2.2 == 0) then (if (par_1.2.1 == 0) then (if ((List.length par_1.1.Funcs : Int) == 1) then ((getI par_1.1.Funcs 0).bind fun y_4 => (if (y_4.Params == 1) then (if ((List.length y_4.Locals : Int) == 2) then (if (y_4.Keep == 0) then (if ((List.length y_4.Code : Int) == 2) then ((getI y_4.Code 1).bind fun y_5 => (k_2 (y_5.Imm == 7))) else (k_2 false)) else (k_2 false)) else (k_2 false)) else (k_2 false))) else (k_2 false)) else (k_2 false)) else (k_2 false)))))
theorem windlasslaw04_first_ev  {r : Bool} (h : windlasslaw04_first_s  = some r) : PureEv Tryd.prog 19 [] (.bool r) := by
  unfold windlasslaw04_first_s at h
  refine PureEv_end mixed fn19 (by simp) [1] 6 ?_
  unfold fc19
  refine E_sq ?_
  refine E_reg ?_
  refine E_mv (v' := (.bool false)) rfl ?_
  refine E_nil ?_
  refine E_nx ?_
  refine E_sq ?_
  refine E_reg ?_
  obtain ⟨par_1, hpar_1, h⟩ := bd_some h
  refine E_callW (text_Parse_ev  hpar_1) rfl ⟨(.refl _), trivial⟩ (blwL_of ⟨rfl, trivial⟩) (tup_blw ⟨(Program.enc.blw _ 0), rfl, rfl, trivial⟩) ?_
  refine E_mv (v' := (.tup [(Program.av par_1.1), (.int .i64 par_1.2.1), (.int .i64 par_1.2.2)])) rfl ?_
  refine E_op0 (v' := (Program.av par_1.1)) rfl rfl ?_
  refine E_op0 (v' := (.int .i64 par_1.2.1)) rfl rfl ?_
  refine E_op0 (v' := (.int .i64 par_1.2.2)) rfl rfl ?_
  refine E_op (v' := .ptr 0 0 0) (S' := [.arr 0 [.nils]]) rfl rfl rfl ?_
  refine E_do (S' := [.arr 0 [(.sl false 5 (List.map Func.av par_1.1.Funcs))]]) rfl rfl ?_
  refine E_mv (v' := (.int .i64 par_1.2.1)) rfl ?_
  refine E_mv (v' := (.int .i64 par_1.2.2)) rfl ?_
  refine E_nil ?_
  refine E_nx ?_
  refine E_jp h (fun s_3 => [(0, (.bool s_3))]) (fun s_3 => []) (fun k_2 h => ?_) (fun s_3 h => ?_)
  · refine E_reg ?_
    refine E_mv (v' := (.int .i64 par_1.2.2)) (by kernel_rfl) ?_
    refine E_op0 (v := (.bool (par_1.2.2 == 0))) (v' := (.bool (par_1.2.2 == 0))) (by kernel_rfl) rfl ?_
    refine E_mv (v' := (.bool (par_1.2.2 == 0))) (by kernel_rfl) ?_
    refine E_gsT (b := (par_1.2.2 == 0)) rfl rfl rfl (fun hb => ?_) (fun hb => ?_)
    · rw [ite_t hb] at h
      refine E_mv (v' := (.int .i64 par_1.2.1)) (by kernel_rfl) ?_
      refine E_gh rfl ?_
      refine E_op0 (v := (.bool (par_1.2.1 == 0))) (v' := (.bool (par_1.2.1 == 0))) (by kernel_rfl) rfl ?_
      refine E_pt rfl rfl ?_
      refine E_mv (v' := (.bool (par_1.2.1 == 0))) (by kernel_rfl) ?_
      refine E_gsT (b := (par_1.2.1 == 0)) rfl rfl rfl (fun hb => ?_) (fun hb => ?_)
      · rw [ite_t hb] at h
        refine E_op0 (v := (.ptr 0 0 0)) (v' := (.ptr 0 0 0)) (by kernel_rfl) rfl ?_
        refine E_gh rfl ?_
        refine E_op (v' := (.sl false 5 (List.map Func.av par_1.1.Funcs))) (S' := [.arr 0 [(.sl false 5 (List.map Func.av par_1.1.Funcs))]]) rfl rfl rfl ?_
        refine E_gh rfl ?_
        refine E_len rfl ?_
        refine E_gh rfl ?_
        refine E_op0 (v := (.bool ((List.length par_1.1.Funcs : Int) == 1))) (v' := (.bool ((List.length par_1.1.Funcs : Int) == 1))) (by kernel_rfl) rfl ?_
        refine E_pt rfl rfl ?_
        refine E_mv (v' := (.bool ((List.length par_1.1.Funcs : Int) == 1))) (by kernel_rfl) ?_
        refine E_gsT (b := ((List.length par_1.1.Funcs : Int) == 1)) rfl rfl rfl (fun hb => ?_) (fun hb => ?_)
        · rw [ite_t hb] at h
          refine E_op0 (v := (.ptr 0 0 0)) (v' := (.ptr 0 0 0)) (by kernel_rfl) rfl ?_
          refine E_gh rfl ?_
          refine E_op (v' := (.sl false 5 (List.map Func.av par_1.1.Funcs))) (S' := [.arr 0 [(.sl false 5 (List.map Func.av par_1.1.Funcs))]]) rfl rfl rfl ?_
          refine E_gh rfl ?_
          obtain ⟨y_4, hy_4, h⟩ := bd_some h
          refine E_iadF rfl rfl hy_4 ?_
          refine E_gh rfl ?_
          refine E_op0 (v := (.cptr (Func.av y_4).cells 0)) (v' := (.cptr (Func.av y_4).cells 0)) (by kernel_rfl) rfl ?_
          refine E_gh rfl ?_
          refine E_op0 (v := (.int .i64 y_4.Params)) (v' := (.int .i64 y_4.Params)) (by kernel_rfl) rfl ?_
          refine E_gh rfl ?_
          refine E_op0 (v := (.bool (y_4.Params == 1))) (v' := (.bool (y_4.Params == 1))) (by kernel_rfl) rfl ?_
          refine E_pt rfl rfl ?_
          refine E_mv (v' := (.bool (y_4.Params == 1))) (by kernel_rfl) ?_
          refine E_gsT (b := (y_4.Params == 1)) rfl rfl rfl (fun hb => ?_) (fun hb => ?_)
          · rw [ite_t hb] at h
            refine E_op0 (v := (.ptr 0 0 0)) (v' := (.ptr 0 0 0)) (by kernel_rfl) rfl ?_
            refine E_gh rfl ?_
            refine E_op (v' := (.sl false 5 (List.map Func.av par_1.1.Funcs))) (S' := [.arr 0 [(.sl false 5 (List.map Func.av par_1.1.Funcs))]]) rfl rfl rfl ?_
            refine E_gh rfl ?_
            refine E_iadF rfl rfl hy_4 ?_
            refine E_gh rfl ?_
            refine E_op0 (v := (.cptr (Func.av y_4).cells 1)) (v' := (.cptr (Func.av y_4).cells 1)) (by kernel_rfl) rfl ?_
            refine E_gh rfl ?_
            refine E_op0 (v := (.sl false 1 (List.map (avI .u8) y_4.Locals))) (v' := (.sl false 1 (List.map (avI .u8) y_4.Locals))) (by kernel_rfl) rfl ?_
            refine E_gh rfl ?_
            refine E_len rfl ?_
            refine E_gh rfl ?_
            refine E_op0 (v := (.bool ((List.length y_4.Locals : Int) == 2))) (v' := (.bool ((List.length y_4.Locals : Int) == 2))) (by kernel_rfl) rfl ?_
            refine E_pt rfl rfl ?_
            refine E_mv (v' := (.bool ((List.length y_4.Locals : Int) == 2))) (by kernel_rfl) ?_
            refine E_gsT (b := ((List.length y_4.Locals : Int) == 2)) rfl rfl rfl (fun hb => ?_) (fun hb => ?_)
            · rw [ite_t hb] at h
              refine E_op0 (v := (.ptr 0 0 0)) (v' := (.ptr 0 0 0)) (by kernel_rfl) rfl ?_
              refine E_gh rfl ?_
              refine E_op (v' := (.sl false 5 (List.map Func.av par_1.1.Funcs))) (S' := [.arr 0 [(.sl false 5 (List.map Func.av par_1.1.Funcs))]]) rfl rfl rfl ?_
              refine E_gh rfl ?_
              refine E_iadF rfl rfl hy_4 ?_
              refine E_gh rfl ?_
              refine E_op0 (v := (.cptr (Func.av y_4).cells 3)) (v' := (.cptr (Func.av y_4).cells 3)) (by kernel_rfl) rfl ?_
              refine E_gh rfl ?_
              refine E_op0 (v := (.int .i64 y_4.Keep)) (v' := (.int .i64 y_4.Keep)) (by kernel_rfl) rfl ?_
              refine E_gh rfl ?_
              refine E_op0 (v := (.bool (y_4.Keep == 0))) (v' := (.bool (y_4.Keep == 0))) (by kernel_rfl) rfl ?_
              refine E_pt rfl rfl ?_
              refine E_mv (v' := (.bool (y_4.Keep == 0))) (by kernel_rfl) ?_
              refine E_gsT (b := (y_4.Keep == 0)) rfl rfl rfl (fun hb => ?_) (fun hb => ?_)
              · rw [ite_t hb] at h
                refine E_op0 (v := (.ptr 0 0 0)) (v' := (.ptr 0 0 0)) (by kernel_rfl) rfl ?_
                refine E_gh rfl ?_
                refine E_op (v' := (.sl false 5 (List.map Func.av par_1.1.Funcs))) (S' := [.arr 0 [(.sl false 5 (List.map Func.av par_1.1.Funcs))]]) rfl rfl rfl ?_
                refine E_gh rfl ?_
                refine E_iadF rfl rfl hy_4 ?_
                refine E_gh rfl ?_
                refine E_op0 (v := (.cptr (Func.av y_4).cells 4)) (v' := (.cptr (Func.av y_4).cells 4)) (by kernel_rfl) rfl ?_
                refine E_gh rfl ?_
                refine E_op0 (v := (.sl false 3 (List.map Instr.av y_4.Code))) (v' := (.sl false 3 (List.map Instr.av y_4.Code))) (by kernel_rfl) rfl ?_
                refine E_gh rfl ?_
                refine E_len rfl ?_
                refine E_gh rfl ?_
                refine E_op0 (v := (.bool ((List.length y_4.Code : Int) == 2))) (v' := (.bool ((List.length y_4.Code : Int) == 2))) (by kernel_rfl) rfl ?_
                refine E_pt rfl rfl ?_
                refine E_mv (v' := (.bool ((List.length y_4.Code : Int) == 2))) (by kernel_rfl) ?_
                refine E_gsT (b := ((List.length y_4.Code : Int) == 2)) rfl rfl rfl (fun hb => ?_) (fun hb => ?_)
                · rw [ite_t hb] at h
                  refine E_op0 (v := (.ptr 0 0 0)) (v' := (.ptr 0 0 0)) (by kernel_rfl) rfl ?_
                  refine E_gh rfl ?_
                  refine E_op (v' := (.sl false 5 (List.map Func.av par_1.1.Funcs))) (S' := [.arr 0 [(.sl false 5 (List.map Func.av par_1.1.Funcs))]]) rfl rfl rfl ?_
                  refine E_gh rfl ?_
                  refine E_iadF rfl rfl hy_4 ?_
                  refine E_gh rfl ?_
                  refine E_op0 (v := (.cptr (Func.av y_4).cells 4)) (v' := (.cptr (Func.av y_4).cells 4)) (by kernel_rfl) rfl ?_
                  refine E_gh rfl ?_
                  refine E_op0 (v := (.sl false 3 (List.map Instr.av y_4.Code))) (v' := (.sl false 3 (List.map Instr.av y_4.Code))) (by kernel_rfl) rfl ?_
                  refine E_gh rfl ?_
                  obtain ⟨y_5, hy_5, h⟩ := bd_some h
                  refine E_iadF rfl rfl hy_5 ?_
                  refine E_gh rfl ?_
                  refine E_op0 (v := (.cptr (Instr.av y_5).cells 2)) (v' := (.cptr (Instr.av y_5).cells 2)) (by kernel_rfl) rfl ?_
                  refine E_gh rfl ?_
                  refine E_op0 (v := (.int .u64 y_5.Imm)) (v' := (.int .u64 y_5.Imm)) (by kernel_rfl) rfl ?_
                  refine E_gh rfl ?_
                  refine E_op0 (v := (.bool (y_5.Imm == 7))) (v' := (.bool (y_5.Imm == 7))) (by kernel_rfl) rfl ?_
                  refine E_pt rfl rfl ?_
                  refine E_mv (v' := (.bool (y_5.Imm == 7))) (by kernel_rfl) ?_
                  refine E_nil ?_
                  exact E_jx _ h (wk_rn [] rfl (Nat.le_of_ble_eq_true rfl) trivial ⟨(rn_b rfl), trivial⟩)
                · rw [ite_f hb] at h
                  refine E_gm rfl ?_
                  refine E_gm rfl ?_
                  refine E_gm rfl ?_
                  refine E_gm rfl ?_
                  refine E_gm rfl ?_
                  refine E_gm rfl ?_
                  refine E_gm rfl ?_
                  refine E_gm rfl ?_
                  refine E_pf rfl rfl ?_
                  refine E_mv (v' := (.bool false)) (by kernel_rfl) ?_
                  refine E_nil ?_
                  exact E_jx _ h (wk_rn [] rfl (Nat.le_of_ble_eq_true rfl) trivial ⟨(rn_b rfl), trivial⟩)
              · rw [ite_f hb] at h
                refine E_gm rfl ?_
                refine E_gm rfl ?_
                refine E_gm rfl ?_
                refine E_gm rfl ?_
                refine E_gm rfl ?_
                refine E_gm rfl ?_
                refine E_pf rfl rfl ?_
                refine E_mv (v' := (.bool false)) (by kernel_rfl) ?_
                refine E_gm rfl ?_
                refine E_gm rfl ?_
                refine E_gm rfl ?_
                refine E_gm rfl ?_
                refine E_gm rfl ?_
                refine E_gm rfl ?_
                refine E_gm rfl ?_
                refine E_gm rfl ?_
                refine E_gm rfl ?_
                refine E_pf rfl rfl ?_
                refine E_mv (v' := (.bool false)) (by kernel_rfl) ?_
                refine E_nil ?_
                exact E_jx _ h (wk_rn [] rfl (Nat.le_of_ble_eq_true rfl) trivial ⟨(rn_b rfl), trivial⟩)
            · rw [ite_f hb] at h
              refine E_gm rfl ?_
              refine E_gm rfl ?_
              refine E_gm rfl ?_
              refine E_gm rfl ?_
              refine E_gm rfl ?_
              refine E_pf rfl rfl ?_
              refine E_mv (v' := (.bool false)) (by kernel_rfl) ?_
              refine E_gm rfl ?_
              refine E_gm rfl ?_
              refine E_gm rfl ?_
              refine E_gm rfl ?_
              refine E_gm rfl ?_
              refine E_gm rfl ?_
              refine E_gm rfl ?_
              refine E_pf rfl rfl ?_
              refine E_mv (v' := (.bool false)) (by kernel_rfl) ?_
              refine E_gm rfl ?_
              refine E_gm rfl ?_
              refine E_gm rfl ?_
              refine E_gm rfl ?_
              refine E_gm rfl ?_
              refine E_gm rfl ?_
              refine E_gm rfl ?_
              refine E_gm rfl ?_
              refine E_gm rfl ?_
              refine E_pf rfl rfl ?_
              refine E_mv (v' := (.bool false)) (by kernel_rfl) ?_
              refine E_nil ?_
              exact E_jx _ h (wk_rn [] rfl (Nat.le_of_ble_eq_true rfl) trivial ⟨(rn_b rfl), trivial⟩)
          · rw [ite_f hb] at h
            refine E_gm rfl ?_
            refine E_gm rfl ?_
            refine E_gm rfl ?_
            refine E_gm rfl ?_
            refine E_gm rfl ?_
            refine E_gm rfl ?_
            refine E_pf rfl rfl ?_
            refine E_mv (v' := (.bool false)) (by kernel_rfl) ?_
            refine E_gm rfl ?_
            refine E_gm rfl ?_
            refine E_gm rfl ?_
            refine E_gm rfl ?_
            refine E_gm rfl ?_
            refine E_gm rfl ?_
            refine E_pf rfl rfl ?_
            refine E_mv (v' := (.bool false)) (by kernel_rfl) ?_
            refine E_gm rfl ?_
            refine E_gm rfl ?_
            refine E_gm rfl ?_
            refine E_gm rfl ?_
            refine E_gm rfl ?_
            refine E_gm rfl ?_
            refine E_gm rfl ?_
            refine E_pf rfl rfl ?_
            refine E_mv (v' := (.bool false)) (by kernel_rfl) ?_
            refine E_gm rfl ?_
            refine E_gm rfl ?_
            refine E_gm rfl ?_
            refine E_gm rfl ?_
            refine E_gm rfl ?_
            refine E_gm rfl ?_
            refine E_gm rfl ?_
            refine E_gm rfl ?_
            refine E_gm rfl ?_
            refine E_pf rfl rfl ?_
            refine E_mv (v' := (.bool false)) (by kernel_rfl) ?_
            refine E_nil ?_
            exact E_jx _ h (wk_rn [] rfl (Nat.le_of_ble_eq_true rfl) trivial ⟨(rn_b rfl), trivial⟩)
        · rw [ite_f hb] at h
          refine E_gm rfl ?_
          refine E_gm rfl ?_
          refine E_gm rfl ?_
          refine E_gm rfl ?_
          refine E_gm rfl ?_
          refine E_pf rfl rfl ?_
          refine E_mv (v' := (.bool false)) (by kernel_rfl) ?_
          refine E_gm rfl ?_
          refine E_gm rfl ?_
          refine E_gm rfl ?_
          refine E_gm rfl ?_
          refine E_gm rfl ?_
          refine E_gm rfl ?_
          refine E_gm rfl ?_
          refine E_pf rfl rfl ?_
          refine E_mv (v' := (.bool false)) (by kernel_rfl) ?_
          refine E_gm rfl ?_
          refine E_gm rfl ?_
          refine E_gm rfl ?_
          refine E_gm rfl ?_
          refine E_gm rfl ?_
          refine E_gm rfl ?_
          refine E_pf rfl rfl ?_
          refine E_mv (v' := (.bool false)) (by kernel_rfl) ?_
          refine E_gm rfl ?_
          refine E_gm rfl ?_
          refine E_gm rfl ?_
          refine E_gm rfl ?_
          refine E_gm rfl ?_
          refine E_gm rfl ?_
          refine E_gm rfl ?_
          refine E_pf rfl rfl ?_
          refine E_mv (v' := (.bool false)) (by kernel_rfl) ?_
          refine E_gm rfl ?_
          refine E_gm rfl ?_
          refine E_gm rfl ?_
          refine E_gm rfl ?_
          refine E_gm rfl ?_
          refine E_gm rfl ?_
          refine E_gm rfl ?_
          refine E_gm rfl ?_
          refine E_gm rfl ?_
          refine E_pf rfl rfl ?_
          refine E_mv (v' := (.bool false)) (by kernel_rfl) ?_
          refine E_nil ?_
          exact E_jx _ h (wk_rn [] rfl (Nat.le_of_ble_eq_true rfl) trivial ⟨(rn_b rfl), trivial⟩)
      · rw [ite_f hb] at h
        refine E_gm rfl ?_
        refine E_gm rfl ?_
        refine E_gm rfl ?_
        refine E_pf rfl rfl ?_
        refine E_mv (v' := (.bool false)) (by kernel_rfl) ?_
        refine E_gm rfl ?_
        refine E_gm rfl ?_
        refine E_gm rfl ?_
        refine E_gm rfl ?_
        refine E_gm rfl ?_
        refine E_gm rfl ?_
        refine E_pf rfl rfl ?_
        refine E_mv (v' := (.bool false)) (by kernel_rfl) ?_
        refine E_gm rfl ?_
        refine E_gm rfl ?_
        refine E_gm rfl ?_
        refine E_gm rfl ?_
        refine E_gm rfl ?_
        refine E_gm rfl ?_
        refine E_gm rfl ?_
        refine E_pf rfl rfl ?_
        refine E_mv (v' := (.bool false)) (by kernel_rfl) ?_
        refine E_gm rfl ?_
        refine E_gm rfl ?_
        refine E_gm rfl ?_
        refine E_gm rfl ?_
        refine E_gm rfl ?_
        refine E_gm rfl ?_
        refine E_pf rfl rfl ?_
        refine E_mv (v' := (.bool false)) (by kernel_rfl) ?_
        refine E_gm rfl ?_
        refine E_gm rfl ?_
        refine E_gm rfl ?_
        refine E_gm rfl ?_
        refine E_gm rfl ?_
        refine E_gm rfl ?_
        refine E_gm rfl ?_
        refine E_pf rfl rfl ?_
        refine E_mv (v' := (.bool false)) (by kernel_rfl) ?_
        refine E_gm rfl ?_
        refine E_gm rfl ?_
        refine E_gm rfl ?_
        refine E_gm rfl ?_
        refine E_gm rfl ?_
        refine E_gm rfl ?_
        refine E_gm rfl ?_
        refine E_gm rfl ?_
        refine E_gm rfl ?_
        refine E_pf rfl rfl ?_
        refine E_mv (v' := (.bool false)) (by kernel_rfl) ?_
        refine E_nil ?_
        exact E_jx _ h (wk_rn [] rfl (Nat.le_of_ble_eq_true rfl) trivial ⟨(rn_b rfl), trivial⟩)
    · rw [ite_f hb] at h
      refine E_gm rfl ?_
      refine E_pf rfl rfl ?_
      refine E_mv (v' := (.bool false)) (by kernel_rfl) ?_
      refine E_gm rfl ?_
      refine E_gm rfl ?_
      refine E_gm rfl ?_
      refine E_gm rfl ?_
      refine E_pf rfl rfl ?_
      refine E_mv (v' := (.bool false)) (by kernel_rfl) ?_
      refine E_gm rfl ?_
      refine E_gm rfl ?_
      refine E_gm rfl ?_
      refine E_gm rfl ?_
      refine E_gm rfl ?_
      refine E_gm rfl ?_
      refine E_pf rfl rfl ?_
      refine E_mv (v' := (.bool false)) (by kernel_rfl) ?_
      refine E_gm rfl ?_
      refine E_gm rfl ?_
      refine E_gm rfl ?_
      refine E_gm rfl ?_
      refine E_gm rfl ?_
      refine E_gm rfl ?_
      refine E_gm rfl ?_
      refine E_pf rfl rfl ?_
      refine E_mv (v' := (.bool false)) (by kernel_rfl) ?_
      refine E_gm rfl ?_
      refine E_gm rfl ?_
      refine E_gm rfl ?_
      refine E_gm rfl ?_
      refine E_gm rfl ?_
      refine E_gm rfl ?_
      refine E_pf rfl rfl ?_
      refine E_mv (v' := (.bool false)) (by kernel_rfl) ?_
      refine E_gm rfl ?_
      refine E_gm rfl ?_
      refine E_gm rfl ?_
      refine E_gm rfl ?_
      refine E_gm rfl ?_
      refine E_gm rfl ?_
      refine E_gm rfl ?_
      refine E_pf rfl rfl ?_
      refine E_mv (v' := (.bool false)) (by kernel_rfl) ?_
      refine E_gm rfl ?_
      refine E_gm rfl ?_
      refine E_gm rfl ?_
      refine E_gm rfl ?_
      refine E_gm rfl ?_
      refine E_gm rfl ?_
      refine E_gm rfl ?_
      refine E_gm rfl ?_
      refine E_gm rfl ?_
      refine E_pf rfl rfl ?_
      refine E_mv (v' := (.bool false)) (by kernel_rfl) ?_
      refine E_nil ?_
      exact E_jx _ h (wk_rn [] rfl (Nat.le_of_ble_eq_true rfl) trivial ⟨(rn_b rfl), trivial⟩)
  · refine E_ret ?_
    cases h
    exact ⟨trivial, _, rfl, (fz_b rfl (.refl _))⟩
/- windlass/windlasslaw04.TextNames -/
def fc7 : FC := (.seq (.reg [⟨(some 6), none, .op (.mv (.v (.bool false)))⟩] [])
  (.seq (.seq (.reg [⟨(some 19), none, .call 19 []⟩,
  ⟨(some 20), none, .op (.un .not (.t 19))⟩] [])
  (.cond (.t 20)
  (.seq (.reg [⟨(some 6), none, .op (.mv (.v (.bool false)))⟩] [])
  .ret)
  .skip))
  (.seq (.reg [⟨(some 21), none, .op (.mv (.t 0))⟩,
  ⟨(some 22), none, .op (.bin .none .rem (.t 21) (.v (.int .u8 32)))⟩,
  ⟨(some 23), none, .op (.bin .none .add (.v (.int .u8 1)) (.t 22))⟩,
  ⟨(some 24), none, .op (.build [(.int .u8 0), (.int .i64 0), (.int .u64 0)] [(0, 1, (.t 23))])⟩,
  ⟨(some 25), none, .op (.mv (.t 1))⟩,
  ⟨(some 26), none, .op (.bin .none .rem (.t 25) (.v (.int .u8 32)))⟩,
  ⟨(some 27), none, .op (.bin .none .add (.v (.int .u8 1)) (.t 26))⟩,
  ⟨(some 28), none, .op (.build [(.int .u8 0), (.int .i64 0), (.int .u64 0)] [(0, 1, (.t 27))])⟩,
  ⟨(some 7), none, .op (.new [(.int .u8 0), (.int .i64 0), (.int .u64 0)])⟩,
  ⟨(some 8), none, .op (.new [(.int .u8 0), (.int .i64 0), (.int .u64 0)])⟩,
  ⟨none, none, .op (.store 3 (.t 7) (.t 24))⟩,
  ⟨none, none, .op (.store 3 (.t 8) (.t 28))⟩] [])
  (.seq (.reg [⟨(some 30), none, .op (.load (some 3) (.t 7))⟩,
  ⟨(some 31), none, .op (.bsl (some 3) [(.int .u8 0), (.int .i64 0), (.int .u64 0)] 1 [(0, 3, (.t 30))])⟩,
  ⟨(some 32), none, .op (.build [(.int .i64 0), .nils, (.bool false), (.int .i64 0), .nils] [(3, 1, (.v (.int .i64 (-1)))), (4, 1, (.t 31))])⟩,
  ⟨(some 33), none, .op (.bsl (some 5) [(.int .i64 0), .nils, (.bool false), (.int .i64 0), .nils] 1 [(0, 5, (.t 32))])⟩,
  ⟨(some 34), none, .op (.build [.nils] [(0, 1, (.t 33))])⟩,
  ⟨(some 35), none, .call 24 [(.t 34)]⟩,
  ⟨(some 29), none, .op (.mv (.t 35))⟩,
  ⟨(some 36), none, .op (.ext 0 (.t 29))⟩,
  ⟨(some 37), none, .op (.ext 1 (.t 29))⟩,
  ⟨(some 9), none, .op (.mv (.t 36))⟩,
  ⟨(some 10), none, .op (.mv (.t 37))⟩] [])
  (.seq (.reg [⟨(some 39), none, .op (.load (some 3) (.t 8))⟩,
  ⟨(some 40), none, .op (.bsl (some 3) [(.int .u8 0), (.int .i64 0), (.int .u64 0)] 1 [(0, 3, (.t 39))])⟩,
  ⟨(some 41), none, .op (.build [(.int .i64 0), .nils, (.bool false), (.int .i64 0), .nils] [(3, 1, (.v (.int .i64 (-1)))), (4, 1, (.t 40))])⟩,
  ⟨(some 42), none, .op (.bsl (some 5) [(.int .i64 0), .nils, (.bool false), (.int .i64 0), .nils] 1 [(0, 5, (.t 41))])⟩,
  ⟨(some 43), none, .op (.build [.nils] [(0, 1, (.t 42))])⟩,
  ⟨(some 44), none, .call 24 [(.t 43)]⟩,
  ⟨(some 38), none, .op (.mv (.t 44))⟩,
  ⟨(some 45), none, .op (.ext 0 (.t 38))⟩,
  ⟨(some 46), none, .op (.ext 1 (.t 38))⟩,
  ⟨(some 11), none, .op (.mv (.t 45))⟩,
  ⟨(some 12), none, .op (.mv (.t 46))⟩] [])
  (.seq (.reg [⟨(some 48), none, .op (.mv (.t 9))⟩,
  ⟨(some 49), none, .call 20 [(.t 48)]⟩,
  ⟨(some 47), none, .op (.mv (.t 49))⟩,
  ⟨(some 50), none, .op (.ext 0 (.t 47))⟩,
  ⟨(some 51), none, .op (.ext 1 (.t 47))⟩,
  ⟨(some 52), none, .op (.ext 2 (.t 47))⟩,
  ⟨(some 13), none, .op (.new [.nils])⟩,
  ⟨none, none, .op (.store 1 (.t 13) (.t 50))⟩,
  ⟨(some 14), none, .op (.mv (.t 51))⟩,
  ⟨(some 15), none, .op (.mv (.t 52))⟩] [])
  (.seq (.reg [⟨(some 53), none, .op (.mv (.t 2))⟩,
  ⟨(some 54), none, .op (.cint .u64 (.t 53))⟩,
  ⟨(some 55), none, .op (.fad 2 (.t 7))⟩,
  ⟨none, none, .op (.store 1 (.t 55) (.t 54))⟩,
  ⟨(some 56), none, .op (.fad 1 (.t 7))⟩,
  ⟨none, none, .op (.store 1 (.t 56) (.v (.int .i64 0)))⟩] [])
  (.seq (.seq (.reg [⟨(some 57), none, .op (.fad 0 (.t 7))⟩,
  ⟨(some 58), none, .op (.load none (.t 57))⟩,
  ⟨(some 59), none, .op (.bin .none .neq (.t 58) (.v (.int .u8 1)))⟩] [])
  (.cond (.t 59)
  (.reg [⟨(some 60), none, .op (.mv (.t 2))⟩,
  ⟨(some 61), none, .op (.cint .i64 (.t 60))⟩,
  ⟨(some 62), none, .op (.fad 2 (.t 7))⟩,
  ⟨none, none, .op (.store 1 (.t 62) (.v (.int .u64 0)))⟩,
  ⟨(some 63), none, .op (.fad 1 (.t 7))⟩,
  ⟨none, none, .op (.store 1 (.t 63) (.t 61))⟩] [])
  .skip))
  (.seq (.reg [⟨(some 65), none, .op (.load (some 3) (.t 7))⟩,
  ⟨(some 66), none, .op (.bsl (some 3) [(.int .u8 0), (.int .i64 0), (.int .u64 0)] 1 [(0, 3, (.t 65))])⟩,
  ⟨(some 67), none, .op (.build [(.int .i64 0), .nils, (.bool false), (.int .i64 0), .nils] [(3, 1, (.v (.int .i64 (-1)))), (4, 1, (.t 66))])⟩,
  ⟨(some 68), none, .op (.bsl (some 5) [(.int .i64 0), .nils, (.bool false), (.int .i64 0), .nils] 1 [(0, 5, (.t 67))])⟩,
  ⟨(some 69), none, .op (.build [.nils] [(0, 1, (.t 68))])⟩,
  ⟨(some 70), none, .call 24 [(.t 69)]⟩,
  ⟨(some 64), none, .op (.mv (.t 70))⟩,
  ⟨(some 71), none, .op (.ext 0 (.t 64))⟩,
  ⟨(some 72), none, .op (.ext 1 (.t 64))⟩,
  ⟨(some 16), none, .op (.mv (.t 71))⟩,
  ⟨(some 17), none, .op (.mv (.t 72))⟩] [])
  (.seq (.reg [⟨(some 73), none, .op (.mv (.t 2))⟩,
  ⟨(some 74), none, .op (.bin .none .eql (.t 73) (.v (.int .u16 0)))⟩,
  ⟨(some 75), none, .op (.mv (.t 74))⟩,
  ⟨(some 76), some (75, false), .op (.fad 0 (.t 7))⟩,
  ⟨(some 77), some (75, false), .op (.load none (.t 76))⟩,
  ⟨(some 78), some (75, false), .op (.bin .none .eql (.t 77) (.v (.int .u8 1)))⟩,
  ⟨(some 79), none, .op (.pick (.t 75) (.v (.bool true)) (.t 78))⟩,
  ⟨(some 80), none, .op (.mv (.t 79))⟩,
  ⟨(some 81), some (80, false), .op (.fad 0 (.t 7))⟩,
  ⟨(some 82), some (80, false), .op (.load none (.t 81))⟩,
  ⟨(some 83), some (80, false), .op (.bin .none .eql (.t 82) (.v (.int .u8 21)))⟩,
  ⟨(some 84), none, .op (.pick (.t 80) (.v (.bool true)) (.t 83))⟩,
  ⟨(some 85), none, .op (.mv (.t 84))⟩,
  ⟨(some 86), some (85, false), .op (.fad 0 (.t 7))⟩,
  ⟨(some 87), some (85, false), .op (.load none (.t 86))⟩,
  ⟨(some 88), some (85, false), .op (.bin .none .eql (.t 87) (.v (.int .u8 22)))⟩,
  ⟨(some 89), none, .op (.pick (.t 85) (.v (.bool true)) (.t 88))⟩,
  ⟨(some 90), none, .op (.mv (.t 89))⟩,
  ⟨(some 91), some (90, false), .op (.mv (.t 2))⟩,
  ⟨(some 92), some (90, false), .op (.bin .none .lss (.t 91) (.v (.int .u16 256)))⟩,
  ⟨(some 93), some (90, false), .op (.mv (.t 92))⟩,
  ⟨(some 94), some (93, true), .op (.fad 0 (.t 7))⟩,
  ⟨(some 95), some (93, true), .op (.load none (.t 94))⟩,
  ⟨(some 96), some (93, true), .op (.bin .none .eql (.t 95) (.v (.int .u8 2)))⟩,
  ⟨(some 97), some (93, true), .op (.mv (.t 96))⟩,
  ⟨(some 98), some (97, false), .op (.fad 0 (.t 7))⟩,
  ⟨(some 99), some (97, false), .op (.load none (.t 98))⟩,
  ⟨(some 100), some (97, false), .op (.bin .none .eql (.t 99) (.v (.int .u8 3)))⟩,
  ⟨(some 101), some (93, true), .op (.pick (.t 97) (.v (.bool true)) (.t 100))⟩,
  ⟨(some 102), some (93, true), .op (.mv (.t 101))⟩,
  ⟨(some 103), some (102, false), .op (.fad 0 (.t 7))⟩,
  ⟨(some 104), some (102, false), .op (.load none (.t 103))⟩,
  ⟨(some 105), some (102, false), .op (.bin .none .eql (.t 104) (.v (.int .u8 4)))⟩,
  ⟨(some 106), some (93, true), .op (.pick (.t 102) (.v (.bool true)) (.t 105))⟩,
  ⟨(some 107), some (93, true), .op (.mv (.t 106))⟩,
  ⟨(some 108), some (107, false), .op (.fad 0 (.t 7))⟩,
  ⟨(some 109), some (107, false), .op (.load none (.t 108))⟩,
  ⟨(some 110), some (107, false), .op (.bin .none .eql (.t 109) (.v (.int .u8 23)))⟩,
  ⟨(some 111), some (93, true), .op (.pick (.t 107) (.v (.bool true)) (.t 110))⟩,
  ⟨(some 112), some (93, true), .op (.mv (.t 111))⟩,
  ⟨(some 113), some (112, false), .op (.fad 0 (.t 7))⟩,
  ⟨(some 114), some (112, false), .op (.load none (.t 113))⟩,
  ⟨(some 115), some (112, false), .op (.bin .none .eql (.t 114) (.v (.int .u8 25)))⟩,
  ⟨(some 116), some (93, true), .op (.pick (.t 112) (.v (.bool true)) (.t 115))⟩,
  ⟨(some 117), some (90, false), .op (.pick (.t 93) (.t 116) (.v (.bool false)))⟩,
  ⟨(some 118), none, .op (.pick (.t 90) (.v (.bool true)) (.t 117))⟩,
  ⟨(some 18), none, .op (.mv (.t 118))⟩] [])
  (.seq (.reg [⟨(some 119), none, .op (.mv (.t 10))⟩,
  ⟨(some 120), none, .op (.bin .none .eql (.t 119) (.v (.int .i64 0)))⟩,
  ⟨(some 121), none, .op (.mv (.t 120))⟩,
  ⟨(some 122), some (121, true), .op (.mv (.t 12))⟩,
  ⟨(some 123), some (121, true), .op (.bin .none .eql (.t 122) (.v (.int .i64 0)))⟩,
  ⟨(some 124), none, .op (.pick (.t 121) (.t 123) (.v (.bool false)))⟩,
  ⟨(some 125), none, .op (.mv (.t 124))⟩,
  ⟨(some 126), some (125, true), .op (.mv (.t 9))⟩,
  ⟨(some 127), some (125, true), .op (.mv (.t 11))⟩,
  ⟨(some 128), some (125, true), .op (.bin .none .eql (.t 126) (.t 127))⟩,
  ⟨(some 129), some (125, true), .op (.mv (.t 0))⟩,
  ⟨(some 130), some (125, true), .op (.bin .none .rem (.t 129) (.v (.int .u8 32)))⟩,
  ⟨(some 131), some (125, true), .op (.mv (.t 1))⟩,
  ⟨(some 132), some (125, true), .op (.bin .none .rem (.t 131) (.v (.int .u8 32)))⟩,
  ⟨(some 133), some (125, true), .op (.bin .none .eql (.t 130) (.t 132))⟩,
  ⟨(some 134), some (125, true), .op (.bin .bool .eql (.t 128) (.t 133))⟩,
  ⟨(some 135), none, .op (.pick (.t 125) (.t 134) (.v (.bool false)))⟩,
  ⟨(some 136), none, .op (.mv (.t 135))⟩,
  ⟨(some 137), some (136, true), .op (.mv (.t 15))⟩,
  ⟨(some 138), some (136, true), .op (.bin .none .eql (.t 137) (.v (.int .i64 0)))⟩,
  ⟨(some 139), none, .op (.pick (.t 136) (.t 138) (.v (.bool false)))⟩,
  ⟨(some 140), none, .op (.mv (.t 139))⟩,
  ⟨(some 141), some (140, true), .op (.mv (.t 14))⟩,
  ⟨(some 142), some (140, true), .op (.bin .none .eql (.t 141) (.v (.int .i64 0)))⟩,
  ⟨(some 143), none, .op (.pick (.t 140) (.t 142) (.v (.bool false)))⟩,
  ⟨(some 144), none, .op (.mv (.t 143))⟩,
  ⟨(some 145), some (144, true), .op (.fad 0 (.t 13))⟩,
  ⟨(some 146), some (144, true), .op (.load none (.t 145))⟩,
  ⟨(some 147), some (144, true), .op (.iad none (some 5) (.t 146) (.v (.int .i64 0)))⟩,
  ⟨(some 148), some (144, true), .op (.fad 4 (.t 147))⟩,
  ⟨(some 149), some (144, true), .op (.load none (.t 148))⟩,
  ⟨(some 150), some (144, true), .op (.iad none (some 3) (.t 149) (.v (.int .i64 0)))⟩,
  ⟨(some 151), some (144, true), .op (.fad 0 (.t 150))⟩,
  ⟨(some 152), some (144, true), .op (.load none (.t 151))⟩,
  ⟨(some 153), some (144, true), .op (.fad 0 (.t 7))⟩,
  ⟨(some 154), some (144, true), .op (.load none (.t 153))⟩,
  ⟨(some 155), some (144, true), .op (.bin .none .eql (.t 152) (.t 154))⟩,
  ⟨(some 156), none, .op (.pick (.t 144) (.t 155) (.v (.bool false)))⟩,
  ⟨(some 157), none, .op (.mv (.t 156))⟩,
  ⟨(some 158), some (157, true), .op (.mv (.t 17))⟩,
  ⟨(some 159), some (157, true), .op (.bin .none .eql (.t 158) (.v (.int .i64 0)))⟩,
  ⟨(some 160), some (157, true), .op (.mv (.t 18))⟩,
  ⟨(some 161), some (157, true), .op (.bin .bool .eql (.t 159) (.t 160))⟩,
  ⟨(some 162), none, .op (.pick (.t 157) (.t 161) (.v (.bool false)))⟩,
  ⟨(some 6), none, .op (.mv (.t 162))⟩] [])
  .ret)))))))))))
theorem fn7 : Fn3 Tryd.prog 7 163 [(6, none)] fc7 := ⟨_, _, Tryd.func7, rfl, rfl, rfl, by kernel_rfl⟩
def windlasslaw04_TextNames_s (a_00 : Int) (b_01 : Int) (v_02 : Int) : Option Bool :=
  (windlasslaw04_first_s.bind fun fir_1 => (if (!fir_1) then (some false) else ((text_Print_s (Program.mk ([(Func.mk 0 [] false (-1) ([(Instr.mk (U8 (1 + (Int.tmod a_00 32))) 0 0)]))]))).bind fun pri_2 => ((text_Print_s (Program.mk ([(Func.mk 0 [] false (-1) ([(Instr.mk (U8 (1 + (Int.tmod b_01 32))) 0 0)]))]))).bind fun pri_3 => ((text_Parse_s pri_2.1).bind fun par_4 => (jp (fun (s_6 : (Int × Int)) => ((text_Print_s (Program.mk ([(Func.mk 0 [] false (-1) ([(Instr.mk (U8 (1 + (Int.tmod a_00 32))) s_6.1 s_6.2)]))]))).bind fun pri_7 => (jp (fun (s_9 : Bool) => (jp (fun (s_11 : Bool) => (some s_11)) (fun k_10 => (if (pri_2.2 == 0) then (if (pri_3.2 == 0) then (if ((ByteArray.toList pri_2.1 == ByteArray.toList pri_3.1) == ((Int.tmod a_00 32) == (Int.tmod b_01 32))) then (if (par_4.2.2 == 0) then (if (par_4.2.1 == 0) then ((getI par_4.1.Funcs 0).bind fun y_12 => ((getI y_12.Code 0).bind fun y_13 => (if (y_13.Op == (U8 (1 + (Int.tmod a_00 32)))) then (k_10 ((pri_7.2 == 0) == s_9)) else (k_10 false)))) else (k_10 false)) else (k_10 false)) else (k_10 false)) else (k_10 false)) else (k_10 false))))) (fun k_8 => (if (v_02 == 0) then (k_8 true) else (if ((U8 (1 + (Int.tmod a_00 32))) == 1) then (k_8 true) else (if ((U8 (1 + (Int.tmod a_00 32))) == 21) then (k_8 true) else (if ((U8 (1 + (Int.tmod a_00 32))) == 22) then (k_8 true) else (if (decide (v_02 < 256)) then (if ((U8 (1 + (Int.tmod a_00 32))) == 2) then (k_8 true) else (if ((U8 (1 + (Int.tmod a_00 32))) == 3) then (k_8 true) else (if ((U8 (1 + (Int.tmod a_00 32))) == 4) then (k_8 true) else (if ((U8 (1 + (Int.tmod a_00 32))) == 23) then (k_8 true) else (k_8 ((U8 (1 + (Int.tmod a_00 32))) == 25)))))) else (k_8 false)))))))))) (fun k_5 => (if ((U8 (1 + (Int.tmod a_00 32))) != 1) then (k_5 ((I64 v_02), 0)) else (k_5 (0, (U64 v_02)))))))))))
theorem windlasslaw04_TextNames_ev {a_00 : Int} {b_01 : Int} {v_02 : Int} {r : Bool} (h : windlasslaw04_TextNames_s a_00 b_01 v_02 = some r) : PureEv Tryd.prog 7 [(.int .u8 a_00), (.int .u8 b_01), (.int .u16 v_02)] (.bool r) := by
  unfold windlasslaw04_TextNames_s at h
  refine PureEv_end mixed fn7 (by simp) [7, 8, 13] 6 ?_
  unfold fc7
  refine E_sq ?_
  refine E_reg ?_
  refine E_mv (v' := (.bool false)) rfl ?_
  refine E_nil ?_
  refine E_nx ?_
  refine E_as ?_
  refine E_sq ?_
  refine E_reg ?_
  obtain ⟨fir_1, hfir_1, h⟩ := bd_some h
  refine E_callW (windlasslaw04_first_ev  hfir_1) rfl trivial (blwL_of trivial) rfl ?_
  refine E_op0 (v' := (.bool (!fir_1))) rfl rfl ?_
  refine E_nil ?_
  refine E_nx ?_
  refine E_sq ?_
  refine E_cs (t := (!fir_1)) rfl (fun hb => ?_) (fun hb => ?_)
  · rw [ite_t hb] at h
    refine E_sq ?_
    refine E_reg ?_
    refine E_mv (v' := (.bool false)) rfl ?_
    refine E_nil ?_
    refine E_nx ?_
    refine E_ret ?_
    refine E_thr ?_
    cases h
    exact ⟨trivial, _, rfl, (fz_b rfl (.refl _))⟩
  · rw [ite_f hb] at h
    refine E_skip ?_
    refine E_nx ?_
    refine E_sq ?_
    refine E_reg ?_
    refine E_mv (v' := (.int .u8 a_00)) rfl ?_
    refine E_op0 (v' := (.int .u8 (Int.tmod a_00 32))) rfl rfl ?_
    refine E_op0 (v' := (.int .u8 (U8 (1 + (Int.tmod a_00 32))))) rfl rfl ?_
    refine E_opw (v' := (Instr.av (Instr.mk (U8 (1 + (Int.tmod a_00 32))) 0 0))) rfl (.aggL ⟨(.refl _), (.refl _), (.refl _), trivial⟩) rfl ?_
    refine E_mv (v' := (.int .u8 b_01)) rfl ?_
    refine E_op0 (v' := (.int .u8 (Int.tmod b_01 32))) rfl rfl ?_
    refine E_op0 (v' := (.int .u8 (U8 (1 + (Int.tmod b_01 32))))) rfl rfl ?_
    refine E_opw (v' := (Instr.av (Instr.mk (U8 (1 + (Int.tmod b_01 32))) 0 0))) rfl (.aggL ⟨(.refl _), (.refl _), (.refl _), trivial⟩) rfl ?_
    refine E_op (v' := .ptr 0 0 0) (S' := [.arr 0 [(.int .u8 0), (.int .i64 0), (.int .u64 0)]]) rfl rfl rfl ?_
    refine E_op (v' := .ptr 1 0 0) (S' := [.arr 0 [(.int .u8 0), (.int .i64 0), (.int .u64 0)], .arr 0 [(.int .u8 0), (.int .i64 0), (.int .u64 0)]]) rfl rfl rfl ?_
    refine E_do (S' := [.arr 0 [(.int .u8 (U8 (1 + (Int.tmod a_00 32)))), (.int .i64 0), (.int .u64 0)], .arr 0 [(.int .u8 0), (.int .i64 0), (.int .u64 0)]]) rfl rfl ?_
    refine E_do (S' := [.arr 0 [(.int .u8 (U8 (1 + (Int.tmod a_00 32)))), (.int .i64 0), (.int .u64 0)], .arr 0 [(.int .u8 (U8 (1 + (Int.tmod b_01 32)))), (.int .i64 0), (.int .u64 0)]]) rfl rfl ?_
    refine E_nil ?_
    refine E_nx ?_
    refine E_sq ?_
    refine E_reg ?_
    refine E_opw (v' := (Instr.av (Instr.mk (U8 (1 + (Int.tmod a_00 32))) 0 0))) rfl (.aggL ⟨(.refl _), (.refl _), (.refl _), trivial⟩) rfl ?_
    refine E_opw (v' := (.sl true 3 (List.map Instr.av [(Instr.mk (U8 (1 + (Int.tmod a_00 32))) 0 0)]))) rfl (.refl _) rfl ?_
    refine E_op0 (v' := (.agg [(.int .i64 0), .nils, (.bool false), (.int .i64 (-1)), (.sl true 3 (List.map Instr.av [(Instr.mk (U8 (1 + (Int.tmod a_00 32))) 0 0)]))])) rfl rfl ?_
    refine E_opw (v' := (.sl true 5 (List.map Func.av [(Func.mk 0 [] false (-1) ([(Instr.mk (U8 (1 + (Int.tmod a_00 32))) 0 0)]))]))) rfl (.slL ⟨⟨rfl, ⟨(.refl _), .nil, (.refl _), (.refl _), .ex, trivial⟩⟩, trivial⟩) rfl ?_
    refine E_opw (v' := (Program.av (Program.mk ([(Func.mk 0 [] false (-1) ([(Instr.mk (U8 (1 + (Int.tmod a_00 32))) 0 0)]))])))) rfl (.aggL ⟨.ex, trivial⟩) rfl ?_
    obtain ⟨pri_2, hpri_2, h⟩ := bd_some h
    refine E_callW (text_Print_ev  hpri_2) rfl ⟨(.refl _), trivial⟩ (blwL_of ⟨(Program.enc.blw _ 0), trivial⟩) (tup_blw ⟨rfl, rfl, trivial⟩) ?_
    refine E_mv (v' := (.tup [(.str pri_2.1), (.int .i64 pri_2.2)])) rfl ?_
    refine E_op0 (v' := (.str pri_2.1)) rfl rfl ?_
    refine E_op0 (v' := (.int .i64 pri_2.2)) rfl rfl ?_
    refine E_mv (v' := (.str pri_2.1)) rfl ?_
    refine E_mv (v' := (.int .i64 pri_2.2)) rfl ?_
    refine E_nil ?_
    refine E_nx ?_
    refine E_sq ?_
    refine E_reg ?_
    refine E_opw (v' := (Instr.av (Instr.mk (U8 (1 + (Int.tmod b_01 32))) 0 0))) rfl (.aggL ⟨(.refl _), (.refl _), (.refl _), trivial⟩) rfl ?_
    refine E_opw (v' := (.sl true 3 (List.map Instr.av [(Instr.mk (U8 (1 + (Int.tmod b_01 32))) 0 0)]))) rfl (.refl _) rfl ?_
    refine E_op0 (v' := (.agg [(.int .i64 0), .nils, (.bool false), (.int .i64 (-1)), (.sl true 3 (List.map Instr.av [(Instr.mk (U8 (1 + (Int.tmod b_01 32))) 0 0)]))])) rfl rfl ?_
    refine E_opw (v' := (.sl true 5 (List.map Func.av [(Func.mk 0 [] false (-1) ([(Instr.mk (U8 (1 + (Int.tmod b_01 32))) 0 0)]))]))) rfl (.slL ⟨⟨rfl, ⟨(.refl _), .nil, (.refl _), (.refl _), .ex, trivial⟩⟩, trivial⟩) rfl ?_
    refine E_opw (v' := (Program.av (Program.mk ([(Func.mk 0 [] false (-1) ([(Instr.mk (U8 (1 + (Int.tmod b_01 32))) 0 0)]))])))) rfl (.aggL ⟨.ex, trivial⟩) rfl ?_
    obtain ⟨pri_3, hpri_3, h⟩ := bd_some h
    refine E_callW (text_Print_ev  hpri_3) rfl ⟨(.refl _), trivial⟩ (blwL_of ⟨(Program.enc.blw _ 0), trivial⟩) (tup_blw ⟨rfl, rfl, trivial⟩) ?_
    refine E_mv (v' := (.tup [(.str pri_3.1), (.int .i64 pri_3.2)])) rfl ?_
    refine E_op0 (v' := (.str pri_3.1)) rfl rfl ?_
    refine E_op0 (v' := (.int .i64 pri_3.2)) rfl rfl ?_
    refine E_mv (v' := (.str pri_3.1)) rfl ?_
    refine E_mv (v' := (.int .i64 pri_3.2)) rfl ?_
    refine E_nil ?_
    refine E_nx ?_
    refine E_sq ?_
    refine E_reg ?_
    refine E_mv (v' := (.str pri_2.1)) rfl ?_
    obtain ⟨par_4, hpar_4, h⟩ := bd_some h
    refine E_callW (text_Parse_ev  hpar_4) rfl ⟨(.refl _), trivial⟩ (blwL_of ⟨rfl, trivial⟩) (tup_blw ⟨(Program.enc.blw _ 0), rfl, rfl, trivial⟩) ?_
    refine E_mv (v' := (.tup [(Program.av par_4.1), (.int .i64 par_4.2.1), (.int .i64 par_4.2.2)])) rfl ?_
    refine E_op0 (v' := (Program.av par_4.1)) rfl rfl ?_
    refine E_op0 (v' := (.int .i64 par_4.2.1)) rfl rfl ?_
    refine E_op0 (v' := (.int .i64 par_4.2.2)) rfl rfl ?_
    refine E_op (v' := .ptr 2 0 0) (S' := [.arr 0 [(.int .u8 (U8 (1 + (Int.tmod a_00 32)))), (.int .i64 0), (.int .u64 0)], .arr 0 [(.int .u8 (U8 (1 + (Int.tmod b_01 32)))), (.int .i64 0), (.int .u64 0)], .arr 0 [.nils]]) rfl rfl rfl ?_
    refine E_do (S' := [.arr 0 [(.int .u8 (U8 (1 + (Int.tmod a_00 32)))), (.int .i64 0), (.int .u64 0)], .arr 0 [(.int .u8 (U8 (1 + (Int.tmod b_01 32)))), (.int .i64 0), (.int .u64 0)], .arr 0 [(.sl false 5 (List.map Func.av par_4.1.Funcs))]]) rfl rfl ?_
    refine E_mv (v' := (.int .i64 par_4.2.1)) rfl ?_
    refine E_mv (v' := (.int .i64 par_4.2.2)) rfl ?_
    refine E_nil ?_
    refine E_nx ?_
    refine E_sq ?_
    refine E_reg ?_
    refine E_mv (v' := (.int .u16 v_02)) rfl ?_
    refine E_op0 (v' := (.int .u64 (U64 v_02))) rfl rfl ?_
    refine E_op0 (v' := (.ptr 0 0 2)) rfl rfl ?_
    refine E_do (S' := [.arr 0 [(.int .u8 (U8 (1 + (Int.tmod a_00 32)))), (.int .i64 0), (.int .u64 (U64 v_02))], .arr 0 [(.int .u8 (U8 (1 + (Int.tmod b_01 32)))), (.int .i64 0), (.int .u64 0)], .arr 0 [(.sl false 5 (List.map Func.av par_4.1.Funcs))]]) rfl rfl ?_
    refine E_op0 (v' := (.ptr 0 0 1)) rfl rfl ?_
    refine E_do (S' := [.arr 0 [(.int .u8 (U8 (1 + (Int.tmod a_00 32)))), (.int .i64 0), (.int .u64 (U64 v_02))], .arr 0 [(.int .u8 (U8 (1 + (Int.tmod b_01 32)))), (.int .i64 0), (.int .u64 0)], .arr 0 [(.sl false 5 (List.map Func.av par_4.1.Funcs))]]) rfl rfl ?_
    refine E_nil ?_
    refine E_nx ?_
    refine E_as ?_
    refine E_sq ?_
    refine E_reg ?_
    refine E_op0 (v' := (.ptr 0 0 0)) rfl rfl ?_
    refine E_op (v' := (.int .u8 (U8 (1 + (Int.tmod a_00 32))))) (S' := [.arr 0 [(.int .u8 (U8 (1 + (Int.tmod a_00 32)))), (.int .i64 0), (.int .u64 (U64 v_02))], .arr 0 [(.int .u8 (U8 (1 + (Int.tmod b_01 32)))), (.int .i64 0), (.int .u64 0)], .arr 0 [(.sl false 5 (List.map Func.av par_4.1.Funcs))]]) rfl rfl rfl ?_
    refine E_op0 (v' := (.bool ((U8 (1 + (Int.tmod a_00 32))) != 1))) rfl rfl ?_
    refine E_nil ?_
    refine E_nx ?_
    refine E_jp h (fun s_6 => [(0, (.int .u8 a_00)), (1, (.int .u8 b_01)), (2, (.int .u16 v_02)), (7, (.ptr 0 0 0)), (9, (.str pri_2.1)), (10, (.int .i64 pri_2.2)), (11, (.str pri_3.1)), (12, (.int .i64 pri_3.2)), (13, (.ptr 1 0 0)), (14, (.int .i64 par_4.2.1)), (15, (.int .i64 par_4.2.2))]) (fun s_6 => [.arr 0 [(.int .u8 (U8 (1 + (Int.tmod a_00 32)))), (.int .i64 s_6.1), (.int .u64 s_6.2)], .arr 0 [(.sl false 5 (List.map Func.av par_4.1.Funcs))]]) (fun k_5 h => ?_) (fun s_6 h => ?_)
    · refine E_cs (t := ((U8 (1 + (Int.tmod a_00 32))) != 1)) rfl (fun hb => ?_) (fun hb => ?_)
      · rw [ite_t hb] at h
        refine E_reg ?_
        refine E_mv (v' := (.int .u16 v_02)) rfl ?_
        refine E_op0 (v' := (.int .i64 (I64 v_02))) rfl rfl ?_
        refine E_op0 (v' := (.ptr 0 0 2)) rfl rfl ?_
        refine E_do (S' := [.arr 0 [(.int .u8 (U8 (1 + (Int.tmod a_00 32)))), (.int .i64 0), (.int .u64 0)], .arr 0 [(.int .u8 (U8 (1 + (Int.tmod b_01 32)))), (.int .i64 0), (.int .u64 0)], .arr 0 [(.sl false 5 (List.map Func.av par_4.1.Funcs))]]) rfl rfl ?_
        refine E_op0 (v' := (.ptr 0 0 1)) rfl rfl ?_
        refine E_do (S' := [.arr 0 [(.int .u8 (U8 (1 + (Int.tmod a_00 32)))), (.int .i64 (I64 v_02)), (.int .u64 0)], .arr 0 [(.int .u8 (U8 (1 + (Int.tmod b_01 32)))), (.int .i64 0), (.int .u64 0)], .arr 0 [(.sl false 5 (List.map Func.av par_4.1.Funcs))]]) rfl rfl ?_
        refine E_nil ?_
        exact E_jx _ h (wk_rn [some (0, 0), some (2, 0)] rfl (Nat.le_of_ble_eq_true rfl) ⟨(rn_ob rfl rfl (.cons (rn_b rfl) (.cons (rn_b rfl) (.cons (rn_b rfl) (.nil (Nat.zero_le _))))) rfl), (rn_ob rfl rfl (.cons (rn_b (Func.enc.blws 0)) (.nil (Nat.zero_le _))) rfl), trivial⟩ ⟨(rn_b rfl), (rn_b rfl), (rn_b rfl), (rn_ptr rfl rfl rfl rfl), (rn_b rfl), (rn_b rfl), (rn_b rfl), (rn_b rfl), (rn_ptr rfl rfl rfl rfl), (rn_b rfl), (rn_b rfl), trivial⟩)
      · rw [ite_f hb] at h
        refine E_skip ?_
        exact E_jx _ h (wk_rn [some (0, 0), some (2, 0)] rfl (Nat.le_of_ble_eq_true rfl) ⟨(rn_ob rfl rfl (.cons (rn_b rfl) (.cons (rn_b rfl) (.cons (rn_b rfl) (.nil (Nat.zero_le _))))) rfl), (rn_ob rfl rfl (.cons (rn_b (Func.enc.blws 0)) (.nil (Nat.zero_le _))) rfl), trivial⟩ ⟨(rn_b rfl), (rn_b rfl), (rn_b rfl), (rn_ptr rfl rfl rfl rfl), (rn_b rfl), (rn_b rfl), (rn_b rfl), (rn_b rfl), (rn_ptr rfl rfl rfl rfl), (rn_b rfl), (rn_b rfl), trivial⟩)
    · refine E_sq ?_
      refine E_reg ?_
      refine E_opw (v' := (Instr.av (Instr.mk (U8 (1 + (Int.tmod a_00 32))) s_6.1 s_6.2))) rfl (.aggL ⟨(.refl _), (.refl _), (.refl _), trivial⟩) rfl ?_
      refine E_opw (v' := (.sl true 3 (List.map Instr.av [(Instr.mk (U8 (1 + (Int.tmod a_00 32))) s_6.1 s_6.2)]))) rfl (.refl _) rfl ?_
      refine E_op0 (v' := (.agg [(.int .i64 0), .nils, (.bool false), (.int .i64 (-1)), (.sl true 3 (List.map Instr.av [(Instr.mk (U8 (1 + (Int.tmod a_00 32))) s_6.1 s_6.2)]))])) rfl rfl ?_
      refine E_opw (v' := (.sl true 5 (List.map Func.av [(Func.mk 0 [] false (-1) ([(Instr.mk (U8 (1 + (Int.tmod a_00 32))) s_6.1 s_6.2)]))]))) rfl (.slL ⟨⟨rfl, ⟨(.refl _), .nil, (.refl _), (.refl _), .ex, trivial⟩⟩, trivial⟩) rfl ?_
      refine E_opw (v' := (Program.av (Program.mk ([(Func.mk 0 [] false (-1) ([(Instr.mk (U8 (1 + (Int.tmod a_00 32))) s_6.1 s_6.2)]))])))) rfl (.aggL ⟨.ex, trivial⟩) rfl ?_
      obtain ⟨pri_7, hpri_7, h⟩ := bd_some h
      refine E_callW (text_Print_ev  hpri_7) rfl ⟨(.refl _), trivial⟩ (blwL_of ⟨(Program.enc.blw _ 0), trivial⟩) (tup_blw ⟨rfl, rfl, trivial⟩) ?_
      refine E_mv (v' := (.tup [(.str pri_7.1), (.int .i64 pri_7.2)])) rfl ?_
      refine E_op0 (v' := (.str pri_7.1)) rfl rfl ?_
      refine E_op0 (v' := (.int .i64 pri_7.2)) rfl rfl ?_
      refine E_mv (v' := (.str pri_7.1)) rfl ?_
      refine E_mv (v' := (.int .i64 pri_7.2)) rfl ?_
      refine E_nil ?_
      refine E_nx ?_
      refine E_jp h (fun s_9 => [(0, (.int .u8 a_00)), (1, (.int .u8 b_01)), (7, (.ptr 0 0 0)), (9, (.str pri_2.1)), (10, (.int .i64 pri_2.2)), (11, (.str pri_3.1)), (12, (.int .i64 pri_3.2)), (13, (.ptr 1 0 0)), (14, (.int .i64 par_4.2.1)), (15, (.int .i64 par_4.2.2)), (17, (.int .i64 pri_7.2)), (18, (.bool s_9))]) (fun s_9 => [.arr 0 [(.int .u8 (U8 (1 + (Int.tmod a_00 32)))), (.int .i64 s_6.1), (.int .u64 s_6.2)], .arr 0 [(.sl false 5 (List.map Func.av par_4.1.Funcs))]]) (fun k_8 h => ?_) (fun s_9 h => ?_)
      · refine E_reg ?_
        refine E_mv (v' := (.int .u16 v_02)) rfl ?_
        refine E_op0 (v' := (.bool (v_02 == 0))) rfl rfl ?_
        refine E_mv (v' := (.bool (v_02 == 0))) rfl ?_
        refine E_gsT (b := (v_02 == 0)) rfl rfl rfl (fun hb => ?_) (fun hb => ?_)
        · rw [ite_f hb] at h
          refine E_op0 (v' := (.ptr 0 0 0)) rfl rfl ?_
          refine E_gh rfl ?_
          refine E_op (v' := (.int .u8 (U8 (1 + (Int.tmod a_00 32))))) (S' := [.arr 0 [(.int .u8 (U8 (1 + (Int.tmod a_00 32)))), (.int .i64 s_6.1), (.int .u64 s_6.2)], .arr 0 [(.sl false 5 (List.map Func.av par_4.1.Funcs))]]) rfl rfl rfl ?_
          refine E_gh rfl ?_
          refine E_op0 (v' := (.bool ((U8 (1 + (Int.tmod a_00 32))) == 1))) rfl rfl ?_
          refine E_pf rfl rfl ?_
          refine E_mv (v' := (.bool ((U8 (1 + (Int.tmod a_00 32))) == 1))) rfl ?_
          refine E_gsT (b := ((U8 (1 + (Int.tmod a_00 32))) == 1)) rfl rfl rfl (fun hb => ?_) (fun hb => ?_)
          · rw [ite_f hb] at h
            refine E_op0 (v' := (.ptr 0 0 0)) rfl rfl ?_
            refine E_gh rfl ?_
            refine E_op (v' := (.int .u8 (U8 (1 + (Int.tmod a_00 32))))) (S' := [.arr 0 [(.int .u8 (U8 (1 + (Int.tmod a_00 32)))), (.int .i64 s_6.1), (.int .u64 s_6.2)], .arr 0 [(.sl false 5 (List.map Func.av par_4.1.Funcs))]]) rfl rfl rfl ?_
            refine E_gh rfl ?_
            refine E_op0 (v' := (.bool ((U8 (1 + (Int.tmod a_00 32))) == 21))) rfl rfl ?_
            refine E_pf rfl rfl ?_
            refine E_mv (v' := (.bool ((U8 (1 + (Int.tmod a_00 32))) == 21))) rfl ?_
            refine E_gsT (b := ((U8 (1 + (Int.tmod a_00 32))) == 21)) rfl rfl rfl (fun hb => ?_) (fun hb => ?_)
            · rw [ite_f hb] at h
              refine E_op0 (v' := (.ptr 0 0 0)) rfl rfl ?_
              refine E_gh rfl ?_
              refine E_op (v' := (.int .u8 (U8 (1 + (Int.tmod a_00 32))))) (S' := [.arr 0 [(.int .u8 (U8 (1 + (Int.tmod a_00 32)))), (.int .i64 s_6.1), (.int .u64 s_6.2)], .arr 0 [(.sl false 5 (List.map Func.av par_4.1.Funcs))]]) rfl rfl rfl ?_
              refine E_gh rfl ?_
              refine E_op0 (v' := (.bool ((U8 (1 + (Int.tmod a_00 32))) == 22))) rfl rfl ?_
              refine E_pf rfl rfl ?_
              refine E_mv (v' := (.bool ((U8 (1 + (Int.tmod a_00 32))) == 22))) rfl ?_
              refine E_gsT (b := ((U8 (1 + (Int.tmod a_00 32))) == 22)) rfl rfl rfl (fun hb => ?_) (fun hb => ?_)
              · rw [ite_f hb] at h
                refine E_mv (v' := (.int .u16 v_02)) rfl ?_
                refine E_gh rfl ?_
                refine E_op0 (v' := (.bool (decide (v_02 < 256)))) rfl rfl ?_
                refine E_gh rfl ?_
                refine E_mv (v' := (.bool (decide (v_02 < 256)))) rfl ?_
                refine E_gsT (b := (decide (v_02 < 256))) rfl rfl rfl (fun hb => ?_) (fun hb => ?_)
                · rw [ite_t hb] at h
                  refine E_op0 (v' := (.ptr 0 0 0)) rfl rfl ?_
                  refine E_gh rfl ?_
                  refine E_op (v' := (.int .u8 (U8 (1 + (Int.tmod a_00 32))))) (S' := [.arr 0 [(.int .u8 (U8 (1 + (Int.tmod a_00 32)))), (.int .i64 s_6.1), (.int .u64 s_6.2)], .arr 0 [(.sl false 5 (List.map Func.av par_4.1.Funcs))]]) rfl rfl rfl ?_
                  refine E_gh rfl ?_
                  refine E_op0 (v' := (.bool ((U8 (1 + (Int.tmod a_00 32))) == 2))) rfl rfl ?_
                  refine E_gh rfl ?_
                  refine E_mv (v' := (.bool ((U8 (1 + (Int.tmod a_00 32))) == 2))) rfl ?_
                  refine E_gsT (b := ((U8 (1 + (Int.tmod a_00 32))) == 2)) rfl rfl rfl (fun hb => ?_) (fun hb => ?_)
                  · rw [ite_f hb] at h
                    refine E_op0 (v' := (.ptr 0 0 0)) rfl rfl ?_
                    refine E_gh rfl ?_
                    refine E_op (v' := (.int .u8 (U8 (1 + (Int.tmod a_00 32))))) (S' := [.arr 0 [(.int .u8 (U8 (1 + (Int.tmod a_00 32)))), (.int .i64 s_6.1), (.int .u64 s_6.2)], .arr 0 [(.sl false 5 (List.map Func.av par_4.1.Funcs))]]) rfl rfl rfl ?_
                    refine E_gh rfl ?_
                    refine E_op0 (v' := (.bool ((U8 (1 + (Int.tmod a_00 32))) == 3))) rfl rfl ?_
                    refine E_gh rfl ?_
                    refine E_pf rfl rfl ?_
                    refine E_gh rfl ?_
                    refine E_mv (v' := (.bool ((U8 (1 + (Int.tmod a_00 32))) == 3))) rfl ?_
                    refine E_gsT (b := ((U8 (1 + (Int.tmod a_00 32))) == 3)) rfl rfl rfl (fun hb => ?_) (fun hb => ?_)
                    · rw [ite_f hb] at h
                      refine E_op0 (v' := (.ptr 0 0 0)) rfl rfl ?_
                      refine E_gh rfl ?_
                      refine E_op (v' := (.int .u8 (U8 (1 + (Int.tmod a_00 32))))) (S' := [.arr 0 [(.int .u8 (U8 (1 + (Int.tmod a_00 32)))), (.int .i64 s_6.1), (.int .u64 s_6.2)], .arr 0 [(.sl false 5 (List.map Func.av par_4.1.Funcs))]]) rfl rfl rfl ?_
                      refine E_gh rfl ?_
                      refine E_op0 (v' := (.bool ((U8 (1 + (Int.tmod a_00 32))) == 4))) rfl rfl ?_
                      refine E_gh rfl ?_
                      refine E_pf rfl rfl ?_
                      refine E_gh rfl ?_
                      refine E_mv (v' := (.bool ((U8 (1 + (Int.tmod a_00 32))) == 4))) rfl ?_
                      refine E_gsT (b := ((U8 (1 + (Int.tmod a_00 32))) == 4)) rfl rfl rfl (fun hb => ?_) (fun hb => ?_)
                      · rw [ite_f hb] at h
                        refine E_op0 (v' := (.ptr 0 0 0)) rfl rfl ?_
                        refine E_gh rfl ?_
                        refine E_op (v' := (.int .u8 (U8 (1 + (Int.tmod a_00 32))))) (S' := [.arr 0 [(.int .u8 (U8 (1 + (Int.tmod a_00 32)))), (.int .i64 s_6.1), (.int .u64 s_6.2)], .arr 0 [(.sl false 5 (List.map Func.av par_4.1.Funcs))]]) rfl rfl rfl ?_
                        refine E_gh rfl ?_
                        refine E_op0 (v' := (.bool ((U8 (1 + (Int.tmod a_00 32))) == 23))) rfl rfl ?_
                        refine E_gh rfl ?_
                        refine E_pf rfl rfl ?_
                        refine E_gh rfl ?_
                        refine E_mv (v' := (.bool ((U8 (1 + (Int.tmod a_00 32))) == 23))) rfl ?_
                        refine E_gsT (b := ((U8 (1 + (Int.tmod a_00 32))) == 23)) rfl rfl rfl (fun hb => ?_) (fun hb => ?_)
                        · rw [ite_f hb] at h
                          refine E_op0 (v' := (.ptr 0 0 0)) rfl rfl ?_
                          refine E_gh rfl ?_
                          refine E_op (v' := (.int .u8 (U8 (1 + (Int.tmod a_00 32))))) (S' := [.arr 0 [(.int .u8 (U8 (1 + (Int.tmod a_00 32)))), (.int .i64 s_6.1), (.int .u64 s_6.2)], .arr 0 [(.sl false 5 (List.map Func.av par_4.1.Funcs))]]) rfl rfl rfl ?_
                          refine E_gh rfl ?_
                          refine E_op0 (v' := (.bool ((U8 (1 + (Int.tmod a_00 32))) == 25))) rfl rfl ?_
                          refine E_gh rfl ?_
                          refine E_pf rfl rfl ?_
                          refine E_gh rfl ?_
                          refine E_pt rfl rfl ?_
                          refine E_pf rfl rfl ?_
                          refine E_mv (v' := (.bool ((U8 (1 + (Int.tmod a_00 32))) == 25))) rfl ?_
                          refine E_nil ?_
                          exact E_jx _ h (wk_rn [some (0, 0), some (1, 0)] rfl (Nat.le_of_ble_eq_true rfl) ⟨(rn_ob rfl rfl (.cons (rn_b rfl) (.cons (rn_b rfl) (.cons (rn_b rfl) (.nil (Nat.zero_le _))))) rfl), (rn_ob rfl rfl (.cons (rn_b (Func.enc.blws 0)) (.nil (Nat.zero_le _))) rfl), trivial⟩ ⟨(rn_b rfl), (rn_b rfl), (rn_ptr rfl rfl rfl rfl), (rn_b rfl), (rn_b rfl), (rn_b rfl), (rn_b rfl), (rn_ptr rfl rfl rfl rfl), (rn_b rfl), (rn_b rfl), (rn_b rfl), (rn_b rfl), trivial⟩)
                        · rw [ite_t hb] at h
                          refine E_gm rfl ?_
                          refine E_gm rfl ?_
                          refine E_gh rfl ?_
                          refine E_pt rfl rfl ?_
                          refine E_gh rfl ?_
                          refine E_pt rfl rfl ?_
                          refine E_pf rfl rfl ?_
                          refine E_mv (v' := (.bool true)) rfl ?_
                          refine E_nil ?_
                          exact E_jx _ h (wk_rn [some (0, 0), some (1, 0)] rfl (Nat.le_of_ble_eq_true rfl) ⟨(rn_ob rfl rfl (.cons (rn_b rfl) (.cons (rn_b rfl) (.cons (rn_b rfl) (.nil (Nat.zero_le _))))) rfl), (rn_ob rfl rfl (.cons (rn_b (Func.enc.blws 0)) (.nil (Nat.zero_le _))) rfl), trivial⟩ ⟨(rn_b rfl), (rn_b rfl), (rn_ptr rfl rfl rfl rfl), (rn_b rfl), (rn_b rfl), (rn_b rfl), (rn_b rfl), (rn_ptr rfl rfl rfl rfl), (rn_b rfl), (rn_b rfl), (rn_b rfl), (rn_b rfl), trivial⟩)
                      · rw [ite_t hb] at h
                        refine E_gm rfl ?_
                        refine E_gm rfl ?_
                        refine E_gh rfl ?_
                        refine E_pt rfl rfl ?_
                        refine E_gh rfl ?_
                        refine E_mv (v' := (.bool true)) rfl ?_
                        refine E_gm rfl ?_
                        refine E_gm rfl ?_
                        refine E_gm rfl ?_
                        refine E_gh rfl ?_
                        refine E_pt rfl rfl ?_
                        refine E_gh rfl ?_
                        refine E_pt rfl rfl ?_
                        refine E_pf rfl rfl ?_
                        refine E_mv (v' := (.bool true)) rfl ?_
                        refine E_nil ?_
                        exact E_jx _ h (wk_rn [some (0, 0), some (1, 0)] rfl (Nat.le_of_ble_eq_true rfl) ⟨(rn_ob rfl rfl (.cons (rn_b rfl) (.cons (rn_b rfl) (.cons (rn_b rfl) (.nil (Nat.zero_le _))))) rfl), (rn_ob rfl rfl (.cons (rn_b (Func.enc.blws 0)) (.nil (Nat.zero_le _))) rfl), trivial⟩ ⟨(rn_b rfl), (rn_b rfl), (rn_ptr rfl rfl rfl rfl), (rn_b rfl), (rn_b rfl), (rn_b rfl), (rn_b rfl), (rn_ptr rfl rfl rfl rfl), (rn_b rfl), (rn_b rfl), (rn_b rfl), (rn_b rfl), trivial⟩)
                    · rw [ite_t hb] at h
                      refine E_gm rfl ?_
                      refine E_gm rfl ?_
                      refine E_gh rfl ?_
                      refine E_pt rfl rfl ?_
                      refine E_gh rfl ?_
                      refine E_mv (v' := (.bool true)) rfl ?_
                      refine E_gm rfl ?_
                      refine E_gm rfl ?_
                      refine E_gm rfl ?_
                      refine E_gh rfl ?_
                      refine E_pt rfl rfl ?_
                      refine E_gh rfl ?_
                      refine E_mv (v' := (.bool true)) rfl ?_
                      refine E_gm rfl ?_
                      refine E_gm rfl ?_
                      refine E_gm rfl ?_
                      refine E_gh rfl ?_
                      refine E_pt rfl rfl ?_
                      refine E_gh rfl ?_
                      refine E_pt rfl rfl ?_
                      refine E_pf rfl rfl ?_
                      refine E_mv (v' := (.bool true)) rfl ?_
                      refine E_nil ?_
                      exact E_jx _ h (wk_rn [some (0, 0), some (1, 0)] rfl (Nat.le_of_ble_eq_true rfl) ⟨(rn_ob rfl rfl (.cons (rn_b rfl) (.cons (rn_b rfl) (.cons (rn_b rfl) (.nil (Nat.zero_le _))))) rfl), (rn_ob rfl rfl (.cons (rn_b (Func.enc.blws 0)) (.nil (Nat.zero_le _))) rfl), trivial⟩ ⟨(rn_b rfl), (rn_b rfl), (rn_ptr rfl rfl rfl rfl), (rn_b rfl), (rn_b rfl), (rn_b rfl), (rn_b rfl), (rn_ptr rfl rfl rfl rfl), (rn_b rfl), (rn_b rfl), (rn_b rfl), (rn_b rfl), trivial⟩)
                  · rw [ite_t hb] at h
                    refine E_gm rfl ?_
                    refine E_gm rfl ?_
                    refine E_gh rfl ?_
                    refine E_pt rfl rfl ?_
                    refine E_gh rfl ?_
                    refine E_mv (v' := (.bool true)) rfl ?_
                    refine E_gm rfl ?_
                    refine E_gm rfl ?_
                    refine E_gm rfl ?_
                    refine E_gh rfl ?_
                    refine E_pt rfl rfl ?_
                    refine E_gh rfl ?_
                    refine E_mv (v' := (.bool true)) rfl ?_
                    refine E_gm rfl ?_
                    refine E_gm rfl ?_
                    refine E_gm rfl ?_
                    refine E_gh rfl ?_
                    refine E_pt rfl rfl ?_
                    refine E_gh rfl ?_
                    refine E_mv (v' := (.bool true)) rfl ?_
                    refine E_gm rfl ?_
                    refine E_gm rfl ?_
                    refine E_gm rfl ?_
                    refine E_gh rfl ?_
                    refine E_pt rfl rfl ?_
                    refine E_gh rfl ?_
                    refine E_pt rfl rfl ?_
                    refine E_pf rfl rfl ?_
                    refine E_mv (v' := (.bool true)) rfl ?_
                    refine E_nil ?_
                    exact E_jx _ h (wk_rn [some (0, 0), some (1, 0)] rfl (Nat.le_of_ble_eq_true rfl) ⟨(rn_ob rfl rfl (.cons (rn_b rfl) (.cons (rn_b rfl) (.cons (rn_b rfl) (.nil (Nat.zero_le _))))) rfl), (rn_ob rfl rfl (.cons (rn_b (Func.enc.blws 0)) (.nil (Nat.zero_le _))) rfl), trivial⟩ ⟨(rn_b rfl), (rn_b rfl), (rn_ptr rfl rfl rfl rfl), (rn_b rfl), (rn_b rfl), (rn_b rfl), (rn_b rfl), (rn_ptr rfl rfl rfl rfl), (rn_b rfl), (rn_b rfl), (rn_b rfl), (rn_b rfl), trivial⟩)
                · rw [ite_f hb] at h
                  refine E_gm rfl ?_
                  refine E_gm rfl ?_
                  refine E_gm rfl ?_
                  refine E_gz rfl ?_
                  refine E_gz rfl ?_
                  refine E_gz rfl ?_
                  refine E_gm rfl ?_
                  refine E_gm rfl ?_
                  refine E_gz rfl ?_
                  refine E_gz rfl ?_
                  refine E_gz rfl ?_
                  refine E_gm rfl ?_
                  refine E_gm rfl ?_
                  refine E_gz rfl ?_
                  refine E_gz rfl ?_
                  refine E_gz rfl ?_
                  refine E_gm rfl ?_
                  refine E_gm rfl ?_
                  refine E_gz rfl ?_
                  refine E_gz rfl ?_
                  refine E_gz rfl ?_
                  refine E_gm rfl ?_
                  refine E_gh rfl ?_
                  refine E_pf rfl rfl ?_
                  refine E_pf rfl rfl ?_
                  refine E_mv (v' := (.bool false)) rfl ?_
                  refine E_nil ?_
                  exact E_jx _ h (wk_rn [some (0, 0), some (1, 0)] rfl (Nat.le_of_ble_eq_true rfl) ⟨(rn_ob rfl rfl (.cons (rn_b rfl) (.cons (rn_b rfl) (.cons (rn_b rfl) (.nil (Nat.zero_le _))))) rfl), (rn_ob rfl rfl (.cons (rn_b (Func.enc.blws 0)) (.nil (Nat.zero_le _))) rfl), trivial⟩ ⟨(rn_b rfl), (rn_b rfl), (rn_ptr rfl rfl rfl rfl), (rn_b rfl), (rn_b rfl), (rn_b rfl), (rn_b rfl), (rn_ptr rfl rfl rfl rfl), (rn_b rfl), (rn_b rfl), (rn_b rfl), (rn_b rfl), trivial⟩)
              · rw [ite_t hb] at h
                refine E_gm rfl ?_
                refine E_gm rfl ?_
                refine E_gz rfl ?_
                refine E_gz rfl ?_
                refine E_gz rfl ?_
                refine E_gz rfl ?_
                refine E_gz rfl ?_
                refine E_gz rfl ?_
                refine E_gz rfl ?_
                refine E_gz rfl ?_
                refine E_gz rfl ?_
                refine E_gz rfl ?_
                refine E_gz rfl ?_
                refine E_gz rfl ?_
                refine E_gz rfl ?_
                refine E_gz rfl ?_
                refine E_gz rfl ?_
                refine E_gz rfl ?_
                refine E_gz rfl ?_
                refine E_gz rfl ?_
                refine E_gz rfl ?_
                refine E_gz rfl ?_
                refine E_gz rfl ?_
                refine E_gz rfl ?_
                refine E_gz rfl ?_
                refine E_gm rfl ?_
                refine E_pt rfl rfl ?_
                refine E_mv (v' := (.bool true)) rfl ?_
                refine E_nil ?_
                exact E_jx _ h (wk_rn [some (0, 0), some (1, 0)] rfl (Nat.le_of_ble_eq_true rfl) ⟨(rn_ob rfl rfl (.cons (rn_b rfl) (.cons (rn_b rfl) (.cons (rn_b rfl) (.nil (Nat.zero_le _))))) rfl), (rn_ob rfl rfl (.cons (rn_b (Func.enc.blws 0)) (.nil (Nat.zero_le _))) rfl), trivial⟩ ⟨(rn_b rfl), (rn_b rfl), (rn_ptr rfl rfl rfl rfl), (rn_b rfl), (rn_b rfl), (rn_b rfl), (rn_b rfl), (rn_ptr rfl rfl rfl rfl), (rn_b rfl), (rn_b rfl), (rn_b rfl), (rn_b rfl), trivial⟩)
            · rw [ite_t hb] at h
              refine E_gm rfl ?_
              refine E_gm rfl ?_
              refine E_pt rfl rfl ?_
              refine E_mv (v' := (.bool true)) rfl ?_
              refine E_gm rfl ?_
              refine E_gm rfl ?_
              refine E_gm rfl ?_
              refine E_gz rfl ?_
              refine E_gz rfl ?_
              refine E_gz rfl ?_
              refine E_gz rfl ?_
              refine E_gz rfl ?_
              refine E_gz rfl ?_
              refine E_gz rfl ?_
              refine E_gz rfl ?_
              refine E_gz rfl ?_
              refine E_gz rfl ?_
              refine E_gz rfl ?_
              refine E_gz rfl ?_
              refine E_gz rfl ?_
              refine E_gz rfl ?_
              refine E_gz rfl ?_
              refine E_gz rfl ?_
              refine E_gz rfl ?_
              refine E_gz rfl ?_
              refine E_gz rfl ?_
              refine E_gz rfl ?_
              refine E_gz rfl ?_
              refine E_gz rfl ?_
              refine E_gz rfl ?_
              refine E_gm rfl ?_
              refine E_pt rfl rfl ?_
              refine E_mv (v' := (.bool true)) rfl ?_
              refine E_nil ?_
              exact E_jx _ h (wk_rn [some (0, 0), some (1, 0)] rfl (Nat.le_of_ble_eq_true rfl) ⟨(rn_ob rfl rfl (.cons (rn_b rfl) (.cons (rn_b rfl) (.cons (rn_b rfl) (.nil (Nat.zero_le _))))) rfl), (rn_ob rfl rfl (.cons (rn_b (Func.enc.blws 0)) (.nil (Nat.zero_le _))) rfl), trivial⟩ ⟨(rn_b rfl), (rn_b rfl), (rn_ptr rfl rfl rfl rfl), (rn_b rfl), (rn_b rfl), (rn_b rfl), (rn_b rfl), (rn_ptr rfl rfl rfl rfl), (rn_b rfl), (rn_b rfl), (rn_b rfl), (rn_b rfl), trivial⟩)
          · rw [ite_t hb] at h
            refine E_gm rfl ?_
            refine E_gm rfl ?_
            refine E_pt rfl rfl ?_
            refine E_mv (v' := (.bool true)) rfl ?_
            refine E_gm rfl ?_
            refine E_gm rfl ?_
            refine E_gm rfl ?_
            refine E_pt rfl rfl ?_
            refine E_mv (v' := (.bool true)) rfl ?_
            refine E_gm rfl ?_
            refine E_gm rfl ?_
            refine E_gm rfl ?_
            refine E_gz rfl ?_
            refine E_gz rfl ?_
            refine E_gz rfl ?_
            refine E_gz rfl ?_
            refine E_gz rfl ?_
            refine E_gz rfl ?_
            refine E_gz rfl ?_
            refine E_gz rfl ?_
            refine E_gz rfl ?_
            refine E_gz rfl ?_
            refine E_gz rfl ?_
            refine E_gz rfl ?_
            refine E_gz rfl ?_
            refine E_gz rfl ?_
            refine E_gz rfl ?_
            refine E_gz rfl ?_
            refine E_gz rfl ?_
            refine E_gz rfl ?_
            refine E_gz rfl ?_
            refine E_gz rfl ?_
            refine E_gz rfl ?_
            refine E_gz rfl ?_
            refine E_gz rfl ?_
            refine E_gm rfl ?_
            refine E_pt rfl rfl ?_
            refine E_mv (v' := (.bool true)) rfl ?_
            refine E_nil ?_
            exact E_jx _ h (wk_rn [some (0, 0), some (1, 0)] rfl (Nat.le_of_ble_eq_true rfl) ⟨(rn_ob rfl rfl (.cons (rn_b rfl) (.cons (rn_b rfl) (.cons (rn_b rfl) (.nil (Nat.zero_le _))))) rfl), (rn_ob rfl rfl (.cons (rn_b (Func.enc.blws 0)) (.nil (Nat.zero_le _))) rfl), trivial⟩ ⟨(rn_b rfl), (rn_b rfl), (rn_ptr rfl rfl rfl rfl), (rn_b rfl), (rn_b rfl), (rn_b rfl), (rn_b rfl), (rn_ptr rfl rfl rfl rfl), (rn_b rfl), (rn_b rfl), (rn_b rfl), (rn_b rfl), trivial⟩)
        · rw [ite_t hb] at h
          refine E_gm rfl ?_
          refine E_gm rfl ?_
          refine E_pt rfl rfl ?_
          refine E_mv (v' := (.bool true)) rfl ?_
          refine E_gm rfl ?_
          refine E_gm rfl ?_
          refine E_gm rfl ?_
          refine E_pt rfl rfl ?_
          refine E_mv (v' := (.bool true)) rfl ?_
          refine E_gm rfl ?_
          refine E_gm rfl ?_
          refine E_gm rfl ?_
          refine E_pt rfl rfl ?_
          refine E_mv (v' := (.bool true)) rfl ?_
          refine E_gm rfl ?_
          refine E_gm rfl ?_
          refine E_gm rfl ?_
          refine E_gz rfl ?_
          refine E_gz rfl ?_
          refine E_gz rfl ?_
          refine E_gz rfl ?_
          refine E_gz rfl ?_
          refine E_gz rfl ?_
          refine E_gz rfl ?_
          refine E_gz rfl ?_
          refine E_gz rfl ?_
          refine E_gz rfl ?_
          refine E_gz rfl ?_
          refine E_gz rfl ?_
          refine E_gz rfl ?_
          refine E_gz rfl ?_
          refine E_gz rfl ?_
          refine E_gz rfl ?_
          refine E_gz rfl ?_
          refine E_gz rfl ?_
          refine E_gz rfl ?_
          refine E_gz rfl ?_
          refine E_gz rfl ?_
          refine E_gz rfl ?_
          refine E_gz rfl ?_
          refine E_gm rfl ?_
          refine E_pt rfl rfl ?_
          refine E_mv (v' := (.bool true)) rfl ?_
          refine E_nil ?_
          exact E_jx _ h (wk_rn [some (0, 0), some (1, 0)] rfl (Nat.le_of_ble_eq_true rfl) ⟨(rn_ob rfl rfl (.cons (rn_b rfl) (.cons (rn_b rfl) (.cons (rn_b rfl) (.nil (Nat.zero_le _))))) rfl), (rn_ob rfl rfl (.cons (rn_b (Func.enc.blws 0)) (.nil (Nat.zero_le _))) rfl), trivial⟩ ⟨(rn_b rfl), (rn_b rfl), (rn_ptr rfl rfl rfl rfl), (rn_b rfl), (rn_b rfl), (rn_b rfl), (rn_b rfl), (rn_ptr rfl rfl rfl rfl), (rn_b rfl), (rn_b rfl), (rn_b rfl), (rn_b rfl), trivial⟩)
      · refine E_jp h (fun s_11 => [(6, (.bool s_11))]) (fun s_11 => []) (fun k_10 h => ?_) (fun s_11 h => ?_)
        · refine E_reg ?_
          refine E_mv (v' := (.int .i64 pri_2.2)) rfl ?_
          refine E_op0 (v' := (.bool (pri_2.2 == 0))) rfl rfl ?_
          refine E_mv (v' := (.bool (pri_2.2 == 0))) rfl ?_
          refine E_gsT (b := (pri_2.2 == 0)) rfl rfl rfl (fun hb => ?_) (fun hb => ?_)
          · rw [ite_t hb] at h
            refine E_mv (v' := (.int .i64 pri_3.2)) rfl ?_
            refine E_gh rfl ?_
            refine E_op0 (v' := (.bool (pri_3.2 == 0))) rfl rfl ?_
            refine E_pt rfl rfl ?_
            refine E_mv (v' := (.bool (pri_3.2 == 0))) rfl ?_
            refine E_gsT (b := (pri_3.2 == 0)) rfl rfl rfl (fun hb => ?_) (fun hb => ?_)
            · rw [ite_t hb] at h
              refine E_mv (v' := (.str pri_2.1)) rfl ?_
              refine E_gh rfl ?_
              refine E_mv (v' := (.str pri_3.1)) rfl ?_
              refine E_gh rfl ?_
              refine E_op0 (v' := (.bool (ByteArray.toList pri_2.1 == ByteArray.toList pri_3.1))) rfl rfl ?_
              refine E_gh rfl ?_
              refine E_mv (v' := (.int .u8 a_00)) rfl ?_
              refine E_gh rfl ?_
              refine E_op0 (v' := (.int .u8 (Int.tmod a_00 32))) rfl rfl ?_
              refine E_gh rfl ?_
              refine E_mv (v' := (.int .u8 b_01)) rfl ?_
              refine E_gh rfl ?_
              refine E_op0 (v' := (.int .u8 (Int.tmod b_01 32))) rfl rfl ?_
              refine E_gh rfl ?_
              refine E_op0 (v' := (.bool ((Int.tmod a_00 32) == (Int.tmod b_01 32)))) rfl rfl ?_
              refine E_gh rfl ?_
              refine E_op0 (v' := (.bool ((ByteArray.toList pri_2.1 == ByteArray.toList pri_3.1) == ((Int.tmod a_00 32) == (Int.tmod b_01 32))))) rfl rfl ?_
              refine E_pt rfl rfl ?_
              refine E_mv (v' := (.bool ((ByteArray.toList pri_2.1 == ByteArray.toList pri_3.1) == ((Int.tmod a_00 32) == (Int.tmod b_01 32))))) rfl ?_
              refine E_gsT (b := ((ByteArray.toList pri_2.1 == ByteArray.toList pri_3.1) == ((Int.tmod a_00 32) == (Int.tmod b_01 32)))) rfl rfl rfl (fun hb => ?_) (fun hb => ?_)
              · rw [ite_t hb] at h
                refine E_mv (v' := (.int .i64 par_4.2.2)) rfl ?_
                refine E_gh rfl ?_
                refine E_op0 (v' := (.bool (par_4.2.2 == 0))) rfl rfl ?_
                refine E_pt rfl rfl ?_
                refine E_mv (v' := (.bool (par_4.2.2 == 0))) rfl ?_
                refine E_gsT (b := (par_4.2.2 == 0)) rfl rfl rfl (fun hb => ?_) (fun hb => ?_)
                · rw [ite_t hb] at h
                  refine E_mv (v' := (.int .i64 par_4.2.1)) rfl ?_
                  refine E_gh rfl ?_
                  refine E_op0 (v' := (.bool (par_4.2.1 == 0))) rfl rfl ?_
                  refine E_pt rfl rfl ?_
                  refine E_mv (v' := (.bool (par_4.2.1 == 0))) rfl ?_
                  refine E_gsT (b := (par_4.2.1 == 0)) rfl rfl rfl (fun hb => ?_) (fun hb => ?_)
                  · rw [ite_t hb] at h
                    refine E_op0 (v' := (.ptr 1 0 0)) rfl rfl ?_
                    refine E_gh rfl ?_
                    refine E_op (v' := (.sl false 5 (List.map Func.av par_4.1.Funcs))) (S' := [.arr 0 [(.int .u8 (U8 (1 + (Int.tmod a_00 32)))), (.int .i64 s_6.1), (.int .u64 s_6.2)], .arr 0 [(.sl false 5 (List.map Func.av par_4.1.Funcs))]]) rfl rfl rfl ?_
                    refine E_gh rfl ?_
                    obtain ⟨y_12, hy_12, h⟩ := bd_some h
                    refine E_iadF rfl rfl hy_12 ?_
                    refine E_gh rfl ?_
                    refine E_op0 (v' := (.cptr (Func.av y_12).cells 4)) rfl rfl ?_
                    refine E_gh rfl ?_
                    refine E_op0 (v' := (.sl false 3 (List.map Instr.av y_12.Code))) rfl rfl ?_
                    refine E_gh rfl ?_
                    obtain ⟨y_13, hy_13, h⟩ := bd_some h
                    refine E_iadF rfl rfl hy_13 ?_
                    refine E_gh rfl ?_
                    refine E_op0 (v' := (.cptr (Instr.av y_13).cells 0)) rfl rfl ?_
                    refine E_gh rfl ?_
                    refine E_op0 (v' := (.int .u8 y_13.Op)) rfl rfl ?_
                    refine E_gh rfl ?_
                    refine E_op0 (v' := (.ptr 0 0 0)) rfl rfl ?_
                    refine E_gh rfl ?_
                    refine E_op (v' := (.int .u8 (U8 (1 + (Int.tmod a_00 32))))) (S' := [.arr 0 [(.int .u8 (U8 (1 + (Int.tmod a_00 32)))), (.int .i64 s_6.1), (.int .u64 s_6.2)], .arr 0 [(.sl false 5 (List.map Func.av par_4.1.Funcs))]]) rfl rfl rfl ?_
                    refine E_gh rfl ?_
                    refine E_op0 (v' := (.bool (y_13.Op == (U8 (1 + (Int.tmod a_00 32)))))) rfl rfl ?_
                    refine E_pt rfl rfl ?_
                    refine E_mv (v' := (.bool (y_13.Op == (U8 (1 + (Int.tmod a_00 32)))))) rfl ?_
                    refine E_gsT (b := (y_13.Op == (U8 (1 + (Int.tmod a_00 32))))) rfl rfl rfl (fun hb => ?_) (fun hb => ?_)
                    · rw [ite_t hb] at h
                      refine E_mv (v' := (.int .i64 pri_7.2)) rfl ?_
                      refine E_gh rfl ?_
                      refine E_op0 (v' := (.bool (pri_7.2 == 0))) rfl rfl ?_
                      refine E_gh rfl ?_
                      refine E_mv (v' := (.bool s_9)) rfl ?_
                      refine E_gh rfl ?_
                      refine E_op0 (v' := (.bool ((pri_7.2 == 0) == s_9))) rfl rfl ?_
                      refine E_pt rfl rfl ?_
                      refine E_mv (v' := (.bool ((pri_7.2 == 0) == s_9))) rfl ?_
                      refine E_nil ?_
                      exact E_jx _ h (wk_rn [] rfl (Nat.le_of_ble_eq_true rfl) trivial ⟨(rn_b rfl), trivial⟩)
                    · rw [ite_f hb] at h
                      refine E_gm rfl ?_
                      refine E_gm rfl ?_
                      refine E_gm rfl ?_
                      refine E_pf rfl rfl ?_
                      refine E_mv (v' := (.bool false)) rfl ?_
                      refine E_nil ?_
                      exact E_jx _ h (wk_rn [] rfl (Nat.le_of_ble_eq_true rfl) trivial ⟨(rn_b rfl), trivial⟩)
                  · rw [ite_f hb] at h
                    refine E_gm rfl ?_
                    refine E_gm rfl ?_
                    refine E_gm rfl ?_
                    refine E_gm rfl ?_
                    refine E_gm rfl ?_
                    refine E_gm rfl ?_
                    refine E_gm rfl ?_
                    refine E_gm rfl ?_
                    refine E_gm rfl ?_
                    refine E_gm rfl ?_
                    refine E_pf rfl rfl ?_
                    refine E_mv (v' := (.bool false)) rfl ?_
                    refine E_gm rfl ?_
                    refine E_gm rfl ?_
                    refine E_gm rfl ?_
                    refine E_gm rfl ?_
                    refine E_pf rfl rfl ?_
                    refine E_mv (v' := (.bool false)) rfl ?_
                    refine E_nil ?_
                    exact E_jx _ h (wk_rn [] rfl (Nat.le_of_ble_eq_true rfl) trivial ⟨(rn_b rfl), trivial⟩)
                · rw [ite_f hb] at h
                  refine E_gm rfl ?_
                  refine E_pf rfl rfl ?_
                  refine E_mv (v' := (.bool false)) rfl ?_
                  refine E_gm rfl ?_
                  refine E_gm rfl ?_
                  refine E_gm rfl ?_
                  refine E_gm rfl ?_
                  refine E_gm rfl ?_
                  refine E_gm rfl ?_
                  refine E_gm rfl ?_
                  refine E_gm rfl ?_
                  refine E_gm rfl ?_
                  refine E_gm rfl ?_
                  refine E_gm rfl ?_
                  refine E_pf rfl rfl ?_
                  refine E_mv (v' := (.bool false)) rfl ?_
                  refine E_gm rfl ?_
                  refine E_gm rfl ?_
                  refine E_gm rfl ?_
                  refine E_gm rfl ?_
                  refine E_pf rfl rfl ?_
                  refine E_mv (v' := (.bool false)) rfl ?_
                  refine E_nil ?_
                  exact E_jx _ h (wk_rn [] rfl (Nat.le_of_ble_eq_true rfl) trivial ⟨(rn_b rfl), trivial⟩)
              · rw [ite_f hb] at h
                refine E_gm rfl ?_
                refine E_pf rfl rfl ?_
                refine E_mv (v' := (.bool false)) rfl ?_
                refine E_gm rfl ?_
                refine E_gm rfl ?_
                refine E_pf rfl rfl ?_
                refine E_mv (v' := (.bool false)) rfl ?_
                refine E_gm rfl ?_
                refine E_gm rfl ?_
                refine E_gm rfl ?_
                refine E_gm rfl ?_
                refine E_gm rfl ?_
                refine E_gm rfl ?_
                refine E_gm rfl ?_
                refine E_gm rfl ?_
                refine E_gm rfl ?_
                refine E_gm rfl ?_
                refine E_gm rfl ?_
                refine E_pf rfl rfl ?_
                refine E_mv (v' := (.bool false)) rfl ?_
                refine E_gm rfl ?_
                refine E_gm rfl ?_
                refine E_gm rfl ?_
                refine E_gm rfl ?_
                refine E_pf rfl rfl ?_
                refine E_mv (v' := (.bool false)) rfl ?_
                refine E_nil ?_
                exact E_jx _ h (wk_rn [] rfl (Nat.le_of_ble_eq_true rfl) trivial ⟨(rn_b rfl), trivial⟩)
            · rw [ite_f hb] at h
              refine E_gm rfl ?_
              refine E_gm rfl ?_
              refine E_gm rfl ?_
              refine E_gm rfl ?_
              refine E_gm rfl ?_
              refine E_gm rfl ?_
              refine E_gm rfl ?_
              refine E_gm rfl ?_
              refine E_pf rfl rfl ?_
              refine E_mv (v' := (.bool false)) rfl ?_
              refine E_gm rfl ?_
              refine E_gm rfl ?_
              refine E_pf rfl rfl ?_
              refine E_mv (v' := (.bool false)) rfl ?_
              refine E_gm rfl ?_
              refine E_gm rfl ?_
              refine E_pf rfl rfl ?_
              refine E_mv (v' := (.bool false)) rfl ?_
              refine E_gm rfl ?_
              refine E_gm rfl ?_
              refine E_gm rfl ?_
              refine E_gm rfl ?_
              refine E_gm rfl ?_
              refine E_gm rfl ?_
              refine E_gm rfl ?_
              refine E_gm rfl ?_
              refine E_gm rfl ?_
              refine E_gm rfl ?_
              refine E_gm rfl ?_
              refine E_pf rfl rfl ?_
              refine E_mv (v' := (.bool false)) rfl ?_
              refine E_gm rfl ?_
              refine E_gm rfl ?_
              refine E_gm rfl ?_
              refine E_gm rfl ?_
              refine E_pf rfl rfl ?_
              refine E_mv (v' := (.bool false)) rfl ?_
              refine E_nil ?_
              exact E_jx _ h (wk_rn [] rfl (Nat.le_of_ble_eq_true rfl) trivial ⟨(rn_b rfl), trivial⟩)
          · rw [ite_f hb] at h
            refine E_gm rfl ?_
            refine E_pf rfl rfl ?_
            refine E_mv (v' := (.bool false)) rfl ?_
            refine E_gm rfl ?_
            refine E_gm rfl ?_
            refine E_gm rfl ?_
            refine E_gm rfl ?_
            refine E_gm rfl ?_
            refine E_gm rfl ?_
            refine E_gm rfl ?_
            refine E_gm rfl ?_
            refine E_gm rfl ?_
            refine E_pf rfl rfl ?_
            refine E_mv (v' := (.bool false)) rfl ?_
            refine E_gm rfl ?_
            refine E_gm rfl ?_
            refine E_pf rfl rfl ?_
            refine E_mv (v' := (.bool false)) rfl ?_
            refine E_gm rfl ?_
            refine E_gm rfl ?_
            refine E_pf rfl rfl ?_
            refine E_mv (v' := (.bool false)) rfl ?_
            refine E_gm rfl ?_
            refine E_gm rfl ?_
            refine E_gm rfl ?_
            refine E_gm rfl ?_
            refine E_gm rfl ?_
            refine E_gm rfl ?_
            refine E_gm rfl ?_
            refine E_gm rfl ?_
            refine E_gm rfl ?_
            refine E_gm rfl ?_
            refine E_gm rfl ?_
            refine E_pf rfl rfl ?_
            refine E_mv (v' := (.bool false)) rfl ?_
            refine E_gm rfl ?_
            refine E_gm rfl ?_
            refine E_gm rfl ?_
            refine E_gm rfl ?_
            refine E_pf rfl rfl ?_
            refine E_mv (v' := (.bool false)) rfl ?_
            refine E_nil ?_
            exact E_jx _ h (wk_rn [] rfl (Nat.le_of_ble_eq_true rfl) trivial ⟨(rn_b rfl), trivial⟩)
        · refine E_ret ?_
          cases h
          exact ⟨trivial, _, rfl, (fz_b rfl (.refl _))⟩
end Go.Proofs.YtkfhljombjmdbaaDoor
