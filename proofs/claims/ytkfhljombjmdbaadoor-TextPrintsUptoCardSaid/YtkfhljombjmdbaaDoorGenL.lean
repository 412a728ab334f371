/- What the functions compute, and that they do (printed by wip/gen/gen.py), part 1. -/
import Derived.Test.YtkfhljombjmdbaaDoorWlH1
import Derived.Test.YtkfhljombjmdbaaDoorRows
import Derived.Test.YtkfhljombjmdbaaDoorTxN
namespace Go.Proofs.YtkfhljombjmdbaaDoor
open Go Go.Ab
set_option maxRecDepth 20000
set_option maxHeartbeats 2000000
set_option linter.unusedVariables false
set_option linter.unusedSimpArgs false
/- windlass/windlasslaw04.first -/
def fc19 : FC := (.seq (.reg [⟨(some 0), none, .op (.mv (.v (.bool false)))⟩] [])
  (.seq (.reg [⟨(some 5), none, .call 20 [(.v (.str (ByteArray.mk #[35, 32, 120, 10, 102, 117, 110, 99, 32, 49, 32, 110, 112, 32, 49, 32, 48, 10, 32, 32, 103, 101, 116, 32, 32, 48, 10, 99, 111, 110, 115, 116, 32, 55, 10])))]⟩,
  ⟨(some 4), none, .op (.mv (.t 5))⟩,
  ⟨(some 6), none, .op (.ext 0 (.t 4))⟩,
  ⟨(some 7), none, .op (.ext 1 (.t 4))⟩,
  ⟨(some 8), none, .op (.ext 2 (.t 4))⟩,
  ⟨(some 1), none, .op (.new [.nils])⟩,
  ⟨none, none, .op (.store 1 (.t 1) (.t 6))⟩,
  ⟨(some 2), none, .op (.mv (.t 7))⟩,
  ⟨(some 3), none, .op (.mv (.t 8))⟩] [])
  (.seq (.reg [⟨(some 9), none, .op (.mv (.t 3))⟩,
  ⟨(some 10), none, .op (.bin .none .eql (.t 9) (.v (.int .i64 0)))⟩,
  ⟨(some 11), none, .op (.mv (.t 10))⟩,
  ⟨(some 12), some (11, true), .op (.mv (.t 2))⟩,
  ⟨(some 13), some (11, true), .op (.bin .none .eql (.t 12) (.v (.int .i64 0)))⟩,
  ⟨(some 14), none, .op (.pick (.t 11) (.t 13) (.v (.bool false)))⟩,
  ⟨(some 15), none, .op (.mv (.t 14))⟩,
  ⟨(some 16), some (15, true), .op (.fad 0 (.t 1))⟩,
  ⟨(some 17), some (15, true), .op (.load none (.t 16))⟩,
  ⟨(some 18), some (15, true), .op (.len .sl (.t 17))⟩,
  ⟨(some 19), some (15, true), .op (.bin .none .eql (.t 18) (.v (.int .i64 1)))⟩,
  ⟨(some 20), none, .op (.pick (.t 15) (.t 19) (.v (.bool false)))⟩,
  ⟨(some 21), none, .op (.mv (.t 20))⟩,
  ⟨(some 22), some (21, true), .op (.fad 0 (.t 1))⟩,
  ⟨(some 23), some (21, true), .op (.load none (.t 22))⟩,
  ⟨(some 24), some (21, true), .op (.iad none (some 5) (.t 23) (.v (.int .i64 0)))⟩,
  ⟨(some 25), some (21, true), .op (.fad 0 (.t 24))⟩,
  ⟨(some 26), some (21, true), .op (.load none (.t 25))⟩,
  ⟨(some 27), some (21, true), .op (.bin .none .eql (.t 26) (.v (.int .i64 1)))⟩,
  ⟨(some 28), none, .op (.pick (.t 21) (.t 27) (.v (.bool false)))⟩,
  ⟨(some 29), none, .op (.mv (.t 28))⟩,
  ⟨(some 30), some (29, true), .op (.fad 0 (.t 1))⟩,
  ⟨(some 31), some (29, true), .op (.load none (.t 30))⟩,
  ⟨(some 32), some (29, true), .op (.iad none (some 5) (.t 31) (.v (.int .i64 0)))⟩,
  ⟨(some 33), some (29, true), .op (.fad 1 (.t 32))⟩,
  ⟨(some 34), some (29, true), .op (.load none (.t 33))⟩,
  ⟨(some 35), some (29, true), .op (.len .sl (.t 34))⟩,
  ⟨(some 36), some (29, true), .op (.bin .none .eql (.t 35) (.v (.int .i64 2)))⟩,
  ⟨(some 37), none, .op (.pick (.t 29) (.t 36) (.v (.bool false)))⟩,
  ⟨(some 38), none, .op (.mv (.t 37))⟩,
  ⟨(some 39), some (38, true), .op (.fad 0 (.t 1))⟩,
  ⟨(some 40), some (38, true), .op (.load none (.t 39))⟩,
  ⟨(some 41), some (38, true), .op (.iad none (some 5) (.t 40) (.v (.int .i64 0)))⟩,
  ⟨(some 42), some (38, true), .op (.fad 3 (.t 41))⟩,
  ⟨(some 43), some (38, true), .op (.load none (.t 42))⟩,
  ⟨(some 44), some (38, true), .op (.bin .none .eql (.t 43) (.v (.int .i64 0)))⟩,
  ⟨(some 45), none, .op (.pick (.t 38) (.t 44) (.v (.bool false)))⟩,
  ⟨(some 46), none, .op (.mv (.t 45))⟩,
  ⟨(some 47), some (46, true), .op (.fad 0 (.t 1))⟩,
  ⟨(some 48), some (46, true), .op (.load none (.t 47))⟩,
  ⟨(some 49), some (46, true), .op (.iad none (some 5) (.t 48) (.v (.int .i64 0)))⟩,
  ⟨(some 50), some (46, true), .op (.fad 4 (.t 49))⟩,
  ⟨(some 51), some (46, true), .op (.load none (.t 50))⟩,
  ⟨(some 52), some (46, true), .op (.len .sl (.t 51))⟩,
  ⟨(some 53), some (46, true), .op (.bin .none .eql (.t 52) (.v (.int .i64 2)))⟩,
  ⟨(some 54), none, .op (.pick (.t 46) (.t 53) (.v (.bool false)))⟩,
  ⟨(some 55), none, .op (.mv (.t 54))⟩,
  ⟨(some 56), some (55, true), .op (.fad 0 (.t 1))⟩,
  ⟨(some 57), some (55, true), .op (.load none (.t 56))⟩,
  ⟨(some 58), some (55, true), .op (.iad none (some 5) (.t 57) (.v (.int .i64 0)))⟩,
  ⟨(some 59), some (55, true), .op (.fad 4 (.t 58))⟩,
  ⟨(some 60), some (55, true), .op (.load none (.t 59))⟩,
  ⟨(some 61), some (55, true), .op (.iad none (some 3) (.t 60) (.v (.int .i64 1)))⟩,
  ⟨(some 62), some (55, true), .op (.fad 2 (.t 61))⟩,
  ⟨(some 63), some (55, true), .op (.load none (.t 62))⟩,
  ⟨(some 64), some (55, true), .op (.bin .none .eql (.t 63) (.v (.int .u64 7)))⟩,
  ⟨(some 65), none, .op (.pick (.t 55) (.t 64) (.v (.bool false)))⟩,
  ⟨(some 0), none, .op (.mv (.t 65))⟩] [])
  .ret)))
theorem fn19 : Fn3 Tryd.prog 19 66 [(0, none)] fc19 := ⟨_, _, Tryd.func19, rfl, rfl, rfl, by kernel_rfl⟩
def windlasslaw04_first_s  : Option Bool :=
  ((text_Parse_s (ByteArray.mk #[35, 32, 120, 10, 102, 117, 110, 99, 32, 49, 32, 110, 112, 32, 49, 32, 48, 10, 32, 32, 103, 101, 116, 32, 32, 48, 10, 99, 111, 110, 115, 116, 32, 55, 10])).bind fun par_1 => (jp (fun (s_3 : Bool) => (some s_3)) (fun k_2 => (if (par_1.2.2 == 0) then (if (par_1.2.1 == 0) then (if ((List.length par_1.1.Funcs : Int) == 1) then ((getI par_1.1.Funcs 0).bind fun y_4 => (if (y_4.Params == 1) then (if ((List.length y_4.Locals : Int) == 2) then (if (y_4.Keep == 0) then (if ((List.length y_4.Code : Int) == 2) then ((getI y_4.Code 1).bind fun y_5 => (k_2 (y_5.Imm == 7))) else (k_2 false)) else (k_2 false)) else (k_2 false)) else (k_2 false))) else (k_2 false)) else (k_2 false)) else (k_2 false)))))
theorem windlasslaw04_first_ev  {r : Bool} (h : windlasslaw04_first_s  = some r) : PureEv Tryd.prog 19 [] (.bool r) := by
  unfold windlasslaw04_first_s at h
  refine PureEv_end mixed fn19 (by simp) [1] 6 ?_
  unfold fc19
  refine E_sq ?_
  refine E_reg ?_
  refine E_mv (v' := (.bool false)) rfl ?_
  refine E_nil ?_
  refine E_nx ?_
  refine E_sq ?_
  refine E_reg ?_
  obtain ⟨par_1, hpar_1, h⟩ := bd_some h
  refine E_callW (text_Parse_ev  hpar_1) rfl ⟨(.refl _), trivial⟩ (blwL_of ⟨rfl, trivial⟩) (tup_blw ⟨(Program.enc.blw _ 0), rfl, rfl, trivial⟩) ?_
  refine E_mv (v' := (.tup [(Program.av par_1.1), (.int .i64 par_1.2.1), (.int .i64 par_1.2.2)])) rfl ?_
  refine E_op0 (v' := (Program.av par_1.1)) rfl rfl ?_
  refine E_op0 (v' := (.int .i64 par_1.2.1)) rfl rfl ?_
  refine E_op0 (v' := (.int .i64 par_1.2.2)) rfl rfl ?_
  refine E_op (v' := .ptr 0 0 0) (S' := [.arr 0 [.nils]]) rfl rfl rfl ?_
  refine E_do (S' := [.arr 0 [(.sl false 5 (List.map Func.av par_1.1.Funcs))]]) rfl rfl ?_
  refine E_mv (v' := (.int .i64 par_1.2.1)) rfl ?_
  refine E_mv (v' := (.int .i64 par_1.2.2)) rfl ?_
  refine E_nil ?_
  refine E_nx ?_
  refine E_jp h (fun s_3 => [(0, (.bool s_3))]) (fun s_3 => []) (fun k_2 h => ?_) (fun s_3 h => ?_)
  · refine E_reg ?_
    refine E_mv (v' := (.int .i64 par_1.2.2)) (by kernel_rfl) ?_
    refine E_op0 (v := (.bool (par_1.2.2 == 0))) (v' := (.bool (par_1.2.2 == 0))) (by kernel_rfl) rfl ?_
    refine E_mv (v' := (.bool (par_1.2.2 == 0))) (by kernel_rfl) ?_
    refine E_gsT (b := (par_1.2.2 == 0)) rfl rfl rfl (fun hb => ?_) (fun hb => ?_)
    · rw [ite_t hb] at h
      refine E_mv (v' := (.int .i64 par_1.2.1)) (by kernel_rfl) ?_
      refine E_gh rfl ?_
      refine E_op0 (v := (.bool (par_1.2.1 == 0))) (v' := (.bool (par_1.2.1 == 0))) (by kernel_rfl) rfl ?_
      refine E_pt rfl rfl ?_
      refine E_mv (v' := (.bool (par_1.2.1 == 0))) (by kernel_rfl) ?_
      refine E_gsT (b := (par_1.2.1 == 0)) rfl rfl rfl (fun hb => ?_) (fun hb => ?_)
      · rw [ite_t hb] at h
        refine E_op0 (v := (.ptr 0 0 0)) (v' := (.ptr 0 0 0)) (by kernel_rfl) rfl ?_
        refine E_gh rfl ?_
        refine E_op (v' := (.sl false 5 (List.map Func.av par_1.1.Funcs))) (S' := [.arr 0 [(.sl false 5 (List.map Func.av par_1.1.Funcs))]]) rfl rfl rfl ?_
        refine E_gh rfl ?_
        refine E_len rfl ?_
        refine E_gh rfl ?_
        refine E_op0 (v := (.bool ((List.length par_1.1.Funcs : Int) == 1))) (v' := (.bool ((List.length par_1.1.Funcs : Int) == 1))) (by kernel_rfl) rfl ?_
        refine E_pt rfl rfl ?_
        refine E_mv (v' := (.bool ((List.length par_1.1.Funcs : Int) == 1))) (by kernel_rfl) ?_
        refine E_gsT (b := ((List.length par_1.1.Funcs : Int) == 1)) rfl rfl rfl (fun hb => ?_) (fun hb => ?_)
        · rw [ite_t hb] at h
          refine E_op0 (v := (.ptr 0 0 0)) (v' := (.ptr 0 0 0)) (by kernel_rfl) rfl ?_
          refine E_gh rfl ?_
          refine E_op (v' := (.sl false 5 (List.map Func.av par_1.1.Funcs))) (S' := [.arr 0 [(.sl false 5 (List.map Func.av par_1.1.Funcs))]]) rfl rfl rfl ?_
          refine E_gh rfl ?_
          obtain ⟨y_4, hy_4, h⟩ := bd_some h
          refine E_iadF rfl rfl hy_4 ?_
          refine E_gh rfl ?_
          refine E_op0 (v := (.cptr (Func.av y_4).cells 0)) (v' := (.cptr (Func.av y_4).cells 0)) (by kernel_rfl) rfl ?_
          refine E_gh rfl ?_
          refine E_op0 (v := (.int .i64 y_4.Params)) (v' := (.int .i64 y_4.Params)) (by kernel_rfl) rfl ?_
          refine E_gh rfl ?_
          refine E_op0 (v := (.bool (y_4.Params == 1))) (v' := (.bool (y_4.Params == 1))) (by kernel_rfl) rfl ?_
          refine E_pt rfl rfl ?_
          refine E_mv (v' := (.bool (y_4.Params == 1))) (by kernel_rfl) ?_
          refine E_gsT (b := (y_4.Params == 1)) rfl rfl rfl (fun hb => ?_) (fun hb => ?_)
          · rw [ite_t hb] at h
            refine E_op0 (v := (.ptr 0 0 0)) (v' := (.ptr 0 0 0)) (by kernel_rfl) rfl ?_
            refine E_gh rfl ?_
            refine E_op (v' := (.sl false 5 (List.map Func.av par_1.1.Funcs))) (S' := [.arr 0 [(.sl false 5 (List.map Func.av par_1.1.Funcs))]]) rfl rfl rfl ?_
            refine E_gh rfl ?_
            refine E_iadF rfl rfl hy_4 ?_
            refine E_gh rfl ?_
            refine E_op0 (v := (.cptr (Func.av y_4).cells 1)) (v' := (.cptr (Func.av y_4).cells 1)) (by kernel_rfl) rfl ?_
            refine E_gh rfl ?_
            refine E_op0 (v := (.sl false 1 (List.map (avI .u8) y_4.Locals))) (v' := (.sl false 1 (List.map (avI .u8) y_4.Locals))) (by kernel_rfl) rfl ?_
            refine E_gh rfl ?_
            refine E_len rfl ?_
            refine E_gh rfl ?_
            refine E_op0 (v := (.bool ((List.length y_4.Locals : Int) == 2))) (v' := (.bool ((List.length y_4.Locals : Int) == 2))) (by kernel_rfl) rfl ?_
            refine E_pt rfl rfl ?_
            refine E_mv (v' := (.bool ((List.length y_4.Locals : Int) == 2))) (by kernel_rfl) ?_
            refine E_gsT (b := ((List.length y_4.Locals : Int) == 2)) rfl rfl rfl (fun hb => ?_) (fun hb => ?_)
            · rw [ite_t hb] at h
              refine E_op0 (v := (.ptr 0 0 0)) (v' := (.ptr 0 0 0)) (by kernel_rfl) rfl ?_
              refine E_gh rfl ?_
              refine E_op (v' := (.sl false 5 (List.map Func.av par_1.1.Funcs))) (S' := [.arr 0 [(.sl false 5 (List.map Func.av par_1.1.Funcs))]]) rfl rfl rfl ?_
              refine E_gh rfl ?_
              refine E_iadF rfl rfl hy_4 ?_
              refine E_gh rfl ?_
              refine E_op0 (v := (.cptr (Func.av y_4).cells 3)) (v' := (.cptr (Func.av y_4).cells 3)) (by kernel_rfl) rfl ?_
              refine E_gh rfl ?_
              refine E_op0 (v := (.int .i64 y_4.Keep)) (v' := (.int .i64 y_4.Keep)) (by kernel_rfl) rfl ?_
              refine E_gh rfl ?_
              refine E_op0 (v := (.bool (y_4.Keep == 0))) (v' := (.bool (y_4.Keep == 0))) (by kernel_rfl) rfl ?_
              refine E_pt rfl rfl ?_
              refine E_mv (v' := (.bool (y_4.Keep == 0))) (by kernel_rfl) ?_
              refine E_gsT (b := (y_4.Keep == 0)) rfl rfl rfl (fun hb => ?_) (fun hb => ?_)
              · rw [ite_t hb] at h
                refine E_op0 (v := (.ptr 0 0 0)) (v' := (.ptr 0 0 0)) (by kernel_rfl) rfl ?_
                refine E_gh rfl ?_
                refine E_op (v' := (.sl false 5 (List.map Func.av par_1.1.Funcs))) (S' := [.arr 0 [(.sl false 5 (List.map Func.av par_1.1.Funcs))]]) rfl rfl rfl ?_
                refine E_gh rfl ?_
                refine E_iadF rfl rfl hy_4 ?_
                refine E_gh rfl ?_
                refine E_op0 (v := (.cptr (Func.av y_4).cells 4)) (v' := (.cptr (Func.av y_4).cells 4)) (by kernel_rfl) rfl ?_
                refine E_gh rfl ?_
                refine E_op0 (v := (.sl false 3 (List.map Instr.av y_4.Code))) (v' := (.sl false 3 (List.map Instr.av y_4.Code))) (by kernel_rfl) rfl ?_
                refine E_gh rfl ?_
                refine E_len rfl ?_
                refine E_gh rfl ?_
                refine E_op0 (v := (.bool ((List.length y_4.Code : Int) == 2))) (v' := (.bool ((List.length y_4.Code : Int) == 2))) (by kernel_rfl) rfl ?_
                refine E_pt rfl rfl ?_
                refine E_mv (v' := (.bool ((List.length y_4.Code : Int) == 2))) (by kernel_rfl) ?_
                refine E_gsT (b := ((List.length y_4.Code : Int) == 2)) rfl rfl rfl (fun hb => ?_) (fun hb => ?_)
                · rw [ite_t hb] at h
                  refine E_op0 (v := (.ptr 0 0 0)) (v' := (.ptr 0 0 0)) (by kernel_rfl) rfl ?_
                  refine E_gh rfl ?_
                  refine E_op (v' := (.sl false 5 (List.map Func.av par_1.1.Funcs))) (S' := [.arr 0 [(.sl false 5 (List.map Func.av par_1.1.Funcs))]]) rfl rfl rfl ?_
                  refine E_gh rfl ?_
                  refine E_iadF rfl rfl hy_4 ?_
                  refine E_gh rfl ?_
                  refine E_op0 (v := (.cptr (Func.av y_4).cells 4)) (v' := (.cptr (Func.av y_4).cells 4)) (by kernel_rfl) rfl ?_
                  refine E_gh rfl ?_
                  refine E_op0 (v := (.sl false 3 (List.map Instr.av y_4.Code))) (v' := (.sl false 3 (List.map Instr.av y_4.Code))) (by kernel_rfl) rfl ?_
                  refine E_gh rfl ?_
                  obtain ⟨y_5, hy_5, h⟩ := bd_some h
                  refine E_iadF rfl rfl hy_5 ?_
                  refine E_gh rfl ?_
                  refine E_op0 (v := (.cptr (Instr.av y_5).cells 2)) (v' := (.cptr (Instr.av y_5).cells 2)) (by kernel_rfl) rfl ?_
                  refine E_gh rfl ?_
                  refine E_op0 (v := (.int .u64 y_5.Imm)) (v' := (.int .u64 y_5.Imm)) (by kernel_rfl) rfl ?_
                  refine E_gh rfl ?_
                  refine E_op0 (v := (.bool (y_5.Imm == 7))) (v' := (.bool (y_5.Imm == 7))) (by kernel_rfl) rfl ?_
                  refine E_pt rfl rfl ?_
                  refine E_mv (v' := (.bool (y_5.Imm == 7))) (by kernel_rfl) ?_
                  refine E_nil ?_
                  exact E_jx _ h (wk_rn [] rfl (Nat.le_of_ble_eq_true rfl) trivial ⟨(rn_b rfl), trivial⟩)
                · rw [ite_f hb] at h
                  refine E_gm rfl ?_
                  refine E_gm rfl ?_
                  refine E_gm rfl ?_
                  refine E_gm rfl ?_
                  refine E_gm rfl ?_
                  refine E_gm rfl ?_
                  refine E_gm rfl ?_
                  refine E_gm rfl ?_
                  refine E_pf rfl rfl ?_
                  refine E_mv (v' := (.bool false)) (by kernel_rfl) ?_
                  refine E_nil ?_
                  exact E_jx _ h (wk_rn [] rfl (Nat.le_of_ble_eq_true rfl) trivial ⟨(rn_b rfl), trivial⟩)
              · rw [ite_f hb] at h
                refine E_gm rfl ?_
                refine E_gm rfl ?_
                refine E_gm rfl ?_
                refine E_gm rfl ?_
                refine E_gm rfl ?_
                refine E_gm rfl ?_
                refine E_pf rfl rfl ?_
                refine E_mv (v' := (.bool false)) (by kernel_rfl) ?_
                refine E_gm rfl ?_
                refine E_gm rfl ?_
                refine E_gm rfl ?_
                refine E_gm rfl ?_
                refine E_gm rfl ?_
                refine E_gm rfl ?_
                refine E_gm rfl ?_
                refine E_gm rfl ?_
                refine E_gm rfl ?_
                refine E_pf rfl rfl ?_
                refine E_mv (v' := (.bool false)) (by kernel_rfl) ?_
                refine E_nil ?_
                exact E_jx _ h (wk_rn [] rfl (Nat.le_of_ble_eq_true rfl) trivial ⟨(rn_b rfl), trivial⟩)
            · rw [ite_f hb] at h
              refine E_gm rfl ?_
              refine E_gm rfl ?_
              refine E_gm rfl ?_
              refine E_gm rfl ?_
              refine E_gm rfl ?_
              refine E_pf rfl rfl ?_
              refine E_mv (v' := (.bool false)) (by kernel_rfl) ?_
              refine E_gm rfl ?_
              refine E_gm rfl ?_
              refine E_gm rfl ?_
              refine E_gm rfl ?_
              refine E_gm rfl ?_
              refine E_gm rfl ?_
              refine E_gm rfl ?_
              refine E_pf rfl rfl ?_
              refine E_mv (v' := (.bool false)) (by kernel_rfl) ?_
              refine E_gm rfl ?_
              refine E_gm rfl ?_
              refine E_gm rfl ?_
              refine E_gm rfl ?_
              refine E_gm rfl ?_
              refine E_gm rfl ?_
              refine E_gm rfl ?_
              refine E_gm rfl ?_
              refine E_gm rfl ?_
              refine E_pf rfl rfl ?_
              refine E_mv (v' := (.bool false)) (by kernel_rfl) ?_
              refine E_nil ?_
              exact E_jx _ h (wk_rn [] rfl (Nat.le_of_ble_eq_true rfl) trivial ⟨(rn_b rfl), trivial⟩)
          · rw [ite_f hb] at h
            refine E_gm rfl ?_
            refine E_gm rfl ?_
            refine E_gm rfl ?_
            refine E_gm rfl ?_
            refine E_gm rfl ?_
            refine E_gm rfl ?_
            refine E_pf rfl rfl ?_
            refine E_mv (v' := (.bool false)) (by kernel_rfl) ?_
            refine E_gm rfl ?_
            refine E_gm rfl ?_
            refine E_gm rfl ?_
            refine E_gm rfl ?_
            refine E_gm rfl ?_
            refine E_gm rfl ?_
            refine E_pf rfl rfl ?_
            refine E_mv (v' := (.bool false)) (by kernel_rfl) ?_
            refine E_gm rfl ?_
            refine E_gm rfl ?_
            refine E_gm rfl ?_
            refine E_gm rfl ?_
            refine E_gm rfl ?_
            refine E_gm rfl ?_
            refine E_gm rfl ?_
            refine E_pf rfl rfl ?_
            refine E_mv (v' := (.bool false)) (by kernel_rfl) ?_
            refine E_gm rfl ?_
            refine E_gm rfl ?_
            refine E_gm rfl ?_
            refine E_gm rfl ?_
            refine E_gm rfl ?_
            refine E_gm rfl ?_
            refine E_gm rfl ?_
            refine E_gm rfl ?_
            refine E_gm rfl ?_
            refine E_pf rfl rfl ?_
            refine E_mv (v' := (.bool false)) (by kernel_rfl) ?_
            refine E_nil ?_
            exact E_jx _ h (wk_rn [] rfl (Nat.le_of_ble_eq_true rfl) trivial ⟨(rn_b rfl), trivial⟩)
        · rw [ite_f hb] at h
          refine E_gm rfl ?_
          refine E_gm rfl ?_
          refine E_gm rfl ?_
          refine E_gm rfl ?_
          refine E_gm rfl ?_
          refine E_pf rfl rfl ?_
          refine E_mv (v' := (.bool false)) (by kernel_rfl) ?_
          refine E_gm rfl ?_
          refine E_gm rfl ?_
          refine E_gm rfl ?_
          refine E_gm rfl ?_
          refine E_gm rfl ?_
          refine E_gm rfl ?_
          refine E_gm rfl ?_
          refine E_pf rfl rfl ?_
          refine E_mv (v' := (.bool false)) (by kernel_rfl) ?_
          refine E_gm rfl ?_
          refine E_gm rfl ?_
          refine E_gm rfl ?_
          refine E_gm rfl ?_
          refine E_gm rfl ?_
          refine E_gm rfl ?_
          refine E_pf rfl rfl ?_
          refine E_mv (v' := (.bool false)) (by kernel_rfl) ?_
          refine E_gm rfl ?_
          refine E_gm rfl ?_
          refine E_gm rfl ?_
          refine E_gm rfl ?_
          refine E_gm rfl ?_
          refine E_gm rfl ?_
          refine E_gm rfl ?_
          refine E_pf rfl rfl ?_
          refine E_mv (v' := (.bool false)) (by kernel_rfl) ?_
          refine E_gm rfl ?_
          refine E_gm rfl ?_
          refine E_gm rfl ?_
          refine E_gm rfl ?_
          refine E_gm rfl ?_
          refine E_gm rfl ?_
          refine E_gm rfl ?_
          refine E_gm rfl ?_
          refine E_gm rfl ?_
          refine E_pf rfl rfl ?_
          refine E_mv (v' := (.bool false)) (by kernel_rfl) ?_
          refine E_nil ?_
          exact E_jx _ h (wk_rn [] rfl (Nat.le_of_ble_eq_true rfl) trivial ⟨(rn_b rfl), trivial⟩)
      · rw [ite_f hb] at h
        refine E_gm rfl ?_
        refine E_gm rfl ?_
        refine E_gm rfl ?_
        refine E_pf rfl rfl ?_
        refine E_mv (v' := (.bool false)) (by kernel_rfl) ?_
        refine E_gm rfl ?_
        refine E_gm rfl ?_
        refine E_gm rfl ?_
        refine E_gm rfl ?_
        refine E_gm rfl ?_
        refine E_gm rfl ?_
        refine E_pf rfl rfl ?_
        refine E_mv (v' := (.bool false)) (by kernel_rfl) ?_
        refine E_gm rfl ?_
        refine E_gm rfl ?_
        refine E_gm rfl ?_
        refine E_gm rfl ?_
        refine E_gm rfl ?_
        refine E_gm rfl ?_
        refine E_gm rfl ?_
        refine E_pf rfl rfl ?_
        refine E_mv (v' := (.bool false)) (by kernel_rfl) ?_
        refine E_gm rfl ?_
        refine E_gm rfl ?_
        refine E_gm rfl ?_
        refine E_gm rfl ?_
        refine E_gm rfl ?_
        refine E_gm rfl ?_
        refine E_pf rfl rfl ?_
        refine E_mv (v' := (.bool false)) (by kernel_rfl) ?_
        refine E_gm rfl ?_
        refine E_gm rfl ?_
        refine E_gm rfl ?_
        refine E_gm rfl ?_
        refine E_gm rfl ?_
        refine E_gm rfl ?_
        refine E_gm rfl ?_
        refine E_pf rfl rfl ?_
        refine E_mv (v' := (.bool false)) (by kernel_rfl) ?_
        refine E_gm rfl ?_
        refine E_gm rfl ?_
        refine E_gm rfl ?_
        refine E_gm rfl ?_
        refine E_gm rfl ?_
        refine E_gm rfl ?_
        refine E_gm rfl ?_
        refine E_gm rfl ?_
        refine E_gm rfl ?_
        refine E_pf rfl rfl ?_
        refine E_mv (v' := (.bool false)) (by kernel_rfl) ?_
        refine E_nil ?_
        exact E_jx _ h (wk_rn [] rfl (Nat.le_of_ble_eq_true rfl) trivial ⟨(rn_b rfl), trivial⟩)
    · rw [ite_f hb] at h
      refine E_gm rfl ?_
      refine E_pf rfl rfl ?_
      refine E_mv (v' := (.bool false)) (by kernel_rfl) ?_
      refine E_gm rfl ?_
      refine E_gm rfl ?_
      refine E_gm rfl ?_
      refine E_gm rfl ?_
      refine E_pf rfl rfl ?_
      refine E_mv (v' := (.bool false)) (by kernel_rfl) ?_
      refine E_gm rfl ?_
      refine E_gm rfl ?_
      refine E_gm rfl ?_
      refine E_gm rfl ?_
      refine E_gm rfl ?_
      refine E_gm rfl ?_
      refine E_pf rfl rfl ?_
      refine E_mv (v' := (.bool false)) (by kernel_rfl) ?_
      refine E_gm rfl ?_
      refine E_gm rfl ?_
      refine E_gm rfl ?_
      refine E_gm rfl ?_
      refine E_gm rfl ?_
      refine E_gm rfl ?_
      refine E_gm rfl ?_
      refine E_pf rfl rfl ?_
      refine E_mv (v' := (.bool false)) (by kernel_rfl) ?_
      refine E_gm rfl ?_
      refine E_gm rfl ?_
      refine E_gm rfl ?_
      refine E_gm rfl ?_
      refine E_gm rfl ?_
      refine E_gm rfl ?_
      refine E_pf rfl rfl ?_
      refine E_mv (v' := (.bool false)) (by kernel_rfl) ?_
      refine E_gm rfl ?_
      refine E_gm rfl ?_
      refine E_gm rfl ?_
      refine E_gm rfl ?_
      refine E_gm rfl ?_
      refine E_gm rfl ?_
      refine E_gm rfl ?_
      refine E_pf rfl rfl ?_
      refine E_mv (v' := (.bool false)) (by kernel_rfl) ?_
      refine E_gm rfl ?_
      refine E_gm rfl ?_
      refine E_gm rfl ?_
      refine E_gm rfl ?_
      refine E_gm rfl ?_
      refine E_gm rfl ?_
      refine E_gm rfl ?_
      refine E_gm rfl ?_
      refine E_gm rfl ?_
      refine E_pf rfl rfl ?_
      refine E_mv (v' := (.bool false)) (by kernel_rfl) ?_
      refine E_nil ?_
      exact E_jx _ h (wk_rn [] rfl (Nat.le_of_ble_eq_true rfl) trivial ⟨(rn_b rfl), trivial⟩)
  · refine E_ret ?_
    cases h
    exact ⟨trivial, _, rfl, (fz_b rfl (.refl _))⟩
/- windlass/windlasslaw04.TextPrints -/
def fc5 : FC := (.seq (.reg [⟨(some 1), none, .op (.box (.t 0))⟩,
  ⟨(some 2), none, .op (.mv (.v (.bool false)))⟩] [])
  (.seq (.seq (.reg [⟨(some 11), none, .call 19 []⟩,
  ⟨(some 12), none, .op (.un .not (.t 11))⟩] [])
  (.cond (.t 12)
  (.seq (.reg [⟨(some 2), none, .op (.mv (.v (.bool false)))⟩] [])
  .ret)
  .skip))
  (.seq (.reg [⟨(some 13), none, .op (.load (some 1) (.t 1))⟩,
  ⟨(some 14), none, .call 23 [(.t 13)]⟩,
  ⟨(some 3), none, .op (.new [.nils])⟩,
  ⟨none, none, .op (.store 1 (.t 3) (.t 14))⟩] [])
  (.seq (.reg [⟨(some 16), none, .op (.load (some 1) (.t 1))⟩,
  ⟨(some 17), none, .call 24 [(.t 16)]⟩,
  ⟨(some 15), none, .op (.mv (.t 17))⟩,
  ⟨(some 18), none, .op (.ext 0 (.t 15))⟩,
  ⟨(some 19), none, .op (.ext 1 (.t 15))⟩,
  ⟨(some 4), none, .op (.mv (.t 18))⟩,
  ⟨(some 5), none, .op (.mv (.t 19))⟩] [])
  (.seq (.seq (.reg [⟨(some 20), none, .op (.load (some 1) (.t 1))⟩,
  ⟨(some 21), none, .op (.load (some 1) (.t 3))⟩,
  ⟨(some 22), none, .call 22 [(.t 20), (.t 21)]⟩,
  ⟨(some 23), none, .op (.un .not (.t 22))⟩] [])
  (.cond (.t 23)
  (.seq (.reg [⟨(some 2), none, .op (.mv (.v (.bool false)))⟩] [])
  .ret)
  .skip))
  (.seq (.seq (.reg [⟨(some 25), none, .op (.load (some 1) (.t 3))⟩,
  ⟨(some 26), none, .call 25 [(.t 25)]⟩,
  ⟨(some 24), none, .op (.mv (.t 26))⟩,
  ⟨(some 27), none, .op (.ext 0 (.t 24))⟩,
  ⟨(some 28), none, .op (.ext 1 (.t 24))⟩,
  ⟨(some 6), none, .op (.mv (.t 27))⟩,
  ⟨(some 7), none, .op (.mv (.t 28))⟩] [])
  (.seq (.reg [⟨(some 29), none, .op (.mv (.t 7))⟩,
  ⟨(some 30), none, .op (.un .not (.t 29))⟩] [])
  (.cond (.t 30)
  (.seq (.reg [⟨(some 31), none, .op (.mv (.t 4))⟩,
  ⟨(some 32), none, .op (.bin .none .eql (.t 31) (.v (.str (ByteArray.mk #[]))))⟩,
  ⟨(some 33), none, .op (.mv (.t 32))⟩,
  ⟨(some 34), some (33, true), .op (.mv (.t 5))⟩,
  ⟨(some 35), some (33, true), .op (.bin .none .eql (.t 34) (.v (.int .i64 30)))⟩,
  ⟨(some 36), none, .op (.pick (.t 33) (.t 35) (.v (.bool false)))⟩,
  ⟨(some 2), none, .op (.mv (.t 36))⟩] [])
  .ret)
  .skip)))
  (.seq (.reg [⟨(some 38), none, .op (.mv (.t 4))⟩,
  ⟨(some 39), none, .call 20 [(.t 38)]⟩,
  ⟨(some 37), none, .op (.mv (.t 39))⟩,
  ⟨(some 40), none, .op (.ext 0 (.t 37))⟩,
  ⟨(some 41), none, .op (.ext 1 (.t 37))⟩,
  ⟨(some 42), none, .op (.ext 2 (.t 37))⟩,
  ⟨(some 8), none, .op (.new [.nils])⟩,
  ⟨none, none, .op (.store 1 (.t 8) (.t 40))⟩,
  ⟨(some 9), none, .op (.mv (.t 41))⟩,
  ⟨(some 10), none, .op (.mv (.t 42))⟩] [])
  (.seq (.reg [⟨(some 43), none, .op (.mv (.t 5))⟩,
  ⟨(some 44), none, .op (.bin .none .eql (.t 43) (.v (.int .i64 0)))⟩,
  ⟨(some 45), none, .op (.mv (.t 44))⟩,
  ⟨(some 46), some (45, true), .op (.mv (.t 4))⟩,
  ⟨(some 47), some (45, true), .op (.load (some 1) (.t 3))⟩,
  ⟨(some 48), some (45, true), .call 26 [(.t 47)]⟩,
  ⟨(some 49), some (45, true), .op (.bin .none .eql (.t 46) (.t 48))⟩,
  ⟨(some 50), none, .op (.pick (.t 45) (.t 49) (.v (.bool false)))⟩,
  ⟨(some 51), none, .op (.mv (.t 50))⟩,
  ⟨(some 52), some (51, true), .op (.mv (.t 10))⟩,
  ⟨(some 53), some (51, true), .op (.bin .none .eql (.t 52) (.v (.int .i64 0)))⟩,
  ⟨(some 54), none, .op (.pick (.t 51) (.t 53) (.v (.bool false)))⟩,
  ⟨(some 55), none, .op (.mv (.t 54))⟩,
  ⟨(some 56), some (55, true), .op (.mv (.t 9))⟩,
  ⟨(some 57), some (55, true), .op (.bin .none .eql (.t 56) (.v (.int .i64 0)))⟩,
  ⟨(some 58), none, .op (.pick (.t 55) (.t 57) (.v (.bool false)))⟩,
  ⟨(some 59), none, .op (.mv (.t 58))⟩,
  ⟨(some 60), some (59, true), .op (.load (some 1) (.t 8))⟩,
  ⟨(some 61), some (59, true), .op (.load (some 1) (.t 3))⟩,
  ⟨(some 62), some (59, true), .call 22 [(.t 60), (.t 61)]⟩,
  ⟨(some 63), none, .op (.pick (.t 59) (.t 62) (.v (.bool false)))⟩,
  ⟨(some 2), none, .op (.mv (.t 63))⟩] [])
  .ret))))))))
theorem fn5 : Fn3 Tryd.prog 5 64 [(2, none)] fc5 := ⟨_, _, Tryd.func5, rfl, rfl, rfl, by kernel_rfl⟩
def windlasslaw04_TextPrints_s (fuel : Nat) (p_00 : Program) : Option Bool :=
  (windlasslaw04_first_s.bind fun fir_1 => (if (!fir_1) then (some false) else ((windlassref03_Copy_s p_00).bind fun cop_2 => ((text_Print_s p_00).bind fun pri_3 => ((windlassref03_Same_s p_00 cop_2).bind fun sam_4 => (if (!sam_4) then (some false) else ((windlassref03_Bytes_s fuel cop_2).bind fun byt_5 => (if (!byt_5.2) then (jp (fun (s_7 : Bool) => (some s_7)) (fun k_6 => (if (ByteArray.toList pri_3.1 == ByteArray.toList (ByteArray.mk #[])) then (k_6 (pri_3.2 == 30)) else (k_6 false)))) else ((text_Parse_s pri_3.1).bind fun par_8 => (jp (fun (s_10 : Bool) => (some s_10)) (fun k_9 => (if (pri_3.2 == 0) then ((windlassref04_Text_s fuel cop_2).bind fun tex_11 => (if (ByteArray.toList pri_3.1 == ByteArray.toList tex_11) then (if (par_8.2.2 == 0) then (if (par_8.2.1 == 0) then ((windlassref03_Same_s par_8.1 cop_2).bind fun sam_12 => (k_9 sam_12)) else (k_9 false)) else (k_9 false)) else (k_9 false))) else (k_9 false)))))))))))))
theorem windlasslaw04_TextPrints_ev {fuel : Nat} {p_00 : Program} {r : Bool} (h : windlasslaw04_TextPrints_s fuel p_00 = some r) : PureEv Tryd.prog 5 [(Program.av p_00)] (.bool r) := by
  unfold windlasslaw04_TextPrints_s at h
  refine PureEv_end mixed fn5 (by simp) [3, 8] 6 ?_
  unfold fc5
  refine E_sq ?_
  refine E_reg ?_
  refine E_op0 (v' := (.cptr (Program.av p_00).cells 0)) rfl rfl ?_
  refine E_mv (v' := (.bool false)) rfl ?_
  refine E_nil ?_
  refine E_nx ?_
  refine E_as ?_
  refine E_sq ?_
  refine E_reg ?_
  obtain ⟨fir_1, hfir_1, h⟩ := bd_some h
  refine E_callW (windlasslaw04_first_ev  hfir_1) rfl trivial (blwL_of trivial) rfl ?_
  refine E_op0 (v' := (.bool (!fir_1))) rfl rfl ?_
  refine E_nil ?_
  refine E_nx ?_
  refine E_sq ?_
  refine E_cs (t := (!fir_1)) rfl (fun hb => ?_) (fun hb => ?_)
  · rw [ite_t hb] at h
    refine E_sq ?_
    refine E_reg ?_
    refine E_mv (v' := (.bool false)) rfl ?_
    refine E_nil ?_
    refine E_nx ?_
    refine E_ret ?_
    refine E_thr ?_
    cases h
    exact ⟨trivial, _, rfl, (fz_b rfl (.refl _))⟩
  · rw [ite_f hb] at h
    refine E_skip ?_
    refine E_nx ?_
    refine E_sq ?_
    refine E_reg ?_
    refine E_op0 (v' := (Program.av p_00)) rfl rfl ?_
    obtain ⟨cop_2, hcop_2, h⟩ := bd_some h
    refine E_callW (windlassref03_Copy_ev  hcop_2) rfl ⟨(.refl _), trivial⟩ (blwL_of ⟨(Program.enc.blw _ 0), trivial⟩) (Program.enc.blw _ 0) ?_
    refine E_op (v' := .ptr 0 0 0) (S' := [.arr 0 [.nils]]) rfl rfl rfl ?_
    refine E_do (S' := [.arr 0 [(.sl false 5 (List.map Func.av cop_2.Funcs))]]) rfl rfl ?_
    refine E_nil ?_
    refine E_nx ?_
    refine E_sq ?_
    refine E_reg ?_
    refine E_op0 (v' := (Program.av p_00)) rfl rfl ?_
    obtain ⟨pri_3, hpri_3, h⟩ := bd_some h
    refine E_callW (text_Print_ev  hpri_3) rfl ⟨(.refl _), trivial⟩ (blwL_of ⟨(Program.enc.blw _ 0), trivial⟩) (tup_blw ⟨rfl, rfl, trivial⟩) ?_
    refine E_mv (v' := (.tup [(.str pri_3.1), (.int .i64 pri_3.2)])) rfl ?_
    refine E_op0 (v' := (.str pri_3.1)) rfl rfl ?_
    refine E_op0 (v' := (.int .i64 pri_3.2)) rfl rfl ?_
    refine E_mv (v' := (.str pri_3.1)) rfl ?_
    refine E_mv (v' := (.int .i64 pri_3.2)) rfl ?_
    refine E_nil ?_
    refine E_nx ?_
    refine E_as ?_
    refine E_sq ?_
    refine E_reg ?_
    refine E_op0 (v' := (Program.av p_00)) rfl rfl ?_
    refine E_opw (v' := (Program.av cop_2)) rfl (.aggL ⟨(.refl _), trivial⟩) rfl ?_
    obtain ⟨sam_4, hsam_4, h⟩ := bd_some h
    refine E_callW (windlassref03_Same_ev  hsam_4) rfl ⟨(.refl _), (.refl _), trivial⟩ (blwL_of ⟨(Program.enc.blw _ 0), (Program.enc.blw _ 0), trivial⟩) rfl ?_
    refine E_op0 (v' := (.bool (!sam_4))) rfl rfl ?_
    refine E_nil ?_
    refine E_nx ?_
    refine E_sq ?_
    refine E_cs (t := (!sam_4)) rfl (fun hb => ?_) (fun hb => ?_)
    · rw [ite_t hb] at h
      refine E_sq ?_
      refine E_reg ?_
      refine E_mv (v' := (.bool false)) rfl ?_
      refine E_nil ?_
      refine E_nx ?_
      refine E_ret ?_
      refine E_thr ?_
      cases h
      exact ⟨trivial, _, rfl, (fz_b rfl (.refl _))⟩
    · rw [ite_f hb] at h
      refine E_skip ?_
      refine E_nx ?_
      refine E_as ?_
      refine E_sq ?_
      refine E_reg ?_
      refine E_opw (v' := (Program.av cop_2)) rfl (.aggL ⟨(.refl _), trivial⟩) rfl ?_
      obtain ⟨byt_5, hbyt_5, h⟩ := bd_some h
      refine E_callW (windlassref03_Bytes_ev (fuel := fuel)  hbyt_5) rfl ⟨(.refl _), trivial⟩ (blwL_of ⟨(Program.enc.blw _ 0), trivial⟩) (tup_blw ⟨((encI .u8).blws 0), rfl, trivial⟩) ?_
      refine E_mv (v' := (.tup [(.sl false 1 (List.map (avI .u8) byt_5.1)), (.bool byt_5.2)])) rfl ?_
      refine E_op0 (v' := (.sl false 1 (List.map (avI .u8) byt_5.1))) rfl rfl ?_
      refine E_op0 (v' := (.bool byt_5.2)) rfl rfl ?_
      refine E_mv (v' := (.sl false 1 (List.map (avI .u8) byt_5.1))) rfl ?_
      refine E_mv (v' := (.bool byt_5.2)) rfl ?_
      refine E_nil ?_
      refine E_nx ?_
      refine E_as ?_
      refine E_sq ?_
      refine E_reg ?_
      refine E_mv (v' := (.bool byt_5.2)) rfl ?_
      refine E_op0 (v' := (.bool (!byt_5.2))) rfl rfl ?_
      refine E_nil ?_
      refine E_nx ?_
      refine E_sq ?_
      refine E_cs (t := (!byt_5.2)) rfl (fun hb => ?_) (fun hb => ?_)
      · rw [ite_t hb] at h
        refine E_jp h (fun s_7 => [(2, (.bool s_7))]) (fun s_7 => []) (fun k_6 h => ?_) (fun s_7 h => ?_)
        · refine E_reg ?_
          refine E_mv (v' := (.str pri_3.1)) rfl ?_
          refine E_op0 (v' := (.bool (ByteArray.toList pri_3.1 == ByteArray.toList (ByteArray.mk #[])))) rfl rfl ?_
          refine E_mv (v' := (.bool (ByteArray.toList pri_3.1 == ByteArray.toList (ByteArray.mk #[])))) rfl ?_
          refine E_gsT (b := (ByteArray.toList pri_3.1 == ByteArray.toList (ByteArray.mk #[]))) rfl rfl rfl (fun hb => ?_) (fun hb => ?_)
          · rw [ite_t hb] at h
            refine E_mv (v' := (.int .i64 pri_3.2)) rfl ?_
            refine E_gh rfl ?_
            refine E_op0 (v' := (.bool (pri_3.2 == 30))) rfl rfl ?_
            refine E_pt rfl rfl ?_
            refine E_mv (v' := (.bool (pri_3.2 == 30))) rfl ?_
            refine E_nil ?_
            exact E_jx _ h (wk_rn [] rfl (Nat.le_of_ble_eq_true rfl) trivial ⟨(rn_b rfl), trivial⟩)
          · rw [ite_f hb] at h
            refine E_gm rfl ?_
            refine E_pf rfl rfl ?_
            refine E_mv (v' := (.bool false)) rfl ?_
            refine E_nil ?_
            exact E_jx _ h (wk_rn [] rfl (Nat.le_of_ble_eq_true rfl) trivial ⟨(rn_b rfl), trivial⟩)
        · refine E_ret ?_
          refine E_thr ?_
          cases h
          exact ⟨trivial, _, rfl, (fz_b rfl (.refl _))⟩
      · rw [ite_f hb] at h
        refine E_skip ?_
        refine E_nx ?_
        refine E_sq ?_
        refine E_reg ?_
        refine E_mv (v' := (.str pri_3.1)) rfl ?_
        obtain ⟨par_8, hpar_8, h⟩ := bd_some h
        refine E_callW (text_Parse_ev  hpar_8) rfl ⟨(.refl _), trivial⟩ (blwL_of ⟨rfl, trivial⟩) (tup_blw ⟨(Program.enc.blw _ 0), rfl, rfl, trivial⟩) ?_
        refine E_mv (v' := (.tup [(Program.av par_8.1), (.int .i64 par_8.2.1), (.int .i64 par_8.2.2)])) rfl ?_
        refine E_op0 (v' := (Program.av par_8.1)) rfl rfl ?_
        refine E_op0 (v' := (.int .i64 par_8.2.1)) rfl rfl ?_
        refine E_op0 (v' := (.int .i64 par_8.2.2)) rfl rfl ?_
        refine E_op (v' := .ptr 1 0 0) (S' := [.arr 0 [(.sl false 5 (List.map Func.av cop_2.Funcs))], .arr 0 [.nils]]) rfl rfl rfl ?_
        refine E_do (S' := [.arr 0 [(.sl false 5 (List.map Func.av cop_2.Funcs))], .arr 0 [(.sl false 5 (List.map Func.av par_8.1.Funcs))]]) rfl rfl ?_
        refine E_mv (v' := (.int .i64 par_8.2.1)) rfl ?_
        refine E_mv (v' := (.int .i64 par_8.2.2)) rfl ?_
        refine E_nil ?_
        refine E_nx ?_
        refine E_jp h (fun s_10 => [(2, (.bool s_10))]) (fun s_10 => []) (fun k_9 h => ?_) (fun s_10 h => ?_)
        · refine E_reg ?_
          refine E_mv (v' := (.int .i64 pri_3.2)) rfl ?_
          refine E_op0 (v' := (.bool (pri_3.2 == 0))) rfl rfl ?_
          refine E_mv (v' := (.bool (pri_3.2 == 0))) rfl ?_
          refine E_gsT (b := (pri_3.2 == 0)) rfl rfl rfl (fun hb => ?_) (fun hb => ?_)
          · rw [ite_t hb] at h
            refine E_mv (v' := (.str pri_3.1)) rfl ?_
            refine E_gh rfl ?_
            refine E_opw (v' := (Program.av cop_2)) rfl (.aggL ⟨(.refl _), trivial⟩) rfl ?_
            refine E_gh rfl ?_
            obtain ⟨tex_11, htex_11, h⟩ := bd_some h
            refine E_callW (windlassref04_Text_ev (fuel := fuel)  htex_11) rfl ⟨(.refl _), trivial⟩ (blwL_of ⟨(Program.enc.blw _ 0), trivial⟩) rfl ?_
            refine E_gh rfl ?_
            refine E_op0 (v' := (.bool (ByteArray.toList pri_3.1 == ByteArray.toList tex_11))) rfl rfl ?_
            refine E_pt rfl rfl ?_
            refine E_mv (v' := (.bool (ByteArray.toList pri_3.1 == ByteArray.toList tex_11))) rfl ?_
            refine E_gsT (b := (ByteArray.toList pri_3.1 == ByteArray.toList tex_11)) rfl rfl rfl (fun hb => ?_) (fun hb => ?_)
            · rw [ite_t hb] at h
              refine E_mv (v' := (.int .i64 par_8.2.2)) rfl ?_
              refine E_gh rfl ?_
              refine E_op0 (v' := (.bool (par_8.2.2 == 0))) rfl rfl ?_
              refine E_pt rfl rfl ?_
              refine E_mv (v' := (.bool (par_8.2.2 == 0))) rfl ?_
              refine E_gsT (b := (par_8.2.2 == 0)) rfl rfl rfl (fun hb => ?_) (fun hb => ?_)
              · rw [ite_t hb] at h
                refine E_mv (v' := (.int .i64 par_8.2.1)) rfl ?_
                refine E_gh rfl ?_
                refine E_op0 (v' := (.bool (par_8.2.1 == 0))) rfl rfl ?_
                refine E_pt rfl rfl ?_
                refine E_mv (v' := (.bool (par_8.2.1 == 0))) rfl ?_
                refine E_gsT (b := (par_8.2.1 == 0)) rfl rfl rfl (fun hb => ?_) (fun hb => ?_)
                · rw [ite_t hb] at h
                  refine E_opw (v' := (Program.av par_8.1)) rfl (.aggL ⟨(.refl _), trivial⟩) rfl ?_
                  refine E_gh rfl ?_
                  refine E_opw (v' := (Program.av cop_2)) rfl (.aggL ⟨(.refl _), trivial⟩) rfl ?_
                  refine E_gh rfl ?_
                  obtain ⟨sam_12, hsam_12, h⟩ := bd_some h
                  refine E_callW (windlassref03_Same_ev  hsam_12) rfl ⟨(.refl _), (.refl _), trivial⟩ (blwL_of ⟨(Program.enc.blw _ 0), (Program.enc.blw _ 0), trivial⟩) rfl ?_
                  refine E_pt rfl rfl ?_
                  refine E_mv (v' := (.bool sam_12)) rfl ?_
                  refine E_nil ?_
                  exact E_jx _ h (wk_rn [] rfl (Nat.le_of_ble_eq_true rfl) trivial ⟨(rn_b rfl), trivial⟩)
                · rw [ite_f hb] at h
                  refine E_gm rfl ?_
                  refine E_gm rfl ?_
                  refine E_pf rfl rfl ?_
                  refine E_mv (v' := (.bool false)) rfl ?_
                  refine E_nil ?_
                  exact E_jx _ h (wk_rn [] rfl (Nat.le_of_ble_eq_true rfl) trivial ⟨(rn_b rfl), trivial⟩)
              · rw [ite_f hb] at h
                refine E_gm rfl ?_
                refine E_pf rfl rfl ?_
                refine E_mv (v' := (.bool false)) rfl ?_
                refine E_gm rfl ?_
                refine E_gm rfl ?_
                refine E_gm rfl ?_
                refine E_pf rfl rfl ?_
                refine E_mv (v' := (.bool false)) rfl ?_
                refine E_nil ?_
                exact E_jx _ h (wk_rn [] rfl (Nat.le_of_ble_eq_true rfl) trivial ⟨(rn_b rfl), trivial⟩)
            · rw [ite_f hb] at h
              refine E_gm rfl ?_
              refine E_pf rfl rfl ?_
              refine E_mv (v' := (.bool false)) rfl ?_
              refine E_gm rfl ?_
              refine E_gm rfl ?_
              refine E_pf rfl rfl ?_
              refine E_mv (v' := (.bool false)) rfl ?_
              refine E_gm rfl ?_
              refine E_gm rfl ?_
              refine E_gm rfl ?_
              refine E_pf rfl rfl ?_
              refine E_mv (v' := (.bool false)) rfl ?_
              refine E_nil ?_
              exact E_jx _ h (wk_rn [] rfl (Nat.le_of_ble_eq_true rfl) trivial ⟨(rn_b rfl), trivial⟩)
          · rw [ite_f hb] at h
            refine E_gm rfl ?_
            refine E_gm rfl ?_
            refine E_gm rfl ?_
            refine E_pf rfl rfl ?_
            refine E_mv (v' := (.bool false)) rfl ?_
            refine E_gm rfl ?_
            refine E_gm rfl ?_
            refine E_pf rfl rfl ?_
            refine E_mv (v' := (.bool false)) rfl ?_
            refine E_gm rfl ?_
            refine E_gm rfl ?_
            refine E_pf rfl rfl ?_
            refine E_mv (v' := (.bool false)) rfl ?_
            refine E_gm rfl ?_
            refine E_gm rfl ?_
            refine E_gm rfl ?_
            refine E_pf rfl rfl ?_
            refine E_mv (v' := (.bool false)) rfl ?_
            refine E_nil ?_
            exact E_jx _ h (wk_rn [] rfl (Nat.le_of_ble_eq_true rfl) trivial ⟨(rn_b rfl), trivial⟩)
        · refine E_ret ?_
          cases h
          exact ⟨trivial, _, rfl, (fz_b rfl (.refl _))⟩
end Go.Proofs.YtkfhljombjmdbaaDoor
