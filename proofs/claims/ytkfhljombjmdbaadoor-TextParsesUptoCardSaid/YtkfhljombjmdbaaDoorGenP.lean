/- What the functions compute, and that they do (printed by wip/gen/gen.py), part 2. -/
import Derived.Test.YtkfhljombjmdbaaDoorGenPa
namespace Go.Proofs.YtkfhljombjmdbaaDoor
open Go Go.Ab
set_option maxRecDepth 20000
set_option maxHeartbeats 2000000
set_option linter.unusedVariables false
set_option linter.unusedSimpArgs false
def windlassref03_Same_s (a_00 : Program) (b_01 : Program) : Option Bool :=
  (if ((List.length a_00.Funcs : Int) != (List.length b_01.Funcs : Int)) then (some false) else ((rni (fun (i_2 : Nat) (s_1 : Program) => (((getI a_00.Funcs (i_2 : Int)).bind fun y_3 => ((getI s_1.Funcs (i_2 : Int)).bind fun y_4 => (jp (fun (s_6 : Bool) => (if s_6 then (some (.ret (some false))) else ((rni (fun (i_8 : Nat) (s_7 : Unit) => (((getI y_3.Locals (i_8 : Int)).bind fun y_9 => ((getI y_4.Locals (i_8 : Int)).bind fun y_10 => (if (y_9 != y_10) then (some (.ret (some (.ret (some false))))) else (some (.nxt ()))))) : Option (Stp Unit (Option (Stp Program (Option Bool)))))) (List.length y_3.Locals : Int) ()).bind (oc (fun (s_7 : Unit) => ((rni (fun (i_12 : Nat) (s_11 : Unit) => (((getI y_3.Code (i_12 : Int)).bind fun y_13 => ((getI y_4.Code (i_12 : Int)).bind fun y_14 => (if (!((y_13.Op == y_14.Op) && ((y_13.Arg == y_14.Arg) && ((y_13.Imm == y_14.Imm) && true)))) then (some (.ret (some (.ret (some false))))) else (some (.nxt ()))))) : Option (Stp Unit (Option (Stp Program (Option Bool)))))) (List.length y_3.Code : Int) ()).bind (oc (fun (s_11 : Unit) => (some (.nxt s_1)))))))))) (fun k_5 => (if (y_3.Params != y_4.Params) then (k_5 true) else (if (!(y_3.Result == y_4.Result)) then (k_5 true) else (if (y_3.Keep != y_4.Keep) then (k_5 true) else (if ((List.length y_3.Locals : Int) != (List.length y_4.Locals : Int)) then (k_5 true) else (k_5 ((List.length y_3.Code : Int) != (List.length y_4.Code : Int))))))))))) : Option (Stp Program (Option Bool)))) (List.length a_00.Funcs : Int) b_01).bind (oc (fun (s_1 : Program) => (some true)))))
theorem windlassref03_Same_ev {a_00 : Program} {b_01 : Program} {r : Bool} (h : windlassref03_Same_s a_00 b_01 = some r) : PureEv Tryd.prog 22 [(Program.av a_00), (Program.av b_01)] (.bool r) := by
  unfold windlassref03_Same_s at h
  refine PureEv_end mixed fn22 (by simp) [6, 7] 6 ?_
  unfold fc22
  refine E_sq ?_
  refine E_reg ?_
  refine E_op0 (v' := (.cptr (Program.av a_00).cells 0)) rfl rfl ?_
  refine E_op0 (v' := (.cptr (Program.av b_01).cells 0)) rfl rfl ?_
  refine E_mv (v' := (.bool false)) rfl ?_
  refine E_nil ?_
  refine E_nx ?_
  refine E_as ?_
  refine E_sq ?_
  refine E_reg ?_
  refine E_op0 (v' := (.cptr (Program.av a_00).cells 0)) rfl rfl ?_
  refine E_op0 (v' := (.sl false 5 (List.map Func.av a_00.Funcs))) rfl rfl ?_
  refine E_len rfl ?_
  refine E_op0 (v' := (.cptr (Program.av b_01).cells 0)) rfl rfl ?_
  refine E_op0 (v' := (.sl false 5 (List.map Func.av b_01.Funcs))) rfl rfl ?_
  refine E_len rfl ?_
  refine E_op0 (v' := (.bool ((List.length a_00.Funcs : Int) != (List.length b_01.Funcs : Int)))) rfl rfl ?_
  refine E_nil ?_
  refine E_nx ?_
  refine E_sq ?_
  refine E_cs (t := ((List.length a_00.Funcs : Int) != (List.length b_01.Funcs : Int))) rfl (fun hb => ?_) (fun hb => ?_)
  · rw [ite_t hb] at h
    refine E_sq ?_
    refine E_reg ?_
    refine E_mv (v' := (.bool false)) rfl ?_
    refine E_nil ?_
    refine E_nx ?_
    refine E_ret ?_
    refine E_thr ?_
    cases h
    exact ⟨trivial, _, rfl, (fz_b rfl (.refl _))⟩
  · rw [ite_f hb] at h
    refine E_skip ?_
    refine E_nx ?_
    refine E_as ?_
    refine E_sq ?_
    refine E_reg ?_
    refine E_op0 (v' := (.cptr (Program.av a_00).cells 0)) rfl rfl ?_
    refine E_op0 (v' := (.sl false 5 (List.map Func.av a_00.Funcs))) rfl rfl ?_
    refine E_len rfl ?_
    refine E_mv (v' := (.int .i64 0)) rfl ?_
    refine E_nil ?_
    refine E_nx ?_
    refine E_sq ?_
    refine E_rniO (fun s_1 => [(2, (.cptr (Program.av a_00).cells 0)), (3, (.cptr (Program.av s_1).cells 0))]) (fun s_1 => []) h (by decide) (by decide) (fun _ => ⟨rfl, rfl, rfl, rfl⟩) (wk_aw ⟨(.refl _), (.refl _), (.refl _), (.refl _), trivial⟩) (fun i_2 s_1 c hlt h => ?_) (fun s_1 fr' S' h hw => ?_)
    · refine E_sq ?_
      refine E_reg ?_
      refine E_mv (v' := (.int .i64 (i_2 : Int))) rfl ?_
      refine E_mv (v' := (.int .i64 (i_2 : Int))) rfl ?_
      refine E_nil ?_
      refine E_nx ?_
      refine E_sq ?_
      refine E_regp ?_
      refine E_op0 (v' := (.cptr (Program.av a_00).cells 0)) rfl rfl ?_
      refine E_op0 (v' := (.sl false 5 (List.map Func.av a_00.Funcs))) rfl rfl ?_
      refine E_mv (v' := (.int .i64 (i_2 : Int))) rfl ?_
      obtain ⟨y_3, hy_3, h⟩ := bd_some h
      refine E_iadF rfl rfl hy_3 ?_
      refine E_op0 (v' := (Func.av y_3)) rfl rfl ?_
      refine E_op0 (v' := (.cptr (Program.av s_1).cells 0)) rfl rfl ?_
      refine E_op0 (v' := (.sl false 5 (List.map Func.av s_1.Funcs))) rfl rfl ?_
      refine E_mv (v' := (.int .i64 (i_2 : Int))) rfl ?_
      obtain ⟨y_4, hy_4, h⟩ := bd_some h
      refine E_iadF rfl rfl hy_4 ?_
      refine E_op0 (v' := (Func.av y_4)) rfl rfl ?_
      refine E_op (v' := .ptr 0 0 0) (S' := [.arr 0 [(.int .i64 0), .nils, (.bool false), (.int .i64 0), .nils]]) rfl rfl rfl ?_
      refine E_op (v' := .ptr 1 0 0) (S' := [.arr 0 [(.int .i64 0), .nils, (.bool false), (.int .i64 0), .nils], .arr 0 [(.int .i64 0), .nils, (.bool false), (.int .i64 0), .nils]]) rfl rfl rfl ?_
      refine E_do (S' := [.arr 0 [(.int .i64 y_3.Params), (.sl false 1 (List.map (avI .u8) y_3.Locals)), (.bool y_3.Result), (.int .i64 y_3.Keep), (.sl false 3 (List.map Instr.av y_3.Code))], .arr 0 [(.int .i64 0), .nils, (.bool false), (.int .i64 0), .nils]]) rfl rfl ?_
      refine E_do (S' := [.arr 0 [(.int .i64 y_3.Params), (.sl false 1 (List.map (avI .u8) y_3.Locals)), (.bool y_3.Result), (.int .i64 y_3.Keep), (.sl false 3 (List.map Instr.av y_3.Code))], .arr 0 [(.int .i64 y_4.Params), (.sl false 1 (List.map (avI .u8) y_4.Locals)), (.bool y_4.Result), (.int .i64 y_4.Keep), (.sl false 3 (List.map Instr.av y_4.Code))]]) rfl rfl ?_
      refine E_nil ?_
      refine And.intro (by simp [okLog, nthL, okPair, hp, fpOf]) ?_
      refine E_nx ?_
      refine E_as ?_
      refine E_jp h (fun s_6 => [(2, (.cptr (Program.av a_00).cells 0)), (3, (.cptr (Program.av s_1).cells 0)), (6, (.ptr 0 0 0)), (7, (.ptr 1 0 0)), (19, (.int .i64 (List.length a_00.Funcs : Int))), (20, (.int .i64 (i_2 : Int))), (69, (.bool s_6))]) (fun s_6 => [.arr 0 [(.int .i64 y_3.Params), (.sl false 1 (List.map (avI .u8) y_3.Locals)), (.bool y_3.Result), (.int .i64 y_3.Keep), (.sl false 3 (List.map Instr.av y_3.Code))], .arr 0 [(.int .i64 y_4.Params), (.sl false 1 (List.map (avI .u8) y_4.Locals)), (.bool y_4.Result), (.int .i64 y_4.Keep), (.sl false 3 (List.map Instr.av y_4.Code))]]) (fun k_5 h => ?_) (fun s_6 h => ?_)
      · refine E_reg ?_
        refine E_op0 (v' := (.ptr 0 0 0)) rfl rfl ?_
        refine E_op (v' := (.int .i64 y_3.Params)) (S' := [.arr 0 [(.int .i64 y_3.Params), (.sl false 1 (List.map (avI .u8) y_3.Locals)), (.bool y_3.Result), (.int .i64 y_3.Keep), (.sl false 3 (List.map Instr.av y_3.Code))], .arr 0 [(.int .i64 y_4.Params), (.sl false 1 (List.map (avI .u8) y_4.Locals)), (.bool y_4.Result), (.int .i64 y_4.Keep), (.sl false 3 (List.map Instr.av y_4.Code))]]) rfl rfl rfl ?_
        refine E_op0 (v' := (.ptr 1 0 0)) rfl rfl ?_
        refine E_op (v' := (.int .i64 y_4.Params)) (S' := [.arr 0 [(.int .i64 y_3.Params), (.sl false 1 (List.map (avI .u8) y_3.Locals)), (.bool y_3.Result), (.int .i64 y_3.Keep), (.sl false 3 (List.map Instr.av y_3.Code))], .arr 0 [(.int .i64 y_4.Params), (.sl false 1 (List.map (avI .u8) y_4.Locals)), (.bool y_4.Result), (.int .i64 y_4.Keep), (.sl false 3 (List.map Instr.av y_4.Code))]]) rfl rfl rfl ?_
        refine E_op0 (v' := (.bool (y_3.Params != y_4.Params))) rfl rfl ?_
        refine E_mv (v' := (.bool (y_3.Params != y_4.Params))) rfl ?_
        refine E_gsT (b := (y_3.Params != y_4.Params)) rfl rfl rfl (fun hb => ?_) (fun hb => ?_)
        · rw [ite_f hb] at h
          refine E_op0 (v' := (.ptr 0 0 2)) rfl rfl ?_
          refine E_gh rfl ?_
          refine E_op (v' := (.bool y_3.Result)) (S' := [.arr 0 [(.int .i64 y_3.Params), (.sl false 1 (List.map (avI .u8) y_3.Locals)), (.bool y_3.Result), (.int .i64 y_3.Keep), (.sl false 3 (List.map Instr.av y_3.Code))], .arr 0 [(.int .i64 y_4.Params), (.sl false 1 (List.map (avI .u8) y_4.Locals)), (.bool y_4.Result), (.int .i64 y_4.Keep), (.sl false 3 (List.map Instr.av y_4.Code))]]) rfl rfl rfl ?_
          refine E_gh rfl ?_
          refine E_op0 (v' := (.ptr 1 0 2)) rfl rfl ?_
          refine E_gh rfl ?_
          refine E_op (v' := (.bool y_4.Result)) (S' := [.arr 0 [(.int .i64 y_3.Params), (.sl false 1 (List.map (avI .u8) y_3.Locals)), (.bool y_3.Result), (.int .i64 y_3.Keep), (.sl false 3 (List.map Instr.av y_3.Code))], .arr 0 [(.int .i64 y_4.Params), (.sl false 1 (List.map (avI .u8) y_4.Locals)), (.bool y_4.Result), (.int .i64 y_4.Keep), (.sl false 3 (List.map Instr.av y_4.Code))]]) rfl rfl rfl ?_
          refine E_gh rfl ?_
          refine E_op0 (v' := (.bool (!(y_3.Result == y_4.Result)))) rfl rfl ?_
          refine E_pf rfl rfl ?_
          refine E_mv (v' := (.bool (!(y_3.Result == y_4.Result)))) rfl ?_
          refine E_gsT (b := (!(y_3.Result == y_4.Result))) rfl rfl rfl (fun hb => ?_) (fun hb => ?_)
          · rw [ite_f hb] at h
            refine E_op0 (v' := (.ptr 0 0 3)) rfl rfl ?_
            refine E_gh rfl ?_
            refine E_op (v' := (.int .i64 y_3.Keep)) (S' := [.arr 0 [(.int .i64 y_3.Params), (.sl false 1 (List.map (avI .u8) y_3.Locals)), (.bool y_3.Result), (.int .i64 y_3.Keep), (.sl false 3 (List.map Instr.av y_3.Code))], .arr 0 [(.int .i64 y_4.Params), (.sl false 1 (List.map (avI .u8) y_4.Locals)), (.bool y_4.Result), (.int .i64 y_4.Keep), (.sl false 3 (List.map Instr.av y_4.Code))]]) rfl rfl rfl ?_
            refine E_gh rfl ?_
            refine E_op0 (v' := (.ptr 1 0 3)) rfl rfl ?_
            refine E_gh rfl ?_
            refine E_op (v' := (.int .i64 y_4.Keep)) (S' := [.arr 0 [(.int .i64 y_3.Params), (.sl false 1 (List.map (avI .u8) y_3.Locals)), (.bool y_3.Result), (.int .i64 y_3.Keep), (.sl false 3 (List.map Instr.av y_3.Code))], .arr 0 [(.int .i64 y_4.Params), (.sl false 1 (List.map (avI .u8) y_4.Locals)), (.bool y_4.Result), (.int .i64 y_4.Keep), (.sl false 3 (List.map Instr.av y_4.Code))]]) rfl rfl rfl ?_
            refine E_gh rfl ?_
            refine E_op0 (v' := (.bool (y_3.Keep != y_4.Keep))) rfl rfl ?_
            refine E_pf rfl rfl ?_
            refine E_mv (v' := (.bool (y_3.Keep != y_4.Keep))) rfl ?_
            refine E_gsT (b := (y_3.Keep != y_4.Keep)) rfl rfl rfl (fun hb => ?_) (fun hb => ?_)
            · rw [ite_f hb] at h
              refine E_op0 (v' := (.ptr 0 0 1)) rfl rfl ?_
              refine E_gh rfl ?_
              refine E_op (v' := (.sl false 1 (List.map (avI .u8) y_3.Locals))) (S' := [.arr 0 [(.int .i64 y_3.Params), (.sl false 1 (List.map (avI .u8) y_3.Locals)), (.bool y_3.Result), (.int .i64 y_3.Keep), (.sl false 3 (List.map Instr.av y_3.Code))], .arr 0 [(.int .i64 y_4.Params), (.sl false 1 (List.map (avI .u8) y_4.Locals)), (.bool y_4.Result), (.int .i64 y_4.Keep), (.sl false 3 (List.map Instr.av y_4.Code))]]) rfl rfl rfl ?_
              refine E_gh rfl ?_
              refine E_len rfl ?_
              refine E_gh rfl ?_
              refine E_op0 (v' := (.ptr 1 0 1)) rfl rfl ?_
              refine E_gh rfl ?_
              refine E_op (v' := (.sl false 1 (List.map (avI .u8) y_4.Locals))) (S' := [.arr 0 [(.int .i64 y_3.Params), (.sl false 1 (List.map (avI .u8) y_3.Locals)), (.bool y_3.Result), (.int .i64 y_3.Keep), (.sl false 3 (List.map Instr.av y_3.Code))], .arr 0 [(.int .i64 y_4.Params), (.sl false 1 (List.map (avI .u8) y_4.Locals)), (.bool y_4.Result), (.int .i64 y_4.Keep), (.sl false 3 (List.map Instr.av y_4.Code))]]) rfl rfl rfl ?_
              refine E_gh rfl ?_
              refine E_len rfl ?_
              refine E_gh rfl ?_
              refine E_op0 (v' := (.bool ((List.length y_3.Locals : Int) != (List.length y_4.Locals : Int)))) rfl rfl ?_
              refine E_pf rfl rfl ?_
              refine E_mv (v' := (.bool ((List.length y_3.Locals : Int) != (List.length y_4.Locals : Int)))) rfl ?_
              refine E_gsT (b := ((List.length y_3.Locals : Int) != (List.length y_4.Locals : Int))) rfl rfl rfl (fun hb => ?_) (fun hb => ?_)
              · rw [ite_f hb] at h
                refine E_op0 (v' := (.ptr 0 0 4)) rfl rfl ?_
                refine E_gh rfl ?_
                refine E_op (v' := (.sl false 3 (List.map Instr.av y_3.Code))) (S' := [.arr 0 [(.int .i64 y_3.Params), (.sl false 1 (List.map (avI .u8) y_3.Locals)), (.bool y_3.Result), (.int .i64 y_3.Keep), (.sl false 3 (List.map Instr.av y_3.Code))], .arr 0 [(.int .i64 y_4.Params), (.sl false 1 (List.map (avI .u8) y_4.Locals)), (.bool y_4.Result), (.int .i64 y_4.Keep), (.sl false 3 (List.map Instr.av y_4.Code))]]) rfl rfl rfl ?_
                refine E_gh rfl ?_
                refine E_len rfl ?_
                refine E_gh rfl ?_
                refine E_op0 (v' := (.ptr 1 0 4)) rfl rfl ?_
                refine E_gh rfl ?_
                refine E_op (v' := (.sl false 3 (List.map Instr.av y_4.Code))) (S' := [.arr 0 [(.int .i64 y_3.Params), (.sl false 1 (List.map (avI .u8) y_3.Locals)), (.bool y_3.Result), (.int .i64 y_3.Keep), (.sl false 3 (List.map Instr.av y_3.Code))], .arr 0 [(.int .i64 y_4.Params), (.sl false 1 (List.map (avI .u8) y_4.Locals)), (.bool y_4.Result), (.int .i64 y_4.Keep), (.sl false 3 (List.map Instr.av y_4.Code))]]) rfl rfl rfl ?_
                refine E_gh rfl ?_
                refine E_len rfl ?_
                refine E_gh rfl ?_
                refine E_op0 (v' := (.bool ((List.length y_3.Code : Int) != (List.length y_4.Code : Int)))) rfl rfl ?_
                refine E_pf rfl rfl ?_
                refine E_nil ?_
                exact E_jx _ h (wk_rn [some (0, 0), some (1, 0)] rfl (Nat.le_of_ble_eq_true rfl) ⟨(rn_ob rfl rfl (.cons (rn_b rfl) (.cons (rn_b ((encI .u8).blws 0)) (.cons (rn_b rfl) (.cons (rn_b rfl) (.cons (rn_b (Instr.enc.blws 0)) (.nil (Nat.zero_le _))))))) rfl), (rn_ob rfl rfl (.cons (rn_b rfl) (.cons (rn_b ((encI .u8).blws 0)) (.cons (rn_b rfl) (.cons (rn_b rfl) (.cons (rn_b (Instr.enc.blws 0)) (.nil (Nat.zero_le _))))))) rfl), trivial⟩ ⟨(rn_b (cp_blw (Program.enc.blw _ 0))), (rn_b (cp_blw (Program.enc.blw _ 0))), (rn_ptr rfl rfl rfl rfl), (rn_ptr rfl rfl rfl rfl), (rn_b rfl), (rn_b rfl), (rn_b rfl), trivial⟩)
              · rw [ite_t hb] at h
                refine E_gm rfl ?_
                refine E_gm rfl ?_
                refine E_gm rfl ?_
                refine E_gm rfl ?_
                refine E_gm rfl ?_
                refine E_gm rfl ?_
                refine E_pt rfl rfl ?_
                refine E_nil ?_
                exact E_jx _ h (wk_rn [some (0, 0), some (1, 0)] rfl (Nat.le_of_ble_eq_true rfl) ⟨(rn_ob rfl rfl (.cons (rn_b rfl) (.cons (rn_b ((encI .u8).blws 0)) (.cons (rn_b rfl) (.cons (rn_b rfl) (.cons (rn_b (Instr.enc.blws 0)) (.nil (Nat.zero_le _))))))) rfl), (rn_ob rfl rfl (.cons (rn_b rfl) (.cons (rn_b ((encI .u8).blws 0)) (.cons (rn_b rfl) (.cons (rn_b rfl) (.cons (rn_b (Instr.enc.blws 0)) (.nil (Nat.zero_le _))))))) rfl), trivial⟩ ⟨(rn_b (cp_blw (Program.enc.blw _ 0))), (rn_b (cp_blw (Program.enc.blw _ 0))), (rn_ptr rfl rfl rfl rfl), (rn_ptr rfl rfl rfl rfl), (rn_b rfl), (rn_b rfl), (rn_b rfl), trivial⟩)
            · rw [ite_t hb] at h
              refine E_gm rfl ?_
              refine E_gm rfl ?_
              refine E_gm rfl ?_
              refine E_gm rfl ?_
              refine E_gm rfl ?_
              refine E_gm rfl ?_
              refine E_pt rfl rfl ?_
              refine E_mv (v' := (.bool true)) rfl ?_
              refine E_gm rfl ?_
              refine E_gm rfl ?_
              refine E_gm rfl ?_
              refine E_gm rfl ?_
              refine E_gm rfl ?_
              refine E_gm rfl ?_
              refine E_gm rfl ?_
              refine E_pt rfl rfl ?_
              refine E_nil ?_
              exact E_jx _ h (wk_rn [some (0, 0), some (1, 0)] rfl (Nat.le_of_ble_eq_true rfl) ⟨(rn_ob rfl rfl (.cons (rn_b rfl) (.cons (rn_b ((encI .u8).blws 0)) (.cons (rn_b rfl) (.cons (rn_b rfl) (.cons (rn_b (Instr.enc.blws 0)) (.nil (Nat.zero_le _))))))) rfl), (rn_ob rfl rfl (.cons (rn_b rfl) (.cons (rn_b ((encI .u8).blws 0)) (.cons (rn_b rfl) (.cons (rn_b rfl) (.cons (rn_b (Instr.enc.blws 0)) (.nil (Nat.zero_le _))))))) rfl), trivial⟩ ⟨(rn_b (cp_blw (Program.enc.blw _ 0))), (rn_b (cp_blw (Program.enc.blw _ 0))), (rn_ptr rfl rfl rfl rfl), (rn_ptr rfl rfl rfl rfl), (rn_b rfl), (rn_b rfl), (rn_b rfl), trivial⟩)
          · rw [ite_t hb] at h
            refine E_gm rfl ?_
            refine E_gm rfl ?_
            refine E_gm rfl ?_
            refine E_gm rfl ?_
            refine E_pt rfl rfl ?_
            refine E_mv (v' := (.bool true)) rfl ?_
            refine E_gm rfl ?_
            refine E_gm rfl ?_
            refine E_gm rfl ?_
            refine E_gm rfl ?_
            refine E_gm rfl ?_
            refine E_gm rfl ?_
            refine E_gm rfl ?_
            refine E_pt rfl rfl ?_
            refine E_mv (v' := (.bool true)) rfl ?_
            refine E_gm rfl ?_
            refine E_gm rfl ?_
            refine E_gm rfl ?_
            refine E_gm rfl ?_
            refine E_gm rfl ?_
            refine E_gm rfl ?_
            refine E_gm rfl ?_
            refine E_pt rfl rfl ?_
            refine E_nil ?_
            exact E_jx _ h (wk_rn [some (0, 0), some (1, 0)] rfl (Nat.le_of_ble_eq_true rfl) ⟨(rn_ob rfl rfl (.cons (rn_b rfl) (.cons (rn_b ((encI .u8).blws 0)) (.cons (rn_b rfl) (.cons (rn_b rfl) (.cons (rn_b (Instr.enc.blws 0)) (.nil (Nat.zero_le _))))))) rfl), (rn_ob rfl rfl (.cons (rn_b rfl) (.cons (rn_b ((encI .u8).blws 0)) (.cons (rn_b rfl) (.cons (rn_b rfl) (.cons (rn_b (Instr.enc.blws 0)) (.nil (Nat.zero_le _))))))) rfl), trivial⟩ ⟨(rn_b (cp_blw (Program.enc.blw _ 0))), (rn_b (cp_blw (Program.enc.blw _ 0))), (rn_ptr rfl rfl rfl rfl), (rn_ptr rfl rfl rfl rfl), (rn_b rfl), (rn_b rfl), (rn_b rfl), trivial⟩)
        · rw [ite_t hb] at h
          refine E_gm rfl ?_
          refine E_gm rfl ?_
          refine E_gm rfl ?_
          refine E_gm rfl ?_
          refine E_pt rfl rfl ?_
          refine E_mv (v' := (.bool true)) rfl ?_
          refine E_gm rfl ?_
          refine E_gm rfl ?_
          refine E_gm rfl ?_
          refine E_gm rfl ?_
          refine E_gm rfl ?_
          refine E_pt rfl rfl ?_
          refine E_mv (v' := (.bool true)) rfl ?_
          refine E_gm rfl ?_
          refine E_gm rfl ?_
          refine E_gm rfl ?_
          refine E_gm rfl ?_
          refine E_gm rfl ?_
          refine E_gm rfl ?_
          refine E_gm rfl ?_
          refine E_pt rfl rfl ?_
          refine E_mv (v' := (.bool true)) rfl ?_
          refine E_gm rfl ?_
          refine E_gm rfl ?_
          refine E_gm rfl ?_
          refine E_gm rfl ?_
          refine E_gm rfl ?_
          refine E_gm rfl ?_
          refine E_gm rfl ?_
          refine E_pt rfl rfl ?_
          refine E_nil ?_
          exact E_jx _ h (wk_rn [some (0, 0), some (1, 0)] rfl (Nat.le_of_ble_eq_true rfl) ⟨(rn_ob rfl rfl (.cons (rn_b rfl) (.cons (rn_b ((encI .u8).blws 0)) (.cons (rn_b rfl) (.cons (rn_b rfl) (.cons (rn_b (Instr.enc.blws 0)) (.nil (Nat.zero_le _))))))) rfl), (rn_ob rfl rfl (.cons (rn_b rfl) (.cons (rn_b ((encI .u8).blws 0)) (.cons (rn_b rfl) (.cons (rn_b rfl) (.cons (rn_b (Instr.enc.blws 0)) (.nil (Nat.zero_le _))))))) rfl), trivial⟩ ⟨(rn_b (cp_blw (Program.enc.blw _ 0))), (rn_b (cp_blw (Program.enc.blw _ 0))), (rn_ptr rfl rfl rfl rfl), (rn_ptr rfl rfl rfl rfl), (rn_b rfl), (rn_b rfl), (rn_b rfl), trivial⟩)
      · refine E_sq ?_
        refine E_cs (t := s_6) rfl (fun hb => ?_) (fun hb => ?_)
        · rw [ite_t hb] at h
          refine E_sq ?_
          refine E_reg ?_
          refine E_mv (v' := (.bool false)) rfl ?_
          refine E_nil ?_
          refine E_nx ?_
          refine E_ret ?_
          refine E_thr ?_
          cases h
          refine L_rrO rfl (fun h => ?_)
          refine E_thr ?_
          cases h
          exact ⟨trivial, _, rfl, (fz_b rfl (.refl _))⟩
        · rw [ite_f hb] at h
          refine E_skip ?_
          refine E_nx ?_
          refine E_as ?_
          refine E_sq ?_
          refine E_reg ?_
          refine E_op0 (v' := (.ptr 0 0 1)) rfl rfl ?_
          refine E_op (v' := (.sl false 1 (List.map (avI .u8) y_3.Locals))) (S' := [.arr 0 [(.int .i64 y_3.Params), (.sl false 1 (List.map (avI .u8) y_3.Locals)), (.bool y_3.Result), (.int .i64 y_3.Keep), (.sl false 3 (List.map Instr.av y_3.Code))], .arr 0 [(.int .i64 y_4.Params), (.sl false 1 (List.map (avI .u8) y_4.Locals)), (.bool y_4.Result), (.int .i64 y_4.Keep), (.sl false 3 (List.map Instr.av y_4.Code))]]) rfl rfl rfl ?_
          refine E_len rfl ?_
          refine E_mv (v' := (.int .i64 0)) rfl ?_
          refine E_nil ?_
          refine E_nx ?_
          refine E_sq ?_
          refine E_rniO (fun s_7 => [(2, (.cptr (Program.av a_00).cells 0)), (3, (.cptr (Program.av s_1).cells 0)), (6, (.ptr 0 0 0)), (7, (.ptr 1 0 0)), (19, (.int .i64 (List.length a_00.Funcs : Int))), (20, (.int .i64 (i_2 : Int)))]) (fun s_7 => [.arr 0 [(.int .i64 y_3.Params), (.sl false 1 (List.map (avI .u8) y_3.Locals)), (.bool y_3.Result), (.int .i64 y_3.Keep), (.sl false 3 (List.map Instr.av y_3.Code))], .arr 0 [(.int .i64 y_4.Params), (.sl false 1 (List.map (avI .u8) y_4.Locals)), (.bool y_4.Result), (.int .i64 y_4.Keep), (.sl false 3 (List.map Instr.av y_4.Code))]]) h (by decide) (by decide) (fun _ => ⟨rfl, rfl, rfl, rfl⟩) (wk_rn [some (0, 0), some (1, 0)] rfl (Nat.le_of_ble_eq_true rfl) ⟨(rn_ob rfl rfl (.cons (rn_b rfl) (.cons (rn_b ((encI .u8).blws 0)) (.cons (rn_b rfl) (.cons (rn_b rfl) (.cons (rn_b (Instr.enc.blws 0)) (.nil (Nat.zero_le _))))))) rfl), (rn_ob rfl rfl (.cons (rn_b rfl) (.cons (rn_b ((encI .u8).blws 0)) (.cons (rn_b rfl) (.cons (rn_b rfl) (.cons (rn_b (Instr.enc.blws 0)) (.nil (Nat.zero_le _))))))) rfl), trivial⟩ ⟨(rn_b rfl), (rn_b rfl), (rn_b (cp_blw (Program.enc.blw _ 0))), (rn_b (cp_blw (Program.enc.blw _ 0))), (rn_ptr rfl rfl rfl rfl), (rn_ptr rfl rfl rfl rfl), (rn_b rfl), (rn_b rfl), trivial⟩) (fun i_8 s_7 c hlt h => ?_) (fun s_7 fr' S' h hw => ?_)
          · refine E_sq ?_
            refine E_reg ?_
            refine E_mv (v' := (.int .i64 (i_8 : Int))) rfl ?_
            refine E_mv (v' := (.int .i64 (i_8 : Int))) rfl ?_
            refine E_nil ?_
            refine E_nx ?_
            refine E_sq ?_
            refine E_reg ?_
            refine E_op0 (v' := (.ptr 0 0 1)) rfl rfl ?_
            refine E_op (v' := (.sl false 1 (List.map (avI .u8) y_3.Locals))) (S' := [.arr 0 [(.int .i64 y_3.Params), (.sl false 1 (List.map (avI .u8) y_3.Locals)), (.bool y_3.Result), (.int .i64 y_3.Keep), (.sl false 3 (List.map Instr.av y_3.Code))], .arr 0 [(.int .i64 y_4.Params), (.sl false 1 (List.map (avI .u8) y_4.Locals)), (.bool y_4.Result), (.int .i64 y_4.Keep), (.sl false 3 (List.map Instr.av y_4.Code))]]) rfl rfl rfl ?_
            refine E_mv (v' := (.int .i64 (i_8 : Int))) rfl ?_
            obtain ⟨y_9, hy_9, h⟩ := bd_some h
            refine E_iadF rfl rfl hy_9 ?_
            refine E_op0 (v' := (.int .u8 y_9)) rfl rfl ?_
            refine E_op0 (v' := (.ptr 1 0 1)) rfl rfl ?_
            refine E_op (v' := (.sl false 1 (List.map (avI .u8) y_4.Locals))) (S' := [.arr 0 [(.int .i64 y_3.Params), (.sl false 1 (List.map (avI .u8) y_3.Locals)), (.bool y_3.Result), (.int .i64 y_3.Keep), (.sl false 3 (List.map Instr.av y_3.Code))], .arr 0 [(.int .i64 y_4.Params), (.sl false 1 (List.map (avI .u8) y_4.Locals)), (.bool y_4.Result), (.int .i64 y_4.Keep), (.sl false 3 (List.map Instr.av y_4.Code))]]) rfl rfl rfl ?_
            refine E_mv (v' := (.int .i64 (i_8 : Int))) rfl ?_
            obtain ⟨y_10, hy_10, h⟩ := bd_some h
            refine E_iadF rfl rfl hy_10 ?_
            refine E_op0 (v' := (.int .u8 y_10)) rfl rfl ?_
            refine E_op0 (v' := (.bool (y_9 != y_10))) rfl rfl ?_
            refine E_nil ?_
            refine E_nx ?_
            refine E_cs (t := (y_9 != y_10)) rfl (fun hb => ?_) (fun hb => ?_)
            · rw [ite_t hb] at h
              refine E_sq ?_
              refine E_reg ?_
              refine E_mv (v' := (.bool false)) rfl ?_
              refine E_nil ?_
              refine E_nx ?_
              refine E_ret ?_
              cases h
              refine L_rrO rfl (fun h => ?_)
              refine E_thr ?_
              cases h
              refine L_rrO rfl (fun h => ?_)
              refine E_thr ?_
              cases h
              exact ⟨trivial, _, rfl, (fz_b rfl (.refl _))⟩
            · rw [ite_f hb] at h
              refine E_skip ?_
              cases h
              exact L_nn rfl (wk_rn [some (0, 0), some (1, 0)] rfl (Nat.le_of_ble_eq_true rfl) ⟨(rn_ob rfl rfl (.cons (rn_b rfl) (.cons (rn_b ((encI .u8).blws 0)) (.cons (rn_b rfl) (.cons (rn_b rfl) (.cons (rn_b (Instr.enc.blws 0)) (.nil (Nat.zero_le _))))))) rfl), (rn_ob rfl rfl (.cons (rn_b rfl) (.cons (rn_b ((encI .u8).blws 0)) (.cons (rn_b rfl) (.cons (rn_b rfl) (.cons (rn_b (Instr.enc.blws 0)) (.nil (Nat.zero_le _))))))) rfl), trivial⟩ ⟨(rn_b rfl), (rn_b rfl), (rn_b (cp_blw (Program.enc.blw _ 0))), (rn_b (cp_blw (Program.enc.blw _ 0))), (rn_ptr rfl rfl rfl rfl), (rn_ptr rfl rfl rfl rfl), (rn_b rfl), (rn_b rfl), trivial⟩)
          · refine X_nx hw ?_
            refine E_sq ?_
            refine E_reg ?_
            refine E_op0 (v' := (.ptr 0 0 4)) rfl rfl ?_
            refine E_op (v' := (.sl false 3 (List.map Instr.av y_3.Code))) (S' := [.arr 0 [(.int .i64 y_3.Params), (.sl false 1 (List.map (avI .u8) y_3.Locals)), (.bool y_3.Result), (.int .i64 y_3.Keep), (.sl false 3 (List.map Instr.av y_3.Code))], .arr 0 [(.int .i64 y_4.Params), (.sl false 1 (List.map (avI .u8) y_4.Locals)), (.bool y_4.Result), (.int .i64 y_4.Keep), (.sl false 3 (List.map Instr.av y_4.Code))]]) rfl rfl rfl ?_
            refine E_len rfl ?_
            refine E_mv (v' := (.int .i64 0)) rfl ?_
            refine E_nil ?_
            refine E_nx ?_
            refine E_rniO (fun s_11 => [(2, (.cptr (Program.av a_00).cells 0)), (3, (.cptr (Program.av s_1).cells 0)), (6, (.ptr 0 0 0)), (7, (.ptr 1 0 0)), (19, (.int .i64 (List.length a_00.Funcs : Int))), (20, (.int .i64 (i_2 : Int)))]) (fun s_11 => [.arr 0 [(.int .i64 y_3.Params), (.sl false 1 (List.map (avI .u8) y_3.Locals)), (.bool y_3.Result), (.int .i64 y_3.Keep), (.sl false 3 (List.map Instr.av y_3.Code))], .arr 0 [(.int .i64 y_4.Params), (.sl false 1 (List.map (avI .u8) y_4.Locals)), (.bool y_4.Result), (.int .i64 y_4.Keep), (.sl false 3 (List.map Instr.av y_4.Code))]]) h (by decide) (by decide) (fun _ => ⟨rfl, rfl, rfl, rfl⟩) (wk_rn [some (0, 0), some (1, 0)] rfl (Nat.le_of_ble_eq_true rfl) ⟨(rn_ob rfl rfl (.cons (rn_b rfl) (.cons (rn_b ((encI .u8).blws 0)) (.cons (rn_b rfl) (.cons (rn_b rfl) (.cons (rn_b (Instr.enc.blws 0)) (.nil (Nat.zero_le _))))))) rfl), (rn_ob rfl rfl (.cons (rn_b rfl) (.cons (rn_b ((encI .u8).blws 0)) (.cons (rn_b rfl) (.cons (rn_b rfl) (.cons (rn_b (Instr.enc.blws 0)) (.nil (Nat.zero_le _))))))) rfl), trivial⟩ ⟨(rn_b rfl), (rn_b rfl), (rn_b (cp_blw (Program.enc.blw _ 0))), (rn_b (cp_blw (Program.enc.blw _ 0))), (rn_ptr rfl rfl rfl rfl), (rn_ptr rfl rfl rfl rfl), (rn_b rfl), (rn_b rfl), trivial⟩) (fun i_12 s_11 c hlt h => ?_) (fun s_11 fr' S' h hw => ?_)
            · refine E_sq ?_
              refine E_reg ?_
              refine E_mv (v' := (.int .i64 (i_12 : Int))) rfl ?_
              refine E_mv (v' := (.int .i64 (i_12 : Int))) rfl ?_
              refine E_nil ?_
              refine E_nx ?_
              refine E_sq ?_
              refine E_reg ?_
              refine E_op0 (v' := (.ptr 0 0 4)) rfl rfl ?_
              refine E_op (v' := (.sl false 3 (List.map Instr.av y_3.Code))) (S' := [.arr 0 [(.int .i64 y_3.Params), (.sl false 1 (List.map (avI .u8) y_3.Locals)), (.bool y_3.Result), (.int .i64 y_3.Keep), (.sl false 3 (List.map Instr.av y_3.Code))], .arr 0 [(.int .i64 y_4.Params), (.sl false 1 (List.map (avI .u8) y_4.Locals)), (.bool y_4.Result), (.int .i64 y_4.Keep), (.sl false 3 (List.map Instr.av y_4.Code))]]) rfl rfl rfl ?_
              refine E_mv (v' := (.int .i64 (i_12 : Int))) rfl ?_
              obtain ⟨y_13, hy_13, h⟩ := bd_some h
              refine E_iadF rfl rfl hy_13 ?_
              refine E_op0 (v' := (Instr.av y_13)) rfl rfl ?_
              refine E_op0 (v' := (.ptr 1 0 4)) rfl rfl ?_
              refine E_op (v' := (.sl false 3 (List.map Instr.av y_4.Code))) (S' := [.arr 0 [(.int .i64 y_3.Params), (.sl false 1 (List.map (avI .u8) y_3.Locals)), (.bool y_3.Result), (.int .i64 y_3.Keep), (.sl false 3 (List.map Instr.av y_3.Code))], .arr 0 [(.int .i64 y_4.Params), (.sl false 1 (List.map (avI .u8) y_4.Locals)), (.bool y_4.Result), (.int .i64 y_4.Keep), (.sl false 3 (List.map Instr.av y_4.Code))]]) rfl rfl rfl ?_
              refine E_mv (v' := (.int .i64 (i_12 : Int))) rfl ?_
              obtain ⟨y_14, hy_14, h⟩ := bd_some h
              refine E_iadF rfl rfl hy_14 ?_
              refine E_op0 (v' := (Instr.av y_14)) rfl rfl ?_
              refine E_op0 (v' := (.bool (!((y_13.Op == y_14.Op) && ((y_13.Arg == y_14.Arg) && ((y_13.Imm == y_14.Imm) && true)))))) rfl rfl ?_
              refine E_nil ?_
              refine E_nx ?_
              refine E_cs (t := (!((y_13.Op == y_14.Op) && ((y_13.Arg == y_14.Arg) && ((y_13.Imm == y_14.Imm) && true))))) rfl (fun hb => ?_) (fun hb => ?_)
              · rw [ite_t hb] at h
                refine E_sq ?_
                refine E_reg ?_
                refine E_mv (v' := (.bool false)) rfl ?_
                refine E_nil ?_
                refine E_nx ?_
                refine E_ret ?_
                cases h
                refine L_rrO rfl (fun h => ?_)
                cases h
                refine L_rrO rfl (fun h => ?_)
                refine E_thr ?_
                cases h
                exact ⟨trivial, _, rfl, (fz_b rfl (.refl _))⟩
              · rw [ite_f hb] at h
                refine E_skip ?_
                cases h
                exact L_nn rfl (wk_rn [some (0, 0), some (1, 0)] rfl (Nat.le_of_ble_eq_true rfl) ⟨(rn_ob rfl rfl (.cons (rn_b rfl) (.cons (rn_b ((encI .u8).blws 0)) (.cons (rn_b rfl) (.cons (rn_b rfl) (.cons (rn_b (Instr.enc.blws 0)) (.nil (Nat.zero_le _))))))) rfl), (rn_ob rfl rfl (.cons (rn_b rfl) (.cons (rn_b ((encI .u8).blws 0)) (.cons (rn_b rfl) (.cons (rn_b rfl) (.cons (rn_b (Instr.enc.blws 0)) (.nil (Nat.zero_le _))))))) rfl), trivial⟩ ⟨(rn_b rfl), (rn_b rfl), (rn_b (cp_blw (Program.enc.blw _ 0))), (rn_b (cp_blw (Program.enc.blw _ 0))), (rn_ptr rfl rfl rfl rfl), (rn_ptr rfl rfl rfl rfl), (rn_b rfl), (rn_b rfl), trivial⟩)
            · cases h
              exact X_nn rfl hw (wk_rn [] rfl (Nat.le_of_ble_eq_true rfl) trivial ⟨(rn_b rfl), (rn_b rfl), (rn_b (cp_blw (Program.enc.blw _ 0))), (rn_b (cp_blw (Program.enc.blw _ 0))), trivial⟩)
    · refine X_nx hw ?_
      refine E_sq ?_
      refine E_reg ?_
      refine E_mv (v' := (.bool true)) rfl ?_
      refine E_nil ?_
      refine E_nx ?_
      refine E_ret ?_
      cases h
      exact ⟨trivial, _, rfl, (fz_b rfl (.refl _))⟩
end Go.Proofs.YtkfhljombjmdbaaDoor
