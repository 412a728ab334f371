/- What the functions compute, and that they do (printed by wip/gen/gen.py), part 3. -/
import Derived.Test.YtiocagilhbomgaaGenKb
namespace Go.Proofs.Ytiocagilhbomgaa
open Go Go.Ab
set_option maxRecDepth 20000
set_option maxHeartbeats 2000000
set_option linter.unusedVariables false
set_option linter.unusedSimpArgs false
def windlassref05_names_s (p_00 : Program) (f_01 : Func) : Option Bool :=
  (jp (fun (s_2 : (Func × Bool)) => (if s_2.2 then (some false) else ((rng (fun (i_5 : Nat) (i_6 : Instr) (s_4 : Unit) => ((jp (fun (s_9 : Bool) => (if s_9 then (if (decide (i_6.Arg ≥ (List.length s_2.1.Locals : Int))) then (some (.ret (some false))) else (some (.nxt ()))) else (if (i_6.Op == 4) then (jp (fun (s_11 : Bool) => (if s_11 then (some (.ret (some false))) else (some (.nxt ())))) (fun k_10 => (if (decide (i_6.Arg ≥ (List.length s_2.1.Locals : Int))) then (k_10 true) else ((getI s_2.1.Locals i_6.Arg).bind fun y_12 => (k_10 (y_12 != 0)))))) else (jp (fun (s_14 : Bool) => (if s_14 then (if (decide (i_6.Arg ≥ (List.length s_2.1.Code : Int))) then (some (.ret (some false))) else (some (.nxt ()))) else (jp (fun (s_16 : Bool) => (if s_16 then (jp (fun (s_18 : Bool) => (if s_18 then (some (.ret (some false))) else (some (.nxt ())))) (fun k_17 => (if (decide (i_6.Arg ≥ (List.length p_00.Funcs : Int))) then (k_17 true) else (if (i_6.Op == 25) then (if s_2.1.Result then (k_17 (decide (s_2.1.Keep < 0))) else (k_17 false)) else (k_17 false))))) else (some (.nxt ())))) (fun k_15 => (if (i_6.Op == 23) then (k_15 (i_6.Op == 23)) else (k_15 (i_6.Op == 25))))))) (fun k_13 => (if (i_6.Op == 21) then (k_13 (i_6.Op == 21)) else (k_13 (i_6.Op == 22)))))))) (fun k_8 => (if (i_6.Op == 2) then (k_8 (i_6.Op == 2)) else (k_8 (i_6.Op == 3))))) : Option (Stp Unit (Option Bool)))) s_2.1.Code ()).bind (oc (fun (s_4 : Unit) => (some true)))))) (fun k_1 => (if ((List.length f_01.Code : Int) == 0) then (k_1 (f_01, true)) else (if (decide (f_01.Keep ≥ (List.length f_01.Locals : Int))) then (k_1 (f_01, true)) else (if (decide (f_01.Keep ≥ 0)) then ((getI f_01.Locals f_01.Keep).bind fun y_3 => (k_1 (f_01, (y_3 != 0)))) else (k_1 (f_01, false)))))))
theorem windlassref05_names_ev {p_00 : Program} {f_01 : Func} {r : Bool} (h : windlassref05_names_s p_00 f_01 = some r) : PureEv Try.prog 20 [(Program.av p_00), (Func.av f_01)] (.bool r) := by
  unfold windlassref05_names_s at h
  refine PureEv_end mixed fn20 (by simp) [6] 6 ?_
  unfold fc20
  refine E_sq ?_
  refine E_reg ?_
  refine E_op0 (v' := (.cptr (Program.av p_00).cells 0)) rfl rfl ?_
  refine E_op0 (v' := (.cptr (Func.av f_01).cells 0)) rfl rfl ?_
  refine E_mv (v' := (.bool false)) rfl ?_
  refine E_nil ?_
  refine E_nx ?_
  refine E_as ?_
  refine E_jp h (fun s_2 => [(2, (.cptr (Program.av p_00).cells 0)), (3, (.cptr (Func.av s_2.1).cells 0)), (32, (.bool s_2.2))]) (fun s_2 => []) (fun k_1 h => ?_) (fun s_2 h => ?_)
  · refine E_reg ?_
    refine E_op0 (v' := (.cptr (Func.av f_01).cells 4)) rfl rfl ?_
    refine E_op0 (v' := (.sl false 3 (List.map Instr.av f_01.Code))) rfl rfl ?_
    refine E_len rfl ?_
    refine E_op0 (v' := (.bool ((List.length f_01.Code : Int) == 0))) rfl rfl ?_
    refine E_mv (v' := (.bool ((List.length f_01.Code : Int) == 0))) rfl ?_
    refine E_gsT (b := ((List.length f_01.Code : Int) == 0)) rfl rfl rfl (fun hb => ?_) (fun hb => ?_)
    · rw [ite_f hb] at h
      refine E_op0 (v' := (.cptr (Func.av f_01).cells 3)) rfl rfl ?_
      refine E_gh rfl ?_
      refine E_op0 (v' := (.int .i64 f_01.Keep)) rfl rfl ?_
      refine E_gh rfl ?_
      refine E_op0 (v' := (.cptr (Func.av f_01).cells 1)) rfl rfl ?_
      refine E_gh rfl ?_
      refine E_op0 (v' := (.sl false 1 (List.map (avI .u8) f_01.Locals))) rfl rfl ?_
      refine E_gh rfl ?_
      refine E_len rfl ?_
      refine E_gh rfl ?_
      refine E_op0 (v' := (.bool (decide (f_01.Keep ≥ (List.length f_01.Locals : Int))))) rfl rfl ?_
      refine E_pf rfl rfl ?_
      refine E_mv (v' := (.bool (decide (f_01.Keep ≥ (List.length f_01.Locals : Int))))) rfl ?_
      refine E_gsT (b := (decide (f_01.Keep ≥ (List.length f_01.Locals : Int)))) rfl rfl rfl (fun hb => ?_) (fun hb => ?_)
      · rw [ite_f hb] at h
        refine E_op0 (v' := (.cptr (Func.av f_01).cells 3)) rfl rfl ?_
        refine E_gh rfl ?_
        refine E_op0 (v' := (.int .i64 f_01.Keep)) rfl rfl ?_
        refine E_gh rfl ?_
        refine E_op0 (v' := (.bool (decide (f_01.Keep ≥ 0)))) rfl rfl ?_
        refine E_gh rfl ?_
        refine E_mv (v' := (.bool (decide (f_01.Keep ≥ 0)))) rfl ?_
        refine E_gsT (b := (decide (f_01.Keep ≥ 0))) rfl rfl rfl (fun hb => ?_) (fun hb => ?_)
        · rw [ite_t hb] at h
          refine E_op0 (v' := (.cptr (Func.av f_01).cells 1)) rfl rfl ?_
          refine E_gh rfl ?_
          refine E_op0 (v' := (.sl false 1 (List.map (avI .u8) f_01.Locals))) rfl rfl ?_
          refine E_gh rfl ?_
          refine E_op0 (v' := (.cptr (Func.av f_01).cells 3)) rfl rfl ?_
          refine E_gh rfl ?_
          refine E_op0 (v' := (.int .i64 f_01.Keep)) rfl rfl ?_
          refine E_gh rfl ?_
          obtain ⟨y_3, hy_3, h⟩ := bd_some h
          refine E_iadF rfl rfl hy_3 ?_
          refine E_gh rfl ?_
          refine E_op0 (v' := (.int .u8 y_3)) rfl rfl ?_
          refine E_gh rfl ?_
          refine E_op0 (v' := (.bool (y_3 != 0))) rfl rfl ?_
          refine E_gh rfl ?_
          refine E_pt rfl rfl ?_
          refine E_pf rfl rfl ?_
          refine E_nil ?_
          exact E_jx _ h (wk_aw ⟨(.refl _), (.refl _), (.refl _), trivial⟩)
        · rw [ite_f hb] at h
          refine E_gm rfl ?_
          refine E_gm rfl ?_
          refine E_gm rfl ?_
          refine E_gm rfl ?_
          refine E_gm rfl ?_
          refine E_gm rfl ?_
          refine E_gh rfl ?_
          refine E_pf rfl rfl ?_
          refine E_pf rfl rfl ?_
          refine E_nil ?_
          exact E_jx _ h (wk_aw ⟨(.refl _), (.refl _), (.refl _), trivial⟩)
      · rw [ite_t hb] at h
        refine E_gm rfl ?_
        refine E_gm rfl ?_
        refine E_gm rfl ?_
        refine E_gz rfl ?_
        refine E_gz rfl ?_
        refine E_gz rfl ?_
        refine E_gz rfl ?_
        refine E_gz rfl ?_
        refine E_gz rfl ?_
        refine E_gz rfl ?_
        refine E_gm rfl ?_
        refine E_pt rfl rfl ?_
        refine E_nil ?_
        exact E_jx _ h (wk_aw ⟨(.refl _), (.refl _), (.refl _), trivial⟩)
    · rw [ite_t hb] at h
      refine E_gm rfl ?_
      refine E_gm rfl ?_
      refine E_gm rfl ?_
      refine E_gm rfl ?_
      refine E_gm rfl ?_
      refine E_pt rfl rfl ?_
      refine E_mv (v' := (.bool true)) rfl ?_
      refine E_gm rfl ?_
      refine E_gm rfl ?_
      refine E_gm rfl ?_
      refine E_gm rfl ?_
      refine E_gz rfl ?_
      refine E_gz rfl ?_
      refine E_gz rfl ?_
      refine E_gz rfl ?_
      refine E_gz rfl ?_
      refine E_gz rfl ?_
      refine E_gz rfl ?_
      refine E_gm rfl ?_
      refine E_pt rfl rfl ?_
      refine E_nil ?_
      exact E_jx _ h (wk_aw ⟨(.refl _), (.refl _), (.refl _), trivial⟩)
  · refine E_sq ?_
    refine E_cs (t := s_2.2) rfl (fun hb => ?_) (fun hb => ?_)
    · rw [ite_t hb] at h
      refine E_sq ?_
      refine E_reg ?_
      refine E_mv (v' := (.bool false)) rfl ?_
      refine E_nil ?_
      refine E_nx ?_
      refine E_ret ?_
      refine E_thr ?_
      cases h
      exact ⟨trivial, _, rfl, (fz_b rfl (.refl _))⟩
    · rw [ite_f hb] at h
      refine E_skip ?_
      refine E_nx ?_
      refine E_as ?_
      refine E_sq ?_
      refine E_reg ?_
      refine E_op0 (v' := (.cptr (Func.av s_2.1).cells 4)) rfl rfl ?_
      refine E_op0 (v' := (.sl false 3 (List.map Instr.av s_2.1.Code))) rfl rfl ?_
      refine E_len rfl ?_
      refine E_mv (v' := (.int .i64 0)) rfl ?_
      refine E_nil ?_
      refine E_nx ?_
      refine E_sq ?_
      refine E_rngO (fun s_4 => [(2, (.cptr (Program.av p_00).cells 0)), (3, (.cptr (Func.av s_2.1).cells 0)), (34, (.sl false 3 (List.map Instr.av s_2.1.Code)))]) (fun s_4 => []) h (by decide) (by decide) (fun _ => ⟨rfl, rfl, rfl, rfl⟩) (wk_aw ⟨(.refl _), (.refl _), (.refl _), (.refl _), (.refl _), trivial⟩) (fun i_5 i_6 s_4 c hx_7 hlt h => ?_) (fun s_4 fr' S' h hw => ?_)
      · refine E_sq ?_
        refine E_reg ?_
        refine E_iadF rfl rfl (getI_of hx_7) ?_
        refine E_op0 (v' := (Instr.av i_6)) rfl rfl ?_
        refine E_op (v' := .ptr 0 0 0) (S' := [.arr 0 [(.int .u8 0), (.int .i64 0), (.int .u64 0)]]) rfl rfl rfl ?_
        refine E_do (S' := [.arr 0 [(.int .u8 i_6.Op), (.int .i64 i_6.Arg), (.int .u64 i_6.Imm)]]) rfl rfl ?_
        refine E_nil ?_
        refine E_nx ?_
        refine E_sq ?_
        refine E_reg ?_
        refine E_op0 (v' := (.ptr 0 0 0)) rfl rfl ?_
        refine E_op (v' := (.int .u8 i_6.Op)) (S' := [.arr 0 [(.int .u8 i_6.Op), (.int .i64 i_6.Arg), (.int .u64 i_6.Imm)]]) rfl rfl rfl ?_
        refine E_nil ?_
        refine E_nx ?_
        refine E_block ?_
        refine E_as ?_
        refine E_sq ?_
        refine E_reg ?_
        refine E_op0 (v' := (.bool (i_6.Op == 2))) rfl rfl ?_
        refine E_mv (v' := (.bool (i_6.Op == 2))) rfl ?_
        refine E_nil ?_
        refine E_nx ?_
        refine E_jp h (fun s_9 => [(2, (.cptr (Program.av p_00).cells 0)), (3, (.cptr (Func.av s_2.1).cells 0)), (6, (.ptr 0 0 0)), (34, (.sl false 3 (List.map Instr.av s_2.1.Code))), (35, (.int .i64 (List.length s_2.1.Code : Int))), (36, (.int .i64 (i_5 : Int))), (41, (.int .u8 i_6.Op)), (42, (.bool s_9))]) (fun s_9 => [.arr 0 [(.int .u8 i_6.Op), (.int .i64 i_6.Arg), (.int .u64 i_6.Imm)]]) (fun k_8 h => ?_) (fun s_9 h => ?_)
        · refine E_cs (t := (i_6.Op == 2)) rfl (fun hb => ?_) (fun hb => ?_)
          · rw [ite_t hb] at h
            refine E_skip ?_
            exact E_jx _ h (wk_rn [some (0, 0)] rfl (Nat.le_of_ble_eq_true rfl) ⟨(rn_ob rfl rfl (.cons (rn_b rfl) (.cons (rn_b rfl) (.cons (rn_b rfl) (.nil (Nat.zero_le _))))) rfl), trivial⟩ ⟨(rn_b (cp_blw (Program.enc.blw _ 0))), (rn_b (cp_blw (Func.enc.blw _ 0))), (rn_ptr rfl rfl rfl rfl), (rn_b (Instr.enc.blws 0)), (rn_b rfl), (rn_b rfl), (rn_b rfl), (rn_b rfl), trivial⟩)
          · rw [ite_f hb] at h
            refine E_reg ?_
            refine E_op0 (v' := (.bool (i_6.Op == 3))) rfl rfl ?_
            refine E_mv (v' := (.bool (i_6.Op == 3))) rfl ?_
            refine E_nil ?_
            exact E_jx _ h (wk_rn [some (0, 0)] rfl (Nat.le_of_ble_eq_true rfl) ⟨(rn_ob rfl rfl (.cons (rn_b rfl) (.cons (rn_b rfl) (.cons (rn_b rfl) (.nil (Nat.zero_le _))))) rfl), trivial⟩ ⟨(rn_b (cp_blw (Program.enc.blw _ 0))), (rn_b (cp_blw (Func.enc.blw _ 0))), (rn_ptr rfl rfl rfl rfl), (rn_b (Instr.enc.blws 0)), (rn_b rfl), (rn_b rfl), (rn_b rfl), (rn_b rfl), trivial⟩)
        · refine E_cs (t := s_9) rfl (fun hb => ?_) (fun hb => ?_)
          · rw [ite_t hb] at h
            refine E_sq ?_
            refine E_reg ?_
            refine E_op0 (v' := (.ptr 0 0 1)) rfl rfl ?_
            refine E_op (v' := (.int .i64 i_6.Arg)) (S' := [.arr 0 [(.int .u8 i_6.Op), (.int .i64 i_6.Arg), (.int .u64 i_6.Imm)]]) rfl rfl rfl ?_
            refine E_op0 (v' := (.cptr (Func.av s_2.1).cells 1)) rfl rfl ?_
            refine E_op0 (v' := (.sl false 1 (List.map (avI .u8) s_2.1.Locals))) rfl rfl ?_
            refine E_len rfl ?_
            refine E_op0 (v' := (.bool (decide (i_6.Arg ≥ (List.length s_2.1.Locals : Int))))) rfl rfl ?_
            refine E_nil ?_
            refine E_nx ?_
            refine E_cs (t := (decide (i_6.Arg ≥ (List.length s_2.1.Locals : Int)))) rfl (fun hb => ?_) (fun hb => ?_)
            · rw [ite_t hb] at h
              refine E_sq ?_
              refine E_reg ?_
              refine E_mv (v' := (.bool false)) rfl ?_
              refine E_nil ?_
              refine E_nx ?_
              refine E_ret ?_
              refine E_blr ?_
              cases h
              refine L_rrO rfl (fun h => ?_)
              refine E_thr ?_
              cases h
              exact ⟨trivial, _, rfl, (fz_b rfl (.refl _))⟩
            · rw [ite_f hb] at h
              refine E_skip ?_
              refine E_bln ?_
              cases h
              exact L_nn rfl (wk_rn [] rfl (Nat.le_of_ble_eq_true rfl) trivial ⟨(rn_b rfl), (rn_b rfl), (rn_b (cp_blw (Program.enc.blw _ 0))), (rn_b (cp_blw (Func.enc.blw _ 0))), (rn_b (Instr.enc.blws 0)), trivial⟩)
          · rw [ite_f hb] at h
            refine E_sq ?_
            refine E_reg ?_
            refine E_op0 (v' := (.bool (i_6.Op == 4))) rfl rfl ?_
            refine E_mv (v' := (.bool (i_6.Op == 4))) rfl ?_
            refine E_nil ?_
            refine E_nx ?_
            refine E_cs (t := (i_6.Op == 4)) rfl (fun hb => ?_) (fun hb => ?_)
            · rw [ite_t hb] at h
              refine E_jp h (fun s_11 => [(2, (.cptr (Program.av p_00).cells 0)), (3, (.cptr (Func.av s_2.1).cells 0)), (34, (.sl false 3 (List.map Instr.av s_2.1.Code))), (35, (.int .i64 (List.length s_2.1.Code : Int))), (36, (.int .i64 (i_5 : Int))), (67, (.bool s_11))]) (fun s_11 => []) (fun k_10 h => ?_) (fun s_11 h => ?_)
              · refine E_reg ?_
                refine E_op0 (v' := (.ptr 0 0 1)) rfl rfl ?_
                refine E_op (v' := (.int .i64 i_6.Arg)) (S' := [.arr 0 [(.int .u8 i_6.Op), (.int .i64 i_6.Arg), (.int .u64 i_6.Imm)]]) rfl rfl rfl ?_
                refine E_op0 (v' := (.cptr (Func.av s_2.1).cells 1)) rfl rfl ?_
                refine E_op0 (v' := (.sl false 1 (List.map (avI .u8) s_2.1.Locals))) rfl rfl ?_
                refine E_len rfl ?_
                refine E_op0 (v' := (.bool (decide (i_6.Arg ≥ (List.length s_2.1.Locals : Int))))) rfl rfl ?_
                refine E_mv (v' := (.bool (decide (i_6.Arg ≥ (List.length s_2.1.Locals : Int))))) rfl ?_
                refine E_gsT (b := (decide (i_6.Arg ≥ (List.length s_2.1.Locals : Int)))) rfl rfl rfl (fun hb => ?_) (fun hb => ?_)
                · rw [ite_f hb] at h
                  refine E_op0 (v' := (.cptr (Func.av s_2.1).cells 1)) rfl rfl ?_
                  refine E_gh rfl ?_
                  refine E_op0 (v' := (.sl false 1 (List.map (avI .u8) s_2.1.Locals))) rfl rfl ?_
                  refine E_gh rfl ?_
                  refine E_op0 (v' := (.ptr 0 0 1)) rfl rfl ?_
                  refine E_gh rfl ?_
                  refine E_op (v' := (.int .i64 i_6.Arg)) (S' := [.arr 0 [(.int .u8 i_6.Op), (.int .i64 i_6.Arg), (.int .u64 i_6.Imm)]]) rfl rfl rfl ?_
                  refine E_gh rfl ?_
                  obtain ⟨y_12, hy_12, h⟩ := bd_some h
                  refine E_iadF rfl rfl hy_12 ?_
                  refine E_gh rfl ?_
                  refine E_op0 (v' := (.int .u8 y_12)) rfl rfl ?_
                  refine E_gh rfl ?_
                  refine E_op0 (v' := (.bool (y_12 != 0))) rfl rfl ?_
                  refine E_pf rfl rfl ?_
                  refine E_nil ?_
                  exact E_jx _ h (wk_rn [] rfl (Nat.le_of_ble_eq_true rfl) trivial ⟨(rn_b (cp_blw (Program.enc.blw _ 0))), (rn_b (cp_blw (Func.enc.blw _ 0))), (rn_b (Instr.enc.blws 0)), (rn_b rfl), (rn_b rfl), (rn_b rfl), trivial⟩)
                · rw [ite_t hb] at h
                  refine E_gm rfl ?_
                  refine E_gm rfl ?_
                  refine E_gm rfl ?_
                  refine E_gm rfl ?_
                  refine E_gm rfl ?_
                  refine E_gm rfl ?_
                  refine E_pt rfl rfl ?_
                  refine E_nil ?_
                  exact E_jx _ h (wk_rn [] rfl (Nat.le_of_ble_eq_true rfl) trivial ⟨(rn_b (cp_blw (Program.enc.blw _ 0))), (rn_b (cp_blw (Func.enc.blw _ 0))), (rn_b (Instr.enc.blws 0)), (rn_b rfl), (rn_b rfl), (rn_b rfl), trivial⟩)
              · refine E_cs (t := s_11) rfl (fun hb => ?_) (fun hb => ?_)
                · rw [ite_t hb] at h
                  refine E_sq ?_
                  refine E_reg ?_
                  refine E_mv (v' := (.bool false)) rfl ?_
                  refine E_nil ?_
                  refine E_nx ?_
                  refine E_ret ?_
                  refine E_blr ?_
                  cases h
                  refine L_rrO rfl (fun h => ?_)
                  refine E_thr ?_
                  cases h
                  exact ⟨trivial, _, rfl, (fz_b rfl (.refl _))⟩
                · rw [ite_f hb] at h
                  refine E_skip ?_
                  refine E_bln ?_
                  cases h
                  exact L_nn rfl (wk_aw ⟨(.refl _), (.refl _), (.refl _), (.refl _), (.refl _), trivial⟩)
            · rw [ite_f hb] at h
              refine E_as ?_
              refine E_sq ?_
              refine E_reg ?_
              refine E_op0 (v' := (.bool (i_6.Op == 21))) rfl rfl ?_
              refine E_mv (v' := (.bool (i_6.Op == 21))) rfl ?_
              refine E_nil ?_
              refine E_nx ?_
              refine E_jp h (fun s_14 => [(2, (.cptr (Program.av p_00).cells 0)), (3, (.cptr (Func.av s_2.1).cells 0)), (6, (.ptr 0 0 0)), (34, (.sl false 3 (List.map Instr.av s_2.1.Code))), (35, (.int .i64 (List.length s_2.1.Code : Int))), (36, (.int .i64 (i_5 : Int))), (41, (.int .u8 i_6.Op)), (68, (.bool s_14))]) (fun s_14 => [.arr 0 [(.int .u8 i_6.Op), (.int .i64 i_6.Arg), (.int .u64 i_6.Imm)]]) (fun k_13 h => ?_) (fun s_14 h => ?_)
              · refine E_cs (t := (i_6.Op == 21)) rfl (fun hb => ?_) (fun hb => ?_)
                · rw [ite_t hb] at h
                  refine E_skip ?_
                  exact E_jx _ h (wk_rn [some (0, 0)] rfl (Nat.le_of_ble_eq_true rfl) ⟨(rn_ob rfl rfl (.cons (rn_b rfl) (.cons (rn_b rfl) (.cons (rn_b rfl) (.nil (Nat.zero_le _))))) rfl), trivial⟩ ⟨(rn_b (cp_blw (Program.enc.blw _ 0))), (rn_b (cp_blw (Func.enc.blw _ 0))), (rn_ptr rfl rfl rfl rfl), (rn_b (Instr.enc.blws 0)), (rn_b rfl), (rn_b rfl), (rn_b rfl), (rn_b rfl), trivial⟩)
                · rw [ite_f hb] at h
                  refine E_reg ?_
                  refine E_op0 (v' := (.bool (i_6.Op == 22))) rfl rfl ?_
                  refine E_mv (v' := (.bool (i_6.Op == 22))) rfl ?_
                  refine E_nil ?_
                  exact E_jx _ h (wk_rn [some (0, 0)] rfl (Nat.le_of_ble_eq_true rfl) ⟨(rn_ob rfl rfl (.cons (rn_b rfl) (.cons (rn_b rfl) (.cons (rn_b rfl) (.nil (Nat.zero_le _))))) rfl), trivial⟩ ⟨(rn_b (cp_blw (Program.enc.blw _ 0))), (rn_b (cp_blw (Func.enc.blw _ 0))), (rn_ptr rfl rfl rfl rfl), (rn_b (Instr.enc.blws 0)), (rn_b rfl), (rn_b rfl), (rn_b rfl), (rn_b rfl), trivial⟩)
              · refine E_cs (t := s_14) rfl (fun hb => ?_) (fun hb => ?_)
                · rw [ite_t hb] at h
                  refine E_sq ?_
                  refine E_reg ?_
                  refine E_op0 (v' := (.ptr 0 0 1)) rfl rfl ?_
                  refine E_op (v' := (.int .i64 i_6.Arg)) (S' := [.arr 0 [(.int .u8 i_6.Op), (.int .i64 i_6.Arg), (.int .u64 i_6.Imm)]]) rfl rfl rfl ?_
                  refine E_op0 (v' := (.cptr (Func.av s_2.1).cells 4)) rfl rfl ?_
                  refine E_op0 (v' := (.sl false 3 (List.map Instr.av s_2.1.Code))) rfl rfl ?_
                  refine E_len rfl ?_
                  refine E_op0 (v' := (.bool (decide (i_6.Arg ≥ (List.length s_2.1.Code : Int))))) rfl rfl ?_
                  refine E_nil ?_
                  refine E_nx ?_
                  refine E_cs (t := (decide (i_6.Arg ≥ (List.length s_2.1.Code : Int)))) rfl (fun hb => ?_) (fun hb => ?_)
                  · rw [ite_t hb] at h
                    refine E_sq ?_
                    refine E_reg ?_
                    refine E_mv (v' := (.bool false)) rfl ?_
                    refine E_nil ?_
                    refine E_nx ?_
                    refine E_ret ?_
                    refine E_blr ?_
                    cases h
                    refine L_rrO rfl (fun h => ?_)
                    refine E_thr ?_
                    cases h
                    exact ⟨trivial, _, rfl, (fz_b rfl (.refl _))⟩
                  · rw [ite_f hb] at h
                    refine E_skip ?_
                    refine E_bln ?_
                    cases h
                    exact L_nn rfl (wk_rn [] rfl (Nat.le_of_ble_eq_true rfl) trivial ⟨(rn_b rfl), (rn_b rfl), (rn_b (cp_blw (Program.enc.blw _ 0))), (rn_b (cp_blw (Func.enc.blw _ 0))), (rn_b (Instr.enc.blws 0)), trivial⟩)
                · rw [ite_f hb] at h
                  refine E_as ?_
                  refine E_sq ?_
                  refine E_reg ?_
                  refine E_op0 (v' := (.bool (i_6.Op == 23))) rfl rfl ?_
                  refine E_mv (v' := (.bool (i_6.Op == 23))) rfl ?_
                  refine E_nil ?_
                  refine E_nx ?_
                  refine E_jp h (fun s_16 => [(2, (.cptr (Program.av p_00).cells 0)), (3, (.cptr (Func.av s_2.1).cells 0)), (6, (.ptr 0 0 0)), (34, (.sl false 3 (List.map Instr.av s_2.1.Code))), (35, (.int .i64 (List.length s_2.1.Code : Int))), (36, (.int .i64 (i_5 : Int))), (77, (.bool s_16))]) (fun s_16 => [.arr 0 [(.int .u8 i_6.Op), (.int .i64 i_6.Arg), (.int .u64 i_6.Imm)]]) (fun k_15 h => ?_) (fun s_16 h => ?_)
                  · refine E_cs (t := (i_6.Op == 23)) rfl (fun hb => ?_) (fun hb => ?_)
                    · rw [ite_t hb] at h
                      refine E_skip ?_
                      exact E_jx _ h (wk_rn [some (0, 0)] rfl (Nat.le_of_ble_eq_true rfl) ⟨(rn_ob rfl rfl (.cons (rn_b rfl) (.cons (rn_b rfl) (.cons (rn_b rfl) (.nil (Nat.zero_le _))))) rfl), trivial⟩ ⟨(rn_b (cp_blw (Program.enc.blw _ 0))), (rn_b (cp_blw (Func.enc.blw _ 0))), (rn_ptr rfl rfl rfl rfl), (rn_b (Instr.enc.blws 0)), (rn_b rfl), (rn_b rfl), (rn_b rfl), trivial⟩)
                    · rw [ite_f hb] at h
                      refine E_reg ?_
                      refine E_op0 (v' := (.bool (i_6.Op == 25))) rfl rfl ?_
                      refine E_mv (v' := (.bool (i_6.Op == 25))) rfl ?_
                      refine E_nil ?_
                      exact E_jx _ h (wk_rn [some (0, 0)] rfl (Nat.le_of_ble_eq_true rfl) ⟨(rn_ob rfl rfl (.cons (rn_b rfl) (.cons (rn_b rfl) (.cons (rn_b rfl) (.nil (Nat.zero_le _))))) rfl), trivial⟩ ⟨(rn_b (cp_blw (Program.enc.blw _ 0))), (rn_b (cp_blw (Func.enc.blw _ 0))), (rn_ptr rfl rfl rfl rfl), (rn_b (Instr.enc.blws 0)), (rn_b rfl), (rn_b rfl), (rn_b rfl), trivial⟩)
                  · refine E_cs (t := s_16) rfl (fun hb => ?_) (fun hb => ?_)
                    · rw [ite_t hb] at h
                      refine E_jp h (fun s_18 => [(2, (.cptr (Program.av p_00).cells 0)), (3, (.cptr (Func.av s_2.1).cells 0)), (34, (.sl false 3 (List.map Instr.av s_2.1.Code))), (35, (.int .i64 (List.length s_2.1.Code : Int))), (36, (.int .i64 (i_5 : Int))), (99, (.bool s_18))]) (fun s_18 => []) (fun k_17 h => ?_) (fun s_18 h => ?_)
                      · refine E_reg ?_
                        refine E_op0 (v' := (.ptr 0 0 1)) rfl rfl ?_
                        refine E_op (v' := (.int .i64 i_6.Arg)) (S' := [.arr 0 [(.int .u8 i_6.Op), (.int .i64 i_6.Arg), (.int .u64 i_6.Imm)]]) rfl rfl rfl ?_
                        refine E_op0 (v' := (.cptr (Program.av p_00).cells 0)) rfl rfl ?_
                        refine E_op0 (v' := (.sl false 5 (List.map Func.av p_00.Funcs))) rfl rfl ?_
                        refine E_len rfl ?_
                        refine E_op0 (v' := (.bool (decide (i_6.Arg ≥ (List.length p_00.Funcs : Int))))) rfl rfl ?_
                        refine E_mv (v' := (.bool (decide (i_6.Arg ≥ (List.length p_00.Funcs : Int))))) rfl ?_
                        refine E_gsT (b := (decide (i_6.Arg ≥ (List.length p_00.Funcs : Int)))) rfl rfl rfl (fun hb => ?_) (fun hb => ?_)
                        · rw [ite_f hb] at h
                          refine E_op0 (v' := (.ptr 0 0 0)) rfl rfl ?_
                          refine E_gh rfl ?_
                          refine E_op (v' := (.int .u8 i_6.Op)) (S' := [.arr 0 [(.int .u8 i_6.Op), (.int .i64 i_6.Arg), (.int .u64 i_6.Imm)]]) rfl rfl rfl ?_
                          refine E_gh rfl ?_
                          refine E_op0 (v' := (.bool (i_6.Op == 25))) rfl rfl ?_
                          refine E_gh rfl ?_
                          refine E_mv (v' := (.bool (i_6.Op == 25))) rfl ?_
                          refine E_gsT (b := (i_6.Op == 25)) rfl rfl rfl (fun hb => ?_) (fun hb => ?_)
                          · rw [ite_t hb] at h
                            refine E_op0 (v' := (.cptr (Func.av s_2.1).cells 2)) rfl rfl ?_
                            refine E_gh rfl ?_
                            refine E_op0 (v' := (.bool s_2.1.Result)) rfl rfl ?_
                            refine E_gh rfl ?_
                            refine E_pt rfl rfl ?_
                            refine E_gh rfl ?_
                            refine E_mv (v' := (.bool s_2.1.Result)) rfl ?_
                            refine E_gsT (b := s_2.1.Result) rfl rfl rfl (fun hb => ?_) (fun hb => ?_)
                            · rw [ite_t hb] at h
                              refine E_op0 (v' := (.cptr (Func.av s_2.1).cells 3)) rfl rfl ?_
                              refine E_gh rfl ?_
                              refine E_op0 (v' := (.int .i64 s_2.1.Keep)) rfl rfl ?_
                              refine E_gh rfl ?_
                              refine E_op0 (v' := (.bool (decide (s_2.1.Keep < 0)))) rfl rfl ?_
                              refine E_gh rfl ?_
                              refine E_pt rfl rfl ?_
                              refine E_pf rfl rfl ?_
                              refine E_nil ?_
                              exact E_jx _ h (wk_rn [] rfl (Nat.le_of_ble_eq_true rfl) trivial ⟨(rn_b (cp_blw (Program.enc.blw _ 0))), (rn_b (cp_blw (Func.enc.blw _ 0))), (rn_b (Instr.enc.blws 0)), (rn_b rfl), (rn_b rfl), (rn_b rfl), trivial⟩)
                            · rw [ite_f hb] at h
                              refine E_gm rfl ?_
                              refine E_gm rfl ?_
                              refine E_gh rfl ?_
                              refine E_pf rfl rfl ?_
                              refine E_pf rfl rfl ?_
                              refine E_nil ?_
                              exact E_jx _ h (wk_rn [] rfl (Nat.le_of_ble_eq_true rfl) trivial ⟨(rn_b (cp_blw (Program.enc.blw _ 0))), (rn_b (cp_blw (Func.enc.blw _ 0))), (rn_b (Instr.enc.blws 0)), (rn_b rfl), (rn_b rfl), (rn_b rfl), trivial⟩)
                          · rw [ite_f hb] at h
                            refine E_gm rfl ?_
                            refine E_gh rfl ?_
                            refine E_pf rfl rfl ?_
                            refine E_gh rfl ?_
                            refine E_mv (v' := (.bool false)) rfl ?_
                            refine E_gm rfl ?_
                            refine E_gm rfl ?_
                            refine E_gm rfl ?_
                            refine E_gh rfl ?_
                            refine E_pf rfl rfl ?_
                            refine E_pf rfl rfl ?_
                            refine E_nil ?_
                            exact E_jx _ h (wk_rn [] rfl (Nat.le_of_ble_eq_true rfl) trivial ⟨(rn_b (cp_blw (Program.enc.blw _ 0))), (rn_b (cp_blw (Func.enc.blw _ 0))), (rn_b (Instr.enc.blws 0)), (rn_b rfl), (rn_b rfl), (rn_b rfl), trivial⟩)
                        · rw [ite_t hb] at h
                          refine E_gm rfl ?_
                          refine E_gm rfl ?_
                          refine E_gm rfl ?_
                          refine E_gz rfl ?_
                          refine E_gz rfl ?_
                          refine E_gm rfl ?_
                          refine E_gm rfl ?_
                          refine E_gz rfl ?_
                          refine E_gz rfl ?_
                          refine E_gz rfl ?_
                          refine E_gm rfl ?_
                          refine E_pt rfl rfl ?_
                          refine E_nil ?_
                          exact E_jx _ h (wk_rn [] rfl (Nat.le_of_ble_eq_true rfl) trivial ⟨(rn_b (cp_blw (Program.enc.blw _ 0))), (rn_b (cp_blw (Func.enc.blw _ 0))), (rn_b (Instr.enc.blws 0)), (rn_b rfl), (rn_b rfl), (rn_b rfl), trivial⟩)
                      · refine E_cs (t := s_18) rfl (fun hb => ?_) (fun hb => ?_)
                        · rw [ite_t hb] at h
                          refine E_sq ?_
                          refine E_reg ?_
                          refine E_mv (v' := (.bool false)) rfl ?_
                          refine E_nil ?_
                          refine E_nx ?_
                          refine E_ret ?_
                          refine E_blr ?_
                          cases h
                          refine L_rrO rfl (fun h => ?_)
                          refine E_thr ?_
                          cases h
                          exact ⟨trivial, _, rfl, (fz_b rfl (.refl _))⟩
                        · rw [ite_f hb] at h
                          refine E_skip ?_
                          refine E_bln ?_
                          cases h
                          exact L_nn rfl (wk_aw ⟨(.refl _), (.refl _), (.refl _), (.refl _), (.refl _), trivial⟩)
                    · rw [ite_f hb] at h
                      refine E_skip ?_
                      refine E_bln ?_
                      cases h
                      exact L_nn rfl (wk_rn [] rfl (Nat.le_of_ble_eq_true rfl) trivial ⟨(rn_b rfl), (rn_b rfl), (rn_b (cp_blw (Program.enc.blw _ 0))), (rn_b (cp_blw (Func.enc.blw _ 0))), (rn_b (Instr.enc.blws 0)), trivial⟩)
      · refine X_nx hw ?_
        refine E_sq ?_
        refine E_reg ?_
        refine E_mv (v' := (.bool true)) rfl ?_
        refine E_nil ?_
        refine E_nx ?_
        refine E_ret ?_
        cases h
        exact ⟨trivial, _, rfl, (fz_b rfl (.refl _))⟩
/- windlass/windlassref05.letter -/
def fc34 : FC := (.seq (.reg [⟨(some 2), none, .op (.mv (.v (.str (ByteArray.mk #[]))))⟩] [])
  (.seq (.seq (.reg [⟨(some 3), none, .op (.mv (.t 0))⟩,
  ⟨(some 4), none, .op (.bin .none .eql (.t 3) (.v (.int .u8 1)))⟩] [])
  (.cond (.t 4)
  (.seq (.reg [⟨(some 2), none, .op (.mv (.v (.str (ByteArray.mk #[112]))))⟩] [])
  .ret)
  .skip))
  (.seq (.reg [⟨(some 2), none, .op (.mv (.v (.str (ByteArray.mk #[110]))))⟩] [])
  .ret)))
theorem fn34 : Fn3 Try.prog 34 5 [(2, none)] fc34 := ⟨_, _, Try.func34, rfl, rfl, rfl, by kernel_rfl⟩
def windlassref05_letter_s (k_00 : Int) : Option ByteArray :=
  (if (k_00 == 1) then (some (ByteArray.mk #[112])) else (some (ByteArray.mk #[110])))
theorem windlassref05_letter_ev {k_00 : Int} {r : ByteArray} (h : windlassref05_letter_s k_00 = some r) : PureEv Try.prog 34 [(.int .u8 k_00)] (.str r) := by
  unfold windlassref05_letter_s at h
  refine PureEv_end mixed fn34 (by simp) [] 6 ?_
  unfold fc34
  refine E_sq ?_
  refine E_reg ?_
  refine E_mv (v' := (.str (ByteArray.mk #[]))) rfl ?_
  refine E_nil ?_
  refine E_nx ?_
  refine E_as ?_
  refine E_sq ?_
  refine E_reg ?_
  refine E_mv (v' := (.int .u8 k_00)) rfl ?_
  refine E_op0 (v' := (.bool (k_00 == 1))) rfl rfl ?_
  refine E_nil ?_
  refine E_nx ?_
  refine E_sq ?_
  refine E_cs (t := (k_00 == 1)) rfl (fun hb => ?_) (fun hb => ?_)
  · rw [ite_t hb] at h
    refine E_sq ?_
    refine E_reg ?_
    refine E_mv (v' := (.str (ByteArray.mk #[112]))) rfl ?_
    refine E_nil ?_
    refine E_nx ?_
    refine E_ret ?_
    refine E_thr ?_
    cases h
    exact ⟨trivial, _, rfl, (fz_b rfl (.refl _))⟩
  · rw [ite_f hb] at h
    refine E_skip ?_
    refine E_nx ?_
    refine E_sq ?_
    refine E_reg ?_
    refine E_mv (v' := (.str (ByteArray.mk #[110]))) rfl ?_
    refine E_nil ?_
    refine E_nx ?_
    refine E_ret ?_
    cases h
    exact ⟨trivial, _, rfl, (fz_b rfl (.refl _))⟩
/- windlass/windlassref05.letters -/
def fc22 : FC := (.seq (.reg [⟨(some 2), none, .op (.mv (.v (.str (ByteArray.mk #[]))))⟩] [])
  (.seq (.reg [⟨(some 3), none, .op (.mv (.v (.str (ByteArray.mk #[]))))⟩] [])
  (.seq (.seq (.reg [⟨(some 6), none, .op (.mv (.t 0))⟩,
  ⟨(some 7), none, .op (.len .sl (.t 6))⟩,
  ⟨(some 8), none, .op (.mv (.v (.int .i64 0)))⟩] [])
  (.block 0 (.loop (.seq (.reg [⟨(some 9), none, .op (.bin .none .lss (.t 8) (.t 7))⟩] [])
  (.seq (.cond (.t 9)
  .skip
  (.exit 0))
  (.seq (.block 1 (.seq (.reg [⟨(some 10), none, .op (.iad none none (.t 6) (.t 8))⟩,
  ⟨(some 11), none, .op (.load none (.t 10))⟩,
  ⟨(some 5), none, .op (.mv (.t 11))⟩] [])
  (.reg [⟨(some 12), none, .op (.mv (.t 3))⟩,
  ⟨(some 13), none, .op (.mv (.t 5))⟩,
  ⟨(some 14), none, .call 34 [(.t 13)]⟩,
  ⟨(some 15), none, .op (.bin .none .add (.t 12) (.t 14))⟩,
  ⟨(some 3), none, .op (.mv (.t 15))⟩] [])))
  (.reg [⟨(some 16), none, .op (.bin .none .add (.t 8) (.v (.int .i64 1)))⟩,
  ⟨(some 8), none, .op (.mv (.t 16))⟩] [])))))))
  (.seq (.reg [⟨(some 17), none, .op (.mv (.t 3))⟩,
  ⟨(some 2), none, .op (.mv (.t 17))⟩] [])
  .ret))))
theorem fn22 : Fn3 Try.prog 22 18 [(2, none)] fc22 := ⟨_, _, Try.func22, rfl, rfl, rfl, by kernel_rfl⟩
def windlassref05_letters_s (l_00 : (List Int)) : Option ByteArray :=
  ((rng (fun (i_2 : Nat) (k_3 : Int) (s_1 : ByteArray) => (((windlassref05_letter_s k_3).bind fun vlet_5 => ((catS s_1 vlet_5).bind fun s_6 => (some (.nxt s_6)))) : Option (Stp ByteArray (Option ByteArray)))) l_00 (ByteArray.mk #[])).bind (oc (fun (s_1 : ByteArray) => (some s_1))))
theorem windlassref05_letters_ev {l_00 : (List Int)} {r : ByteArray} (h : windlassref05_letters_s l_00 = some r) : PureEv Try.prog 22 [(.sl false 1 (List.map (avI .u8) l_00))] (.str r) := by
  unfold windlassref05_letters_s at h
  refine PureEv_end mixed fn22 (by simp) [] 6 ?_
  unfold fc22
  refine E_sq ?_
  refine E_reg ?_
  refine E_mv (v' := (.str (ByteArray.mk #[]))) rfl ?_
  refine E_nil ?_
  refine E_nx ?_
  refine E_sq ?_
  refine E_reg ?_
  refine E_mv (v' := (.str (ByteArray.mk #[]))) rfl ?_
  refine E_nil ?_
  refine E_nx ?_
  refine E_as ?_
  refine E_sq ?_
  refine E_reg ?_
  refine E_mv (v' := (.sl false 1 (List.map (avI .u8) l_00))) rfl ?_
  refine E_len rfl ?_
  refine E_mv (v' := (.int .i64 0)) rfl ?_
  refine E_nil ?_
  refine E_nx ?_
  refine E_sq ?_
  refine E_rngO (fun s_1 => [(3, (.str s_1)), (6, (.sl false 1 (List.map (avI .u8) l_00)))]) (fun s_1 => []) h (by decide) (by decide) (fun _ => ⟨rfl, rfl, rfl, rfl⟩) (wk_aw ⟨(.refl _), (.refl _), (.refl _), (.refl _), trivial⟩) (fun i_2 k_3 s_1 c hx_4 hlt h => ?_) (fun s_1 fr' S' h hw => ?_)
  · refine E_sq ?_
    refine E_reg ?_
    refine E_iadF rfl rfl (getI_of hx_4) ?_
    refine E_op0 (v' := (.int .u8 k_3)) rfl rfl ?_
    refine E_mv (v' := (.int .u8 k_3)) rfl ?_
    refine E_nil ?_
    refine E_nx ?_
    refine E_reg ?_
    refine E_mv (v' := (.str s_1)) rfl ?_
    refine E_mv (v' := (.int .u8 k_3)) rfl ?_
    obtain ⟨vlet_5, hvlet_5, h⟩ := bd_some h
    refine E_callW (windlassref05_letter_ev  hvlet_5) rfl ⟨(.refl _), trivial⟩ (blwL_of ⟨rfl, trivial⟩) rfl ?_
    obtain ⟨s_6, hs_6, h⟩ := bd_some h
    refine E_cat rfl rfl hs_6 ?_
    refine E_mv (v' := (.str s_6)) rfl ?_
    refine E_nil ?_
    cases h
    exact L_nn rfl (wk_aw ⟨(.refl _), (.refl _), (.refl _), (.refl _), trivial⟩)
  · refine X_nx hw ?_
    refine E_sq ?_
    refine E_reg ?_
    refine E_mv (v' := (.str s_1)) rfl ?_
    refine E_mv (v' := (.str s_1)) rfl ?_
    refine E_nil ?_
    refine E_nx ?_
    refine E_ret ?_
    cases h
    exact ⟨trivial, _, rfl, (fz_b rfl (.refl _))⟩
/- windlass/windlassref05.After -/
def fc32 : FC := (.seq (.reg [⟨(some 4), none, .op (.box (.t 0))⟩,
  ⟨(some 5), none, .op (.box (.t 1))⟩,
  ⟨(some 6), none, .op (.box (.t 2))⟩,
  ⟨(some 8), none, .op (.mv (.v (.str (ByteArray.mk #[]))))⟩] [])
  (.seq (.reg [⟨(some 9), none, .op (.mv (.v (.str (ByteArray.mk #[]))))⟩,
  ⟨(some 10), none, .op (.mv (.v (.str (ByteArray.mk #[]))))⟩] [])
  (.seq (.block 0 (.seq (.reg [⟨(some 26), none, .op (.fad 0 (.t 6))⟩,
  ⟨(some 27), none, .op (.load none (.t 26))⟩,
  ⟨(some 28), none, .op (.bin .none .eql (.t 27) (.v (.int .u8 1)))⟩,
  ⟨(some 29), none, .op (.mv (.t 28))⟩,
  ⟨(some 30), some (29, false), .op (.fad 0 (.t 6))⟩,
  ⟨(some 31), some (29, false), .op (.load none (.t 30))⟩,
  ⟨(some 32), some (29, false), .op (.bin .none .eql (.t 31) (.v (.int .u8 28)))⟩,
  ⟨(some 33), none, .op (.pick (.t 29) (.v (.bool true)) (.t 32))⟩,
  ⟨(some 25), none, .op (.mv (.t 33))⟩] [])
  (.cond (.t 25)
  (.reg [⟨(some 10), none, .op (.mv (.v (.str (ByteArray.mk #[110]))))⟩] [])
  (.seq (.reg [⟨(some 35), none, .op (.fad 0 (.t 6))⟩,
  ⟨(some 36), none, .op (.load none (.t 35))⟩,
  ⟨(some 37), none, .op (.bin .none .eql (.t 36) (.v (.int .u8 2)))⟩,
  ⟨(some 34), none, .op (.mv (.t 37))⟩] [])
  (.cond (.t 34)
  (.reg [⟨(some 38), none, .op (.fad 1 (.t 5))⟩,
  ⟨(some 39), none, .op (.load none (.t 38))⟩,
  ⟨(some 40), none, .op (.fad 1 (.t 6))⟩,
  ⟨(some 41), none, .op (.load none (.t 40))⟩,
  ⟨(some 42), none, .op (.iad none none (.t 39) (.t 41))⟩,
  ⟨(some 43), none, .op (.load none (.t 42))⟩,
  ⟨(some 44), none, .call 34 [(.t 43)]⟩,
  ⟨(some 10), none, .op (.mv (.t 44))⟩] [])
  (.seq (.reg [⟨(some 46), none, .op (.fad 0 (.t 6))⟩,
  ⟨(some 47), none, .op (.load none (.t 46))⟩,
  ⟨(some 48), none, .op (.bin .none .eql (.t 47) (.v (.int .u8 3)))⟩,
  ⟨(some 45), none, .op (.mv (.t 48))⟩] [])
  (.cond (.t 45)
  (.reg [⟨(some 49), none, .op (.fad 1 (.t 5))⟩,
  ⟨(some 50), none, .op (.load none (.t 49))⟩,
  ⟨(some 51), none, .op (.fad 1 (.t 6))⟩,
  ⟨(some 52), none, .op (.load none (.t 51))⟩,
  ⟨(some 53), none, .op (.iad none none (.t 50) (.t 52))⟩,
  ⟨(some 54), none, .op (.load none (.t 53))⟩,
  ⟨(some 55), none, .call 34 [(.t 54)]⟩,
  ⟨(some 9), none, .op (.mv (.t 55))⟩] [])
  (.seq (.reg [⟨(some 57), none, .op (.fad 0 (.t 6))⟩,
  ⟨(some 58), none, .op (.load none (.t 57))⟩,
  ⟨(some 59), none, .op (.bin .none .eql (.t 58) (.v (.int .u8 4)))⟩,
  ⟨(some 56), none, .op (.mv (.t 59))⟩] [])
  (.cond (.t 56)
  (.reg [⟨(some 10), none, .op (.mv (.v (.str (ByteArray.mk #[112]))))⟩] [])
  (.seq (.reg [⟨(some 61), none, .op (.fad 0 (.t 6))⟩,
  ⟨(some 62), none, .op (.load none (.t 61))⟩,
  ⟨(some 63), none, .op (.bin .none .eql (.t 62) (.v (.int .u8 5)))⟩,
  ⟨(some 60), none, .op (.mv (.t 63))⟩] [])
  (.cond (.t 60)
  (.reg [⟨(some 9), none, .op (.mv (.v (.str (ByteArray.mk #[112]))))⟩,
  ⟨(some 10), none, .op (.mv (.v (.str (ByteArray.mk #[110]))))⟩] [])
  (.seq (.reg [⟨(some 65), none, .op (.fad 0 (.t 6))⟩,
  ⟨(some 66), none, .op (.load none (.t 65))⟩,
  ⟨(some 67), none, .op (.bin .none .eql (.t 66) (.v (.int .u8 6)))⟩,
  ⟨(some 64), none, .op (.mv (.t 67))⟩] [])
  (.cond (.t 64)
  (.reg [⟨(some 9), none, .op (.mv (.v (.str (ByteArray.mk #[112, 110]))))⟩] [])
  (.seq (.reg [⟨(some 69), none, .op (.fad 0 (.t 6))⟩,
  ⟨(some 70), none, .op (.load none (.t 69))⟩,
  ⟨(some 71), none, .op (.bin .none .geq (.t 70) (.v (.int .u8 7)))⟩,
  ⟨(some 72), none, .op (.mv (.t 71))⟩,
  ⟨(some 73), some (72, true), .op (.fad 0 (.t 6))⟩,
  ⟨(some 74), some (72, true), .op (.load none (.t 73))⟩,
  ⟨(some 75), some (72, true), .op (.bin .none .leq (.t 74) (.v (.int .u8 20)))⟩,
  ⟨(some 76), none, .op (.pick (.t 72) (.t 75) (.v (.bool false)))⟩,
  ⟨(some 68), none, .op (.mv (.t 76))⟩] [])
  (.cond (.t 68)
  (.reg [⟨(some 9), none, .op (.mv (.v (.str (ByteArray.mk #[110, 110]))))⟩,
  ⟨(some 10), none, .op (.mv (.v (.str (ByteArray.mk #[110]))))⟩] [])
  (.seq (.reg [⟨(some 78), none, .op (.fad 0 (.t 6))⟩,
  ⟨(some 79), none, .op (.load none (.t 78))⟩,
  ⟨(some 80), none, .op (.bin .none .eql (.t 79) (.v (.int .u8 21)))⟩,
  ⟨(some 77), none, .op (.mv (.t 80))⟩] [])
  (.cond (.t 77)
  .skip
  (.seq (.reg [⟨(some 82), none, .op (.fad 0 (.t 6))⟩,
  ⟨(some 83), none, .op (.load none (.t 82))⟩,
  ⟨(some 84), none, .op (.bin .none .eql (.t 83) (.v (.int .u8 22)))⟩,
  ⟨(some 85), none, .op (.mv (.t 84))⟩,
  ⟨(some 86), some (85, false), .op (.fad 0 (.t 6))⟩,
  ⟨(some 87), some (85, false), .op (.load none (.t 86))⟩,
  ⟨(some 88), some (85, false), .op (.bin .none .eql (.t 87) (.v (.int .u8 26)))⟩,
  ⟨(some 89), none, .op (.pick (.t 85) (.v (.bool true)) (.t 88))⟩,
  ⟨(some 90), none, .op (.mv (.t 89))⟩,
  ⟨(some 91), some (90, false), .op (.fad 0 (.t 6))⟩,
  ⟨(some 92), some (90, false), .op (.load none (.t 91))⟩,
  ⟨(some 93), some (90, false), .op (.bin .none .eql (.t 92) (.v (.int .u8 29)))⟩,
  ⟨(some 94), none, .op (.pick (.t 90) (.v (.bool true)) (.t 93))⟩,
  ⟨(some 95), none, .op (.mv (.t 94))⟩,
  ⟨(some 96), some (95, false), .op (.fad 0 (.t 6))⟩,
  ⟨(some 97), some (95, false), .op (.load none (.t 96))⟩,
  ⟨(some 98), some (95, false), .op (.bin .none .eql (.t 97) (.v (.int .u8 30)))⟩,
  ⟨(some 99), none, .op (.pick (.t 95) (.v (.bool true)) (.t 98))⟩,
  ⟨(some 81), none, .op (.mv (.t 99))⟩] [])
  (.cond (.t 81)
  (.reg [⟨(some 9), none, .op (.mv (.v (.str (ByteArray.mk #[110]))))⟩] [])
  (.seq (.reg [⟨(some 101), none, .op (.fad 0 (.t 6))⟩,
  ⟨(some 102), none, .op (.load none (.t 101))⟩,
  ⟨(some 103), none, .op (.bin .none .eql (.t 102) (.v (.int .u8 23)))⟩,
  ⟨(some 104), none, .op (.mv (.t 103))⟩,
  ⟨(some 105), some (104, false), .op (.fad 0 (.t 6))⟩,
  ⟨(some 106), some (104, false), .op (.load none (.t 105))⟩,
  ⟨(some 107), some (104, false), .op (.bin .none .eql (.t 106) (.v (.int .u8 25)))⟩,
  ⟨(some 108), none, .op (.pick (.t 104) (.v (.bool true)) (.t 107))⟩,
  ⟨(some 100), none, .op (.mv (.t 108))⟩] [])
  (.cond (.t 100)
  (.seq (.reg [⟨(some 109), none, .op (.fad 0 (.t 4))⟩,
  ⟨(some 110), none, .op (.load none (.t 109))⟩,
  ⟨(some 111), none, .op (.fad 1 (.t 6))⟩,
  ⟨(some 112), none, .op (.load none (.t 111))⟩,
  ⟨(some 113), none, .op (.iad none (some 5) (.t 110) (.t 112))⟩,
  ⟨(some 114), none, .op (.load (some 5) (.t 113))⟩,
  ⟨(some 11), none, .op (.new [(.int .i64 0), .nils, (.bool false), (.int .i64 0), .nils])⟩,
  ⟨none, none, .op (.store 5 (.t 11) (.t 114))⟩] [])
  (.seq (.reg [⟨(some 115), none, .op (.fad 1 (.t 11))⟩,
  ⟨(some 116), none, .op (.load none (.t 115))⟩,
  ⟨(some 117), none, .op (.fad 0 (.t 11))⟩,
  ⟨(some 118), none, .op (.load none (.t 117))⟩,
  ⟨(some 119), none, .op (.slc none (.t 116) none (some (.t 118)) none)⟩,
  ⟨(some 120), none, .call 22 [(.t 119)]⟩,
  ⟨(some 9), none, .op (.mv (.t 120))⟩] [])
  (.seq (.reg [⟨(some 121), none, .op (.fad 0 (.t 6))⟩,
  ⟨(some 122), none, .op (.load none (.t 121))⟩,
  ⟨(some 123), none, .op (.bin .none .eql (.t 122) (.v (.int .u8 23)))⟩,
  ⟨(some 124), none, .op (.mv (.t 123))⟩,
  ⟨(some 125), some (124, true), .op (.fad 2 (.t 11))⟩,
  ⟨(some 126), some (124, true), .op (.load none (.t 125))⟩,
  ⟨(some 127), none, .op (.pick (.t 124) (.t 126) (.v (.bool false)))⟩] [])
  (.cond (.t 127)
  (.reg [⟨(some 10), none, .op (.mv (.v (.str (ByteArray.mk #[110]))))⟩] [])
  .skip))))
  (.seq (.reg [⟨(some 129), none, .op (.fad 0 (.t 6))⟩,
  ⟨(some 130), none, .op (.load none (.t 129))⟩,
  ⟨(some 131), none, .op (.bin .none .eql (.t 130) (.v (.int .u8 24)))⟩,
  ⟨(some 128), none, .op (.mv (.t 131))⟩] [])
  (.cond (.t 128)
  (.seq (.seq (.reg [⟨(some 132), none, .op (.fad 2 (.t 5))⟩,
  ⟨(some 133), none, .op (.load none (.t 132))⟩] [])
  (.cond (.t 133)
  (.reg [⟨(some 9), none, .op (.mv (.v (.str (ByteArray.mk #[110]))))⟩] [])
  .skip))
  (.seq (.reg [⟨(some 134), none, .op (.mv (.t 3))⟩,
  ⟨(some 135), none, .op (.mv (.t 9))⟩,
  ⟨(some 136), none, .op (.bin .none .neq (.t 134) (.t 135))⟩] [])
  (.cond (.t 136)
  (.seq (.reg [⟨(some 8), none, .op (.mv (.v (.str (ByteArray.mk #[33]))))⟩] [])
  .ret)
  .skip)))
  (.seq (.reg [⟨(some 138), none, .op (.fad 0 (.t 6))⟩,
  ⟨(some 139), none, .op (.load none (.t 138))⟩,
  ⟨(some 140), none, .op (.bin .none .eql (.t 139) (.v (.int .u8 27)))⟩,
  ⟨(some 137), none, .op (.mv (.t 140))⟩] [])
  (.cond (.t 137)
  (.reg [⟨(some 10), none, .op (.mv (.v (.str (ByteArray.mk #[110, 110]))))⟩] [])
  (.seq (.seq (.reg [⟨(some 12), none, .op (.mv (.t 3))⟩,
  ⟨(some 13), none, .op (.bin .none .eql (.t 12) (.v (.str (ByteArray.mk #[]))))⟩] [])
  (.cond (.t 13)
  (.seq (.reg [⟨(some 8), none, .op (.mv (.v (.str (ByteArray.mk #[33]))))⟩] [])
  .ret)
  .skip))
  (.seq (.reg [⟨(some 14), none, .op (.mv (.t 3))⟩,
  ⟨(some 15), none, .op (.mv (.t 3))⟩,
  ⟨(some 16), none, .op (.len .str (.t 15))⟩,
  ⟨(some 17), none, .op (.bin .none .sub (.t 16) (.v (.int .i64 1)))⟩,
  ⟨(some 18), none, .op (.sls (.t 14) (some (.t 17)) none)⟩,
  ⟨(some 9), none, .op (.mv (.t 18))⟩] [])
  (.seq (.reg [⟨(some 19), none, .op (.fad 0 (.t 6))⟩,
  ⟨(some 20), none, .op (.load none (.t 19))⟩,
  ⟨(some 21), none, .op (.bin .none .eql (.t 20) (.v (.int .u8 32)))⟩] [])
  (.cond (.t 21)
  (.reg [⟨(some 22), none, .op (.mv (.t 9))⟩,
  ⟨(some 23), none, .op (.mv (.t 9))⟩,
  ⟨(some 24), none, .op (.bin .none .add (.t 22) (.t 23))⟩,
  ⟨(some 10), none, .op (.mv (.t 24))⟩] [])
  .skip)))))))))))))))))))))))))))))
  (.seq (.seq (.reg [⟨(some 141), none, .op (.mv (.t 3))⟩,
  ⟨(some 142), none, .op (.len .str (.t 141))⟩,
  ⟨(some 143), none, .op (.mv (.t 9))⟩,
  ⟨(some 144), none, .op (.len .str (.t 143))⟩,
  ⟨(some 145), none, .op (.bin .none .lss (.t 142) (.t 144))⟩,
  ⟨(some 146), none, .op (.mv (.t 145))⟩,
  ⟨(some 147), some (146, false), .op (.mv (.t 3))⟩,
  ⟨(some 148), some (146, false), .op (.mv (.t 3))⟩,
  ⟨(some 149), some (146, false), .op (.len .str (.t 148))⟩,
  ⟨(some 150), some (146, false), .op (.mv (.t 9))⟩,
  ⟨(some 151), some (146, false), .op (.len .str (.t 150))⟩,
  ⟨(some 152), some (146, false), .op (.bin .none .sub (.t 149) (.t 151))⟩,
  ⟨(some 153), some (146, false), .op (.sls (.t 147) (some (.t 152)) none)⟩,
  ⟨(some 154), some (146, false), .op (.mv (.t 9))⟩,
  ⟨(some 155), some (146, false), .op (.bin .none .neq (.t 153) (.t 154))⟩,
  ⟨(some 156), none, .op (.pick (.t 146) (.v (.bool true)) (.t 155))⟩] [])
  (.cond (.t 156)
  (.seq (.reg [⟨(some 8), none, .op (.mv (.v (.str (ByteArray.mk #[33]))))⟩] [])
  .ret)
  .skip))
  (.seq (.reg [⟨(some 157), none, .op (.mv (.t 3))⟩,
  ⟨(some 158), none, .op (.mv (.t 3))⟩,
  ⟨(some 159), none, .op (.len .str (.t 158))⟩,
  ⟨(some 160), none, .op (.mv (.t 9))⟩,
  ⟨(some 161), none, .op (.len .str (.t 160))⟩,
  ⟨(some 162), none, .op (.bin .none .sub (.t 159) (.t 161))⟩,
  ⟨(some 163), none, .op (.sls (.t 157) none (some (.t 162)))⟩,
  ⟨(some 164), none, .op (.mv (.t 10))⟩,
  ⟨(some 165), none, .op (.bin .none .add (.t 163) (.t 164))⟩,
  ⟨(some 8), none, .op (.mv (.t 165))⟩] [])
  .ret)))))
theorem fn32 : Fn3 Try.prog 32 166 [(8, none)] fc32 := ⟨_, _, Try.func32, rfl, rfl, rfl, by kernel_rfl⟩
def windlassref05_After_s (p_00 : Program) (f_01 : Func) (i_02 : Instr) (s_03 : ByteArray) : Option ByteArray :=
  (jp (fun (s_2 : (ByteArray × ByteArray × ByteArray)) => (jp (fun (s_25 : Bool) => (if s_25 then (some (ByteArray.mk #[33])) else ((subS s_2.1 0 (I64 ((ByteArray.size s_2.1 : Int) - (ByteArray.size s_2.2.1 : Int)))).bind fun s_27 => ((catS s_27 s_2.2.2).bind fun s_28 => (some s_28))))) (fun k_24 => (if (decide ((ByteArray.size s_2.1 : Int) < (ByteArray.size s_2.2.1 : Int))) then (k_24 true) else ((subS s_2.1 (I64 ((ByteArray.size s_2.1 : Int) - (ByteArray.size s_2.2.1 : Int))) (ByteArray.size s_2.1 : Int)).bind fun s_26 => (k_24 (!(ByteArray.toList s_26 == ByteArray.toList s_2.2.1)))))))) (fun k_1 => (jp (fun (s_4 : (ByteArray × Bool)) => (if s_4.2 then (k_1 (s_4.1, (ByteArray.mk #[]), (ByteArray.mk #[110]))) else (if (i_02.Op == 2) then ((getI f_01.Locals i_02.Arg).bind fun y_5 => ((windlassref05_letter_s y_5).bind fun vlet_6 => (k_1 (s_4.1, (ByteArray.mk #[]), vlet_6)))) else (if (i_02.Op == 3) then ((getI f_01.Locals i_02.Arg).bind fun y_7 => ((windlassref05_letter_s y_7).bind fun vlet_8 => (k_1 (s_4.1, vlet_8, (ByteArray.mk #[]))))) else (if (i_02.Op == 4) then (k_1 (s_4.1, (ByteArray.mk #[]), (ByteArray.mk #[112]))) else (if (i_02.Op == 5) then (k_1 (s_4.1, (ByteArray.mk #[112]), (ByteArray.mk #[110]))) else (if (i_02.Op == 6) then (k_1 (s_4.1, (ByteArray.mk #[112, 110]), (ByteArray.mk #[]))) else (jp (fun (s_10 : Bool) => (if s_10 then (k_1 (s_4.1, (ByteArray.mk #[110, 110]), (ByteArray.mk #[110]))) else (if (i_02.Op == 21) then (k_1 (s_4.1, (ByteArray.mk #[]), (ByteArray.mk #[]))) else (jp (fun (s_12 : Bool) => (if s_12 then (k_1 (s_4.1, (ByteArray.mk #[110]), (ByteArray.mk #[]))) else (jp (fun (s_14 : Bool) => (if s_14 then ((getI p_00.Funcs i_02.Arg).bind fun y_15 => ((subL y_15.Locals 0 y_15.Params).bind fun l_16 => ((windlassref05_letters_s l_16).bind fun vlet_17 => (jp (fun (s_19 : Bool) => (if s_19 then (k_1 (s_4.1, vlet_17, (ByteArray.mk #[110]))) else (k_1 (s_4.1, vlet_17, (ByteArray.mk #[]))))) (fun k_18 => (if (i_02.Op == 23) then (k_18 y_15.Result) else (k_18 false))))))) else (if (i_02.Op == 24) then (jp (fun (s_21 : ByteArray) => (if (!(ByteArray.toList s_4.1 == ByteArray.toList s_21)) then (some (ByteArray.mk #[33])) else (k_1 (s_4.1, s_21, (ByteArray.mk #[]))))) (fun k_20 => (if f_01.Result then (k_20 (ByteArray.mk #[110])) else (k_20 (ByteArray.mk #[]))))) else (if (i_02.Op == 27) then (k_1 (s_4.1, (ByteArray.mk #[]), (ByteArray.mk #[110, 110]))) else (if (ByteArray.toList s_4.1 == ByteArray.toList (ByteArray.mk #[])) then (some (ByteArray.mk #[33])) else ((subS s_4.1 (I64 ((ByteArray.size s_4.1 : Int) - 1)) (ByteArray.size s_4.1 : Int)).bind fun s_22 => (if (i_02.Op == 32) then ((catS s_22 s_22).bind fun s_23 => (k_1 (s_4.1, s_22, s_23))) else (k_1 (s_4.1, s_22, (ByteArray.mk #[])))))))))) (fun k_13 => (if (i_02.Op == 23) then (k_13 true) else (k_13 (i_02.Op == 25))))))) (fun k_11 => (if (i_02.Op == 22) then (k_11 true) else (if (i_02.Op == 26) then (k_11 true) else (if (i_02.Op == 29) then (k_11 true) else (k_11 (i_02.Op == 30)))))))))) (fun k_9 => (if (decide (i_02.Op ≥ 7)) then (k_9 (decide (i_02.Op ≤ 20))) else (k_9 false))))))))))) (fun k_3 => (if (i_02.Op == 1) then (k_3 (s_03, true)) else (k_3 (s_03, (i_02.Op == 28))))))))
theorem windlassref05_After_ev {p_00 : Program} {f_01 : Func} {i_02 : Instr} {s_03 : ByteArray} {r : ByteArray} (h : windlassref05_After_s p_00 f_01 i_02 s_03 = some r) : PureEv Try.prog 32 [(Program.av p_00), (Func.av f_01), (Instr.av i_02), (.str s_03)] (.str r) := by
  unfold windlassref05_After_s at h
  refine PureEv_end mixed fn32 (by simp) [11] 6 ?_
  unfold fc32
  refine E_sq ?_
  refine E_reg ?_
  refine E_op0 (v' := (.cptr (Program.av p_00).cells 0)) rfl rfl ?_
  refine E_op0 (v' := (.cptr (Func.av f_01).cells 0)) rfl rfl ?_
  refine E_op0 (v' := (.cptr (Instr.av i_02).cells 0)) rfl rfl ?_
  refine E_mv (v' := (.str (ByteArray.mk #[]))) rfl ?_
  refine E_nil ?_
  refine E_nx ?_
  refine E_sq ?_
  refine E_reg ?_
  refine E_mv (v' := (.str (ByteArray.mk #[]))) rfl ?_
  refine E_mv (v' := (.str (ByteArray.mk #[]))) rfl ?_
  refine E_nil ?_
  refine E_nx ?_
  refine E_jp h (fun s_2 => [(3, (.str s_2.1)), (9, (.str s_2.2.1)), (10, (.str s_2.2.2))]) (fun s_2 => []) (fun k_1 h => ?_) (fun s_2 h => ?_)
  · refine E_block ?_
    refine E_jp h (fun s_4 => [(3, (.str s_4.1)), (4, (.cptr (Program.av p_00).cells 0)), (5, (.cptr (Func.av f_01).cells 0)), (6, (.cptr (Instr.av i_02).cells 0)), (9, (.str (ByteArray.mk #[]))), (10, (.str (ByteArray.mk #[]))), (25, (.bool s_4.2))]) (fun s_4 => []) (fun k_3 h => ?_) (fun s_4 h => ?_)
    · refine E_reg ?_
      refine E_op0 (v' := (.cptr (Instr.av i_02).cells 0)) rfl rfl ?_
      refine E_op0 (v' := (.int .u8 i_02.Op)) rfl rfl ?_
      refine E_op0 (v' := (.bool (i_02.Op == 1))) rfl rfl ?_
      refine E_mv (v' := (.bool (i_02.Op == 1))) rfl ?_
      refine E_gsT (b := (i_02.Op == 1)) rfl rfl rfl (fun hb => ?_) (fun hb => ?_)
      · rw [ite_f hb] at h
        refine E_op0 (v' := (.cptr (Instr.av i_02).cells 0)) rfl rfl ?_
        refine E_gh rfl ?_
        refine E_op0 (v' := (.int .u8 i_02.Op)) rfl rfl ?_
        refine E_gh rfl ?_
        refine E_op0 (v' := (.bool (i_02.Op == 28))) rfl rfl ?_
        refine E_pf rfl rfl ?_
        refine E_mv (v' := (.bool (i_02.Op == 28))) rfl ?_
        refine E_nil ?_
        exact E_jx _ h (wk_aw ⟨(.refl _), (.refl _), (.refl _), (.refl _), (.refl _), (.refl _), (.refl _), trivial⟩)
      · rw [ite_t hb] at h
        refine E_gm rfl ?_
        refine E_gm rfl ?_
        refine E_pt rfl rfl ?_
        refine E_mv (v' := (.bool true)) rfl ?_
        refine E_nil ?_
        exact E_jx _ h (wk_aw ⟨(.refl _), (.refl _), (.refl _), (.refl _), (.refl _), (.refl _), (.refl _), trivial⟩)
    · refine E_cs (t := s_4.2) rfl (fun hb => ?_) (fun hb => ?_)
      · rw [ite_t hb] at h
        refine E_reg ?_
        refine E_mv (v' := (.str (ByteArray.mk #[110]))) rfl ?_
        refine E_nil ?_
        refine E_bln ?_
        exact E_jx _ h (wk_aw ⟨(.refl _), (.refl _), (.refl _), trivial⟩)
      · rw [ite_f hb] at h
        refine E_sq ?_
        refine E_reg ?_
        refine E_op0 (v' := (.cptr (Instr.av i_02).cells 0)) rfl rfl ?_
        refine E_op0 (v' := (.int .u8 i_02.Op)) rfl rfl ?_
        refine E_op0 (v' := (.bool (i_02.Op == 2))) rfl rfl ?_
        refine E_mv (v' := (.bool (i_02.Op == 2))) rfl ?_
        refine E_nil ?_
        refine E_nx ?_
        refine E_cs (t := (i_02.Op == 2)) rfl (fun hb => ?_) (fun hb => ?_)
        · rw [ite_t hb] at h
          refine E_reg ?_
          refine E_op0 (v' := (.cptr (Func.av f_01).cells 1)) rfl rfl ?_
          refine E_op0 (v' := (.sl false 1 (List.map (avI .u8) f_01.Locals))) rfl rfl ?_
          refine E_op0 (v' := (.cptr (Instr.av i_02).cells 1)) rfl rfl ?_
          refine E_op0 (v' := (.int .i64 i_02.Arg)) rfl rfl ?_
          obtain ⟨y_5, hy_5, h⟩ := bd_some h
          refine E_iadF rfl rfl hy_5 ?_
          refine E_op0 (v' := (.int .u8 y_5)) rfl rfl ?_
          obtain ⟨vlet_6, hvlet_6, h⟩ := bd_some h
          refine E_callW (windlassref05_letter_ev  hvlet_6) rfl ⟨(.refl _), trivial⟩ (blwL_of ⟨rfl, trivial⟩) rfl ?_
          refine E_mv (v' := (.str vlet_6)) rfl ?_
          refine E_nil ?_
          refine E_bln ?_
          exact E_jx _ h (wk_aw ⟨(.refl _), (.refl _), (.refl _), trivial⟩)
        · rw [ite_f hb] at h
          refine E_sq ?_
          refine E_reg ?_
          refine E_op0 (v' := (.cptr (Instr.av i_02).cells 0)) rfl rfl ?_
          refine E_op0 (v' := (.int .u8 i_02.Op)) rfl rfl ?_
          refine E_op0 (v' := (.bool (i_02.Op == 3))) rfl rfl ?_
          refine E_mv (v' := (.bool (i_02.Op == 3))) rfl ?_
          refine E_nil ?_
          refine E_nx ?_
          refine E_cs (t := (i_02.Op == 3)) rfl (fun hb => ?_) (fun hb => ?_)
          · rw [ite_t hb] at h
            refine E_reg ?_
            refine E_op0 (v' := (.cptr (Func.av f_01).cells 1)) rfl rfl ?_
            refine E_op0 (v' := (.sl false 1 (List.map (avI .u8) f_01.Locals))) rfl rfl ?_
            refine E_op0 (v' := (.cptr (Instr.av i_02).cells 1)) rfl rfl ?_
            refine E_op0 (v' := (.int .i64 i_02.Arg)) rfl rfl ?_
            obtain ⟨y_7, hy_7, h⟩ := bd_some h
            refine E_iadF rfl rfl hy_7 ?_
            refine E_op0 (v' := (.int .u8 y_7)) rfl rfl ?_
            obtain ⟨vlet_8, hvlet_8, h⟩ := bd_some h
            refine E_callW (windlassref05_letter_ev  hvlet_8) rfl ⟨(.refl _), trivial⟩ (blwL_of ⟨rfl, trivial⟩) rfl ?_
            refine E_mv (v' := (.str vlet_8)) rfl ?_
            refine E_nil ?_
            refine E_bln ?_
            exact E_jx _ h (wk_aw ⟨(.refl _), (.refl _), (.refl _), trivial⟩)
          · rw [ite_f hb] at h
            refine E_sq ?_
            refine E_reg ?_
            refine E_op0 (v' := (.cptr (Instr.av i_02).cells 0)) rfl rfl ?_
            refine E_op0 (v' := (.int .u8 i_02.Op)) rfl rfl ?_
            refine E_op0 (v' := (.bool (i_02.Op == 4))) rfl rfl ?_
            refine E_mv (v' := (.bool (i_02.Op == 4))) rfl ?_
            refine E_nil ?_
            refine E_nx ?_
            refine E_cs (t := (i_02.Op == 4)) rfl (fun hb => ?_) (fun hb => ?_)
            · rw [ite_t hb] at h
              refine E_reg ?_
              refine E_mv (v' := (.str (ByteArray.mk #[112]))) rfl ?_
              refine E_nil ?_
              refine E_bln ?_
              exact E_jx _ h (wk_aw ⟨(.refl _), (.refl _), (.refl _), trivial⟩)
            · rw [ite_f hb] at h
              refine E_sq ?_
              refine E_reg ?_
              refine E_op0 (v' := (.cptr (Instr.av i_02).cells 0)) rfl rfl ?_
              refine E_op0 (v' := (.int .u8 i_02.Op)) rfl rfl ?_
              refine E_op0 (v' := (.bool (i_02.Op == 5))) rfl rfl ?_
              refine E_mv (v' := (.bool (i_02.Op == 5))) rfl ?_
              refine E_nil ?_
              refine E_nx ?_
              refine E_cs (t := (i_02.Op == 5)) rfl (fun hb => ?_) (fun hb => ?_)
              · rw [ite_t hb] at h
                refine E_reg ?_
                refine E_mv (v' := (.str (ByteArray.mk #[112]))) rfl ?_
                refine E_mv (v' := (.str (ByteArray.mk #[110]))) rfl ?_
                refine E_nil ?_
                refine E_bln ?_
                exact E_jx _ h (wk_aw ⟨(.refl _), (.refl _), (.refl _), trivial⟩)
              · rw [ite_f hb] at h
                refine E_sq ?_
                refine E_reg ?_
                refine E_op0 (v' := (.cptr (Instr.av i_02).cells 0)) rfl rfl ?_
                refine E_op0 (v' := (.int .u8 i_02.Op)) rfl rfl ?_
                refine E_op0 (v' := (.bool (i_02.Op == 6))) rfl rfl ?_
                refine E_mv (v' := (.bool (i_02.Op == 6))) rfl ?_
                refine E_nil ?_
                refine E_nx ?_
                refine E_cs (t := (i_02.Op == 6)) rfl (fun hb => ?_) (fun hb => ?_)
                · rw [ite_t hb] at h
                  refine E_reg ?_
                  refine E_mv (v' := (.str (ByteArray.mk #[112, 110]))) rfl ?_
                  refine E_nil ?_
                  refine E_bln ?_
                  exact E_jx _ h (wk_aw ⟨(.refl _), (.refl _), (.refl _), trivial⟩)
                · rw [ite_f hb] at h
                  refine E_jp h (fun s_10 => [(3, (.str s_4.1)), (4, (.cptr (Program.av p_00).cells 0)), (5, (.cptr (Func.av f_01).cells 0)), (6, (.cptr (Instr.av i_02).cells 0)), (9, (.str (ByteArray.mk #[]))), (10, (.str (ByteArray.mk #[]))), (68, (.bool s_10))]) (fun s_10 => []) (fun k_9 h => ?_) (fun s_10 h => ?_)
                  · refine E_reg ?_
                    refine E_op0 (v' := (.cptr (Instr.av i_02).cells 0)) rfl rfl ?_
                    refine E_op0 (v' := (.int .u8 i_02.Op)) rfl rfl ?_
                    refine E_op0 (v' := (.bool (decide (i_02.Op ≥ 7)))) rfl rfl ?_
                    refine E_mv (v' := (.bool (decide (i_02.Op ≥ 7)))) rfl ?_
                    refine E_gsT (b := (decide (i_02.Op ≥ 7))) rfl rfl rfl (fun hb => ?_) (fun hb => ?_)
                    · rw [ite_t hb] at h
                      refine E_op0 (v' := (.cptr (Instr.av i_02).cells 0)) rfl rfl ?_
                      refine E_gh rfl ?_
                      refine E_op0 (v' := (.int .u8 i_02.Op)) rfl rfl ?_
                      refine E_gh rfl ?_
                      refine E_op0 (v' := (.bool (decide (i_02.Op ≤ 20)))) rfl rfl ?_
                      refine E_pt rfl rfl ?_
                      refine E_mv (v' := (.bool (decide (i_02.Op ≤ 20)))) rfl ?_
                      refine E_nil ?_
                      exact E_jx _ h (wk_aw ⟨(.refl _), (.refl _), (.refl _), (.refl _), (.refl _), (.refl _), (.refl _), trivial⟩)
                    · rw [ite_f hb] at h
                      refine E_gm rfl ?_
                      refine E_gm rfl ?_
                      refine E_pf rfl rfl ?_
                      refine E_mv (v' := (.bool false)) rfl ?_
                      refine E_nil ?_
                      exact E_jx _ h (wk_aw ⟨(.refl _), (.refl _), (.refl _), (.refl _), (.refl _), (.refl _), (.refl _), trivial⟩)
                  · refine E_cs (t := s_10) rfl (fun hb => ?_) (fun hb => ?_)
                    · rw [ite_t hb] at h
                      refine E_reg ?_
                      refine E_mv (v' := (.str (ByteArray.mk #[110, 110]))) rfl ?_
                      refine E_mv (v' := (.str (ByteArray.mk #[110]))) rfl ?_
                      refine E_nil ?_
                      refine E_bln ?_
                      exact E_jx _ h (wk_aw ⟨(.refl _), (.refl _), (.refl _), trivial⟩)
                    · rw [ite_f hb] at h
                      refine E_sq ?_
                      refine E_reg ?_
                      refine E_op0 (v' := (.cptr (Instr.av i_02).cells 0)) rfl rfl ?_
                      refine E_op0 (v' := (.int .u8 i_02.Op)) rfl rfl ?_
                      refine E_op0 (v' := (.bool (i_02.Op == 21))) rfl rfl ?_
                      refine E_mv (v' := (.bool (i_02.Op == 21))) rfl ?_
                      refine E_nil ?_
                      refine E_nx ?_
                      refine E_cs (t := (i_02.Op == 21)) rfl (fun hb => ?_) (fun hb => ?_)
                      · rw [ite_t hb] at h
                        refine E_skip ?_
                        refine E_bln ?_
                        exact E_jx _ h (wk_aw ⟨(.refl _), (.refl _), (.refl _), trivial⟩)
                      · rw [ite_f hb] at h
                        refine E_jp h (fun s_12 => [(3, (.str s_4.1)), (4, (.cptr (Program.av p_00).cells 0)), (5, (.cptr (Func.av f_01).cells 0)), (6, (.cptr (Instr.av i_02).cells 0)), (9, (.str (ByteArray.mk #[]))), (10, (.str (ByteArray.mk #[]))), (81, (.bool s_12))]) (fun s_12 => []) (fun k_11 h => ?_) (fun s_12 h => ?_)
                        · refine E_reg ?_
                          refine E_op0 (v' := (.cptr (Instr.av i_02).cells 0)) rfl rfl ?_
                          refine E_op0 (v' := (.int .u8 i_02.Op)) rfl rfl ?_
                          refine E_op0 (v' := (.bool (i_02.Op == 22))) rfl rfl ?_
                          refine E_mv (v' := (.bool (i_02.Op == 22))) rfl ?_
                          refine E_gsT (b := (i_02.Op == 22)) rfl rfl rfl (fun hb => ?_) (fun hb => ?_)
                          · rw [ite_f hb] at h
                            refine E_op0 (v' := (.cptr (Instr.av i_02).cells 0)) rfl rfl ?_
                            refine E_gh rfl ?_
                            refine E_op0 (v' := (.int .u8 i_02.Op)) rfl rfl ?_
                            refine E_gh rfl ?_
                            refine E_op0 (v' := (.bool (i_02.Op == 26))) rfl rfl ?_
                            refine E_pf rfl rfl ?_
                            refine E_mv (v' := (.bool (i_02.Op == 26))) rfl ?_
                            refine E_gsT (b := (i_02.Op == 26)) rfl rfl rfl (fun hb => ?_) (fun hb => ?_)
                            · rw [ite_f hb] at h
                              refine E_op0 (v' := (.cptr (Instr.av i_02).cells 0)) rfl rfl ?_
                              refine E_gh rfl ?_
                              refine E_op0 (v' := (.int .u8 i_02.Op)) rfl rfl ?_
                              refine E_gh rfl ?_
                              refine E_op0 (v' := (.bool (i_02.Op == 29))) rfl rfl ?_
                              refine E_pf rfl rfl ?_
                              refine E_mv (v' := (.bool (i_02.Op == 29))) rfl ?_
                              refine E_gsT (b := (i_02.Op == 29)) rfl rfl rfl (fun hb => ?_) (fun hb => ?_)
                              · rw [ite_f hb] at h
                                refine E_op0 (v' := (.cptr (Instr.av i_02).cells 0)) rfl rfl ?_
                                refine E_gh rfl ?_
                                refine E_op0 (v' := (.int .u8 i_02.Op)) rfl rfl ?_
                                refine E_gh rfl ?_
                                refine E_op0 (v' := (.bool (i_02.Op == 30))) rfl rfl ?_
                                refine E_pf rfl rfl ?_
                                refine E_mv (v' := (.bool (i_02.Op == 30))) rfl ?_
                                refine E_nil ?_
                                exact E_jx _ h (wk_aw ⟨(.refl _), (.refl _), (.refl _), (.refl _), (.refl _), (.refl _), (.refl _), trivial⟩)
                              · rw [ite_t hb] at h
                                refine E_gm rfl ?_
                                refine E_gm rfl ?_
                                refine E_pt rfl rfl ?_
                                refine E_mv (v' := (.bool true)) rfl ?_
                                refine E_nil ?_
                                exact E_jx _ h (wk_aw ⟨(.refl _), (.refl _), (.refl _), (.refl _), (.refl _), (.refl _), (.refl _), trivial⟩)
                            · rw [ite_t hb] at h
                              refine E_gm rfl ?_
                              refine E_gm rfl ?_
                              refine E_pt rfl rfl ?_
                              refine E_mv (v' := (.bool true)) rfl ?_
                              refine E_gm rfl ?_
                              refine E_gm rfl ?_
                              refine E_gm rfl ?_
                              refine E_pt rfl rfl ?_
                              refine E_mv (v' := (.bool true)) rfl ?_
                              refine E_nil ?_
                              exact E_jx _ h (wk_aw ⟨(.refl _), (.refl _), (.refl _), (.refl _), (.refl _), (.refl _), (.refl _), trivial⟩)
                          · rw [ite_t hb] at h
                            refine E_gm rfl ?_
                            refine E_gm rfl ?_
                            refine E_pt rfl rfl ?_
                            refine E_mv (v' := (.bool true)) rfl ?_
                            refine E_gm rfl ?_
                            refine E_gm rfl ?_
                            refine E_gm rfl ?_
                            refine E_pt rfl rfl ?_
                            refine E_mv (v' := (.bool true)) rfl ?_
                            refine E_gm rfl ?_
                            refine E_gm rfl ?_
                            refine E_gm rfl ?_
                            refine E_pt rfl rfl ?_
                            refine E_mv (v' := (.bool true)) rfl ?_
                            refine E_nil ?_
                            exact E_jx _ h (wk_aw ⟨(.refl _), (.refl _), (.refl _), (.refl _), (.refl _), (.refl _), (.refl _), trivial⟩)
                        · refine E_cs (t := s_12) rfl (fun hb => ?_) (fun hb => ?_)
                          · rw [ite_t hb] at h
                            refine E_reg ?_
                            refine E_mv (v' := (.str (ByteArray.mk #[110]))) rfl ?_
                            refine E_nil ?_
                            refine E_bln ?_
                            exact E_jx _ h (wk_aw ⟨(.refl _), (.refl _), (.refl _), trivial⟩)
                          · rw [ite_f hb] at h
                            refine E_jp h (fun s_14 => [(3, (.str s_4.1)), (4, (.cptr (Program.av p_00).cells 0)), (5, (.cptr (Func.av f_01).cells 0)), (6, (.cptr (Instr.av i_02).cells 0)), (9, (.str (ByteArray.mk #[]))), (10, (.str (ByteArray.mk #[]))), (100, (.bool s_14))]) (fun s_14 => []) (fun k_13 h => ?_) (fun s_14 h => ?_)
                            · refine E_reg ?_
                              refine E_op0 (v' := (.cptr (Instr.av i_02).cells 0)) rfl rfl ?_
                              refine E_op0 (v' := (.int .u8 i_02.Op)) rfl rfl ?_
                              refine E_op0 (v' := (.bool (i_02.Op == 23))) rfl rfl ?_
                              refine E_mv (v' := (.bool (i_02.Op == 23))) rfl ?_
                              refine E_gsT (b := (i_02.Op == 23)) rfl rfl rfl (fun hb => ?_) (fun hb => ?_)
                              · rw [ite_f hb] at h
                                refine E_op0 (v' := (.cptr (Instr.av i_02).cells 0)) rfl rfl ?_
                                refine E_gh rfl ?_
                                refine E_op0 (v' := (.int .u8 i_02.Op)) rfl rfl ?_
                                refine E_gh rfl ?_
                                refine E_op0 (v' := (.bool (i_02.Op == 25))) rfl rfl ?_
                                refine E_pf rfl rfl ?_
                                refine E_mv (v' := (.bool (i_02.Op == 25))) rfl ?_
                                refine E_nil ?_
                                exact E_jx _ h (wk_aw ⟨(.refl _), (.refl _), (.refl _), (.refl _), (.refl _), (.refl _), (.refl _), trivial⟩)
                              · rw [ite_t hb] at h
                                refine E_gm rfl ?_
                                refine E_gm rfl ?_
                                refine E_pt rfl rfl ?_
                                refine E_mv (v' := (.bool true)) rfl ?_
                                refine E_nil ?_
                                exact E_jx _ h (wk_aw ⟨(.refl _), (.refl _), (.refl _), (.refl _), (.refl _), (.refl _), (.refl _), trivial⟩)
                            · refine E_cs (t := s_14) rfl (fun hb => ?_) (fun hb => ?_)
                              · rw [ite_t hb] at h
                                refine E_sq ?_
                                refine E_reg ?_
                                refine E_op0 (v' := (.cptr (Program.av p_00).cells 0)) rfl rfl ?_
                                refine E_op0 (v' := (.sl false 5 (List.map Func.av p_00.Funcs))) rfl rfl ?_
                                refine E_op0 (v' := (.cptr (Instr.av i_02).cells 1)) rfl rfl ?_
                                refine E_op0 (v' := (.int .i64 i_02.Arg)) rfl rfl ?_
                                obtain ⟨y_15, hy_15, h⟩ := bd_some h
                                refine E_iadF rfl rfl hy_15 ?_
                                refine E_op0 (v' := (Func.av y_15)) rfl rfl ?_
                                refine E_op (v' := .ptr 0 0 0) (S' := [.arr 0 [(.int .i64 0), .nils, (.bool false), (.int .i64 0), .nils]]) rfl rfl rfl ?_
                                refine E_do (S' := [.arr 0 [(.int .i64 y_15.Params), (.sl false 1 (List.map (avI .u8) y_15.Locals)), (.bool y_15.Result), (.int .i64 y_15.Keep), (.sl false 3 (List.map Instr.av y_15.Code))]]) rfl rfl ?_
                                refine E_nil ?_
                                refine E_nx ?_
                                refine E_sq ?_
                                refine E_reg ?_
                                refine E_op0 (v' := (.ptr 0 0 1)) rfl rfl ?_
                                refine E_op (v' := (.sl false 1 (List.map (avI .u8) y_15.Locals))) (S' := [.arr 0 [(.int .i64 y_15.Params), (.sl false 1 (List.map (avI .u8) y_15.Locals)), (.bool y_15.Result), (.int .i64 y_15.Keep), (.sl false 3 (List.map Instr.av y_15.Code))]]) rfl rfl rfl ?_
                                refine E_op0 (v' := (.ptr 0 0 0)) rfl rfl ?_
                                refine E_op (v' := (.int .i64 y_15.Params)) (S' := [.arr 0 [(.int .i64 y_15.Params), (.sl false 1 (List.map (avI .u8) y_15.Locals)), (.bool y_15.Result), (.int .i64 y_15.Keep), (.sl false 3 (List.map Instr.av y_15.Code))]]) rfl rfl rfl ?_
                                obtain ⟨l_16, hl_16, h⟩ := bd_some h
                                refine E_slcL rfl (fun _ => rfl) (fun h0 => hiN_int h0) hl_16 ?_
                                obtain ⟨vlet_17, hvlet_17, h⟩ := bd_some h
                                refine E_callW (windlassref05_letters_ev  hvlet_17) rfl ⟨(.refl _), trivial⟩ (blwL_of ⟨((encI .u8).blws 0), trivial⟩) rfl ?_
                                refine E_mv (v' := (.str vlet_17)) rfl ?_
                                refine E_nil ?_
                                refine E_nx ?_
                                refine E_jp h (fun s_19 => [(3, (.str s_4.1)), (9, (.str vlet_17)), (10, (.str (ByteArray.mk #[]))), (127, (.bool s_19))]) (fun s_19 => []) (fun k_18 h => ?_) (fun s_19 h => ?_)
                                · refine E_reg ?_
                                  refine E_op0 (v' := (.cptr (Instr.av i_02).cells 0)) rfl rfl ?_
                                  refine E_op0 (v' := (.int .u8 i_02.Op)) rfl rfl ?_
                                  refine E_op0 (v' := (.bool (i_02.Op == 23))) rfl rfl ?_
                                  refine E_mv (v' := (.bool (i_02.Op == 23))) rfl ?_
                                  refine E_gsT (b := (i_02.Op == 23)) rfl rfl rfl (fun hb => ?_) (fun hb => ?_)
                                  · rw [ite_t hb] at h
                                    refine E_op0 (v' := (.ptr 0 0 2)) rfl rfl ?_
                                    refine E_gh rfl ?_
                                    refine E_op (v' := (.bool y_15.Result)) (S' := [.arr 0 [(.int .i64 y_15.Params), (.sl false 1 (List.map (avI .u8) y_15.Locals)), (.bool y_15.Result), (.int .i64 y_15.Keep), (.sl false 3 (List.map Instr.av y_15.Code))]]) rfl rfl rfl ?_
                                    refine E_pt rfl rfl ?_
                                    refine E_nil ?_
                                    exact E_jx _ h (wk_rn [] rfl (Nat.le_of_ble_eq_true rfl) trivial ⟨(rn_b rfl), (rn_b rfl), (rn_b rfl), (rn_b rfl), trivial⟩)
                                  · rw [ite_f hb] at h
                                    refine E_gm rfl ?_
                                    refine E_pf rfl rfl ?_
                                    refine E_nil ?_
                                    exact E_jx _ h (wk_rn [] rfl (Nat.le_of_ble_eq_true rfl) trivial ⟨(rn_b rfl), (rn_b rfl), (rn_b rfl), (rn_b rfl), trivial⟩)
                                · refine E_cs (t := s_19) rfl (fun hb => ?_) (fun hb => ?_)
                                  · rw [ite_t hb] at h
                                    refine E_reg ?_
                                    refine E_mv (v' := (.str (ByteArray.mk #[110]))) rfl ?_
                                    refine E_nil ?_
                                    refine E_bln ?_
                                    exact E_jx _ h (wk_aw ⟨(.refl _), (.refl _), (.refl _), trivial⟩)
                                  · rw [ite_f hb] at h
                                    refine E_skip ?_
                                    refine E_bln ?_
                                    exact E_jx _ h (wk_aw ⟨(.refl _), (.refl _), (.refl _), trivial⟩)
                              · rw [ite_f hb] at h
                                refine E_sq ?_
                                refine E_reg ?_
                                refine E_op0 (v' := (.cptr (Instr.av i_02).cells 0)) rfl rfl ?_
                                refine E_op0 (v' := (.int .u8 i_02.Op)) rfl rfl ?_
                                refine E_op0 (v' := (.bool (i_02.Op == 24))) rfl rfl ?_
                                refine E_mv (v' := (.bool (i_02.Op == 24))) rfl ?_
                                refine E_nil ?_
                                refine E_nx ?_
                                refine E_cs (t := (i_02.Op == 24)) rfl (fun hb => ?_) (fun hb => ?_)
                                · rw [ite_t hb] at h
                                  refine E_as ?_
                                  refine E_sq ?_
                                  refine E_reg ?_
                                  refine E_op0 (v' := (.cptr (Func.av f_01).cells 2)) rfl rfl ?_
                                  refine E_op0 (v' := (.bool f_01.Result)) rfl rfl ?_
                                  refine E_nil ?_
                                  refine E_nx ?_
                                  refine E_jp h (fun s_21 => [(3, (.str s_4.1)), (9, (.str s_21)), (10, (.str (ByteArray.mk #[])))]) (fun s_21 => []) (fun k_20 h => ?_) (fun s_21 h => ?_)
                                  · refine E_cs (t := f_01.Result) rfl (fun hb => ?_) (fun hb => ?_)
                                    · rw [ite_t hb] at h
                                      refine E_reg ?_
                                      refine E_mv (v' := (.str (ByteArray.mk #[110]))) rfl ?_
                                      refine E_nil ?_
                                      exact E_jx _ h (wk_aw ⟨(.refl _), (.refl _), (.refl _), trivial⟩)
                                    · rw [ite_f hb] at h
                                      refine E_skip ?_
                                      exact E_jx _ h (wk_aw ⟨(.refl _), (.refl _), (.refl _), trivial⟩)
                                  · refine E_sq ?_
                                    refine E_reg ?_
                                    refine E_mv (v' := (.str s_4.1)) rfl ?_
                                    refine E_mv (v' := (.str s_21)) rfl ?_
                                    refine E_op0 (v' := (.bool (!(ByteArray.toList s_4.1 == ByteArray.toList s_21)))) rfl rfl ?_
                                    refine E_nil ?_
                                    refine E_nx ?_
                                    refine E_cs (t := (!(ByteArray.toList s_4.1 == ByteArray.toList s_21))) rfl (fun hb => ?_) (fun hb => ?_)
                                    · rw [ite_t hb] at h
                                      refine E_sq ?_
                                      refine E_reg ?_
                                      refine E_mv (v' := (.str (ByteArray.mk #[33]))) rfl ?_
                                      refine E_nil ?_
                                      refine E_nx ?_
                                      refine E_ret ?_
                                      refine E_blr ?_
                                      refine E_thr ?_
                                      cases h
                                      exact ⟨trivial, _, rfl, (fz_b rfl (.refl _))⟩
                                    · rw [ite_f hb] at h
                                      refine E_skip ?_
                                      refine E_bln ?_
                                      exact E_jx _ h (wk_aw ⟨(.refl _), (.refl _), (.refl _), trivial⟩)
                                · rw [ite_f hb] at h
                                  refine E_sq ?_
                                  refine E_reg ?_
                                  refine E_op0 (v' := (.cptr (Instr.av i_02).cells 0)) rfl rfl ?_
                                  refine E_op0 (v' := (.int .u8 i_02.Op)) rfl rfl ?_
                                  refine E_op0 (v' := (.bool (i_02.Op == 27))) rfl rfl ?_
                                  refine E_mv (v' := (.bool (i_02.Op == 27))) rfl ?_
                                  refine E_nil ?_
                                  refine E_nx ?_
                                  refine E_cs (t := (i_02.Op == 27)) rfl (fun hb => ?_) (fun hb => ?_)
                                  · rw [ite_t hb] at h
                                    refine E_reg ?_
                                    refine E_mv (v' := (.str (ByteArray.mk #[110, 110]))) rfl ?_
                                    refine E_nil ?_
                                    refine E_bln ?_
                                    exact E_jx _ h (wk_aw ⟨(.refl _), (.refl _), (.refl _), trivial⟩)
                                  · rw [ite_f hb] at h
                                    refine E_as ?_
                                    refine E_sq ?_
                                    refine E_reg ?_
                                    refine E_mv (v' := (.str s_4.1)) rfl ?_
                                    refine E_op0 (v' := (.bool (ByteArray.toList s_4.1 == ByteArray.toList (ByteArray.mk #[])))) rfl rfl ?_
                                    refine E_nil ?_
                                    refine E_nx ?_
                                    refine E_sq ?_
                                    refine E_cs (t := (ByteArray.toList s_4.1 == ByteArray.toList (ByteArray.mk #[]))) rfl (fun hb => ?_) (fun hb => ?_)
                                    · rw [ite_t hb] at h
                                      refine E_sq ?_
                                      refine E_reg ?_
                                      refine E_mv (v' := (.str (ByteArray.mk #[33]))) rfl ?_
                                      refine E_nil ?_
                                      refine E_nx ?_
                                      refine E_ret ?_
                                      refine E_thr ?_
                                      refine E_blr ?_
                                      refine E_thr ?_
                                      cases h
                                      exact ⟨trivial, _, rfl, (fz_b rfl (.refl _))⟩
                                    · rw [ite_f hb] at h
                                      refine E_skip ?_
                                      refine E_nx ?_
                                      refine E_sq ?_
                                      refine E_reg ?_
                                      refine E_mv (v' := (.str s_4.1)) rfl ?_
                                      refine E_mv (v' := (.str s_4.1)) rfl ?_
                                      refine E_op0 (v' := (.int .i64 (ByteArray.size s_4.1 : Int))) rfl rfl ?_
                                      refine E_op0 (v' := (.int .i64 (I64 ((ByteArray.size s_4.1 : Int) - 1)))) rfl rfl ?_
                                      obtain ⟨s_22, hs_22, h⟩ := bd_some h
                                      refine E_sls rfl (fun h0 => loN_int h0) (fun _ => by simp [evO, hiN]) hs_22 ?_
                                      refine E_mv (v' := (.str s_22)) rfl ?_
                                      refine E_nil ?_
                                      refine E_nx ?_
                                      refine E_sq ?_
                                      refine E_reg ?_
                                      refine E_op0 (v' := (.cptr (Instr.av i_02).cells 0)) rfl rfl ?_
                                      refine E_op0 (v' := (.int .u8 i_02.Op)) rfl rfl ?_
                                      refine E_op0 (v' := (.bool (i_02.Op == 32))) rfl rfl ?_
                                      refine E_nil ?_
                                      refine E_nx ?_
                                      refine E_cs (t := (i_02.Op == 32)) rfl (fun hb => ?_) (fun hb => ?_)
                                      · rw [ite_t hb] at h
                                        refine E_reg ?_
                                        refine E_mv (v' := (.str s_22)) rfl ?_
                                        refine E_mv (v' := (.str s_22)) rfl ?_
                                        obtain ⟨s_23, hs_23, h⟩ := bd_some h
                                        refine E_cat rfl rfl hs_23 ?_
                                        refine E_mv (v' := (.str s_23)) rfl ?_
                                        refine E_nil ?_
                                        refine E_bln ?_
                                        exact E_jx _ h (wk_aw ⟨(.refl _), (.refl _), (.refl _), trivial⟩)
                                      · rw [ite_f hb] at h
                                        refine E_skip ?_
                                        refine E_bln ?_
                                        exact E_jx _ h (wk_aw ⟨(.refl _), (.refl _), (.refl _), trivial⟩)
  · refine E_as ?_
    refine E_jp h (fun s_25 => [(3, (.str s_2.1)), (9, (.str s_2.2.1)), (10, (.str s_2.2.2)), (156, (.bool s_25))]) (fun s_25 => []) (fun k_24 h => ?_) (fun s_25 h => ?_)
    · refine E_reg ?_
      refine E_mv (v' := (.str s_2.1)) rfl ?_
      refine E_op0 (v' := (.int .i64 (ByteArray.size s_2.1 : Int))) rfl rfl ?_
      refine E_mv (v' := (.str s_2.2.1)) rfl ?_
      refine E_op0 (v' := (.int .i64 (ByteArray.size s_2.2.1 : Int))) rfl rfl ?_
      refine E_op0 (v' := (.bool (decide ((ByteArray.size s_2.1 : Int) < (ByteArray.size s_2.2.1 : Int))))) rfl rfl ?_
      refine E_mv (v' := (.bool (decide ((ByteArray.size s_2.1 : Int) < (ByteArray.size s_2.2.1 : Int))))) rfl ?_
      refine E_gsT (b := (decide ((ByteArray.size s_2.1 : Int) < (ByteArray.size s_2.2.1 : Int)))) rfl rfl rfl (fun hb => ?_) (fun hb => ?_)
      · rw [ite_f hb] at h
        refine E_mv (v' := (.str s_2.1)) rfl ?_
        refine E_gh rfl ?_
        refine E_mv (v' := (.str s_2.1)) rfl ?_
        refine E_gh rfl ?_
        refine E_op0 (v' := (.int .i64 (ByteArray.size s_2.1 : Int))) rfl rfl ?_
        refine E_gh rfl ?_
        refine E_mv (v' := (.str s_2.2.1)) rfl ?_
        refine E_gh rfl ?_
        refine E_op0 (v' := (.int .i64 (ByteArray.size s_2.2.1 : Int))) rfl rfl ?_
        refine E_gh rfl ?_
        refine E_op0 (v' := (.int .i64 (I64 ((ByteArray.size s_2.1 : Int) - (ByteArray.size s_2.2.1 : Int))))) rfl rfl ?_
        refine E_gh rfl ?_
        obtain ⟨s_26, hs_26, h⟩ := bd_some h
        refine E_sls rfl (fun h0 => loN_int h0) (fun _ => by simp [evO, hiN]) hs_26 ?_
        refine E_gh rfl ?_
        refine E_mv (v' := (.str s_2.2.1)) rfl ?_
        refine E_gh rfl ?_
        refine E_op0 (v' := (.bool (!(ByteArray.toList s_26 == ByteArray.toList s_2.2.1)))) rfl rfl ?_
        refine E_pf rfl rfl ?_
        refine E_nil ?_
        exact E_jx _ h (wk_aw ⟨(.refl _), (.refl _), (.refl _), (.refl _), trivial⟩)
      · rw [ite_t hb] at h
        refine E_gm rfl ?_
        refine E_gm rfl ?_
        refine E_gm rfl ?_
        refine E_gm rfl ?_
        refine E_gm rfl ?_
        refine E_gm rfl ?_
        refine E_gm rfl ?_
        refine E_gm rfl ?_
        refine E_pt rfl rfl ?_
        refine E_nil ?_
        exact E_jx _ h (wk_aw ⟨(.refl _), (.refl _), (.refl _), (.refl _), trivial⟩)
    · refine E_sq ?_
      refine E_cs (t := s_25) rfl (fun hb => ?_) (fun hb => ?_)
      · rw [ite_t hb] at h
        refine E_sq ?_
        refine E_reg ?_
        refine E_mv (v' := (.str (ByteArray.mk #[33]))) rfl ?_
        refine E_nil ?_
        refine E_nx ?_
        refine E_ret ?_
        refine E_thr ?_
        cases h
        exact ⟨trivial, _, rfl, (fz_b rfl (.refl _))⟩
      · rw [ite_f hb] at h
        refine E_skip ?_
        refine E_nx ?_
        refine E_sq ?_
        refine E_reg ?_
        refine E_mv (v' := (.str s_2.1)) rfl ?_
        refine E_mv (v' := (.str s_2.1)) rfl ?_
        refine E_op0 (v' := (.int .i64 (ByteArray.size s_2.1 : Int))) rfl rfl ?_
        refine E_mv (v' := (.str s_2.2.1)) rfl ?_
        refine E_op0 (v' := (.int .i64 (ByteArray.size s_2.2.1 : Int))) rfl rfl ?_
        refine E_op0 (v' := (.int .i64 (I64 ((ByteArray.size s_2.1 : Int) - (ByteArray.size s_2.2.1 : Int))))) rfl rfl ?_
        obtain ⟨s_27, hs_27, h⟩ := bd_some h
        refine E_sls rfl (fun _ => rfl) (fun h0 => hiN_int h0) hs_27 ?_
        refine E_mv (v' := (.str s_2.2.2)) rfl ?_
        obtain ⟨s_28, hs_28, h⟩ := bd_some h
        refine E_cat rfl rfl hs_28 ?_
        refine E_mv (v' := (.str s_28)) rfl ?_
        refine E_nil ?_
        refine E_nx ?_
        refine E_ret ?_
        cases h
        exact ⟨trivial, _, rfl, (fz_b rfl (.refl _))⟩
/- windlass/windlassref05.Next -/
def fc33 : FC := (.seq (.reg [⟨(some 3), none, .op (.box (.t 0))⟩,
  ⟨(some 6), none, .op (.mv (.v (.bool false)))⟩] [])
  (.seq (.seq (.reg [⟨(some 7), none, .op (.fad 0 (.t 3))⟩,
  ⟨(some 8), none, .op (.load none (.t 7))⟩] [])
  (.block 0 (.seq (.reg [⟨(some 10), none, .op (.bin .none .eql (.t 8) (.v (.int .u8 21)))⟩,
  ⟨(some 9), none, .op (.mv (.t 10))⟩] [])
  (.cond (.t 9)
  (.seq (.reg [⟨(some 11), none, .op (.mv (.t 2))⟩,
  ⟨(some 12), none, .op (.fad 1 (.t 3))⟩,
  ⟨(some 13), none, .op (.load none (.t 12))⟩,
  ⟨(some 14), none, .op (.bin .none .eql (.t 11) (.t 13))⟩,
  ⟨(some 6), none, .op (.mv (.t 14))⟩] [])
  .ret)
  (.seq (.reg [⟨(some 16), none, .op (.bin .none .eql (.t 8) (.v (.int .u8 22)))⟩,
  ⟨(some 15), none, .op (.mv (.t 16))⟩] [])
  (.cond (.t 15)
  (.seq (.reg [⟨(some 17), none, .op (.mv (.t 2))⟩,
  ⟨(some 18), none, .op (.mv (.t 1))⟩,
  ⟨(some 19), none, .op (.bin .none .add (.t 18) (.v (.int .i64 1)))⟩,
  ⟨(some 20), none, .op (.bin .none .eql (.t 17) (.t 19))⟩,
  ⟨(some 21), none, .op (.mv (.t 20))⟩,
  ⟨(some 22), some (21, false), .op (.mv (.t 2))⟩,
  ⟨(some 23), some (21, false), .op (.fad 1 (.t 3))⟩,
  ⟨(some 24), some (21, false), .op (.load none (.t 23))⟩,
  ⟨(some 25), some (21, false), .op (.bin .none .eql (.t 22) (.t 24))⟩,
  ⟨(some 26), none, .op (.pick (.t 21) (.v (.bool true)) (.t 25))⟩,
  ⟨(some 6), none, .op (.mv (.t 26))⟩] [])
  .ret)
  (.seq (.seq (.reg [⟨(some 28), none, .op (.bin .none .eql (.t 8) (.v (.int .u8 24)))⟩,
  ⟨(some 27), none, .op (.mv (.t 28))⟩] [])
  (.cond (.t 27)
  .skip
  (.seq (.reg [⟨(some 29), none, .op (.bin .none .eql (.t 8) (.v (.int .u8 26)))⟩,
  ⟨(some 27), none, .op (.mv (.t 29))⟩] [])
  (.cond (.t 27)
  .skip
  (.reg [⟨(some 30), none, .op (.bin .none .eql (.t 8) (.v (.int .u8 30)))⟩,
  ⟨(some 27), none, .op (.mv (.t 30))⟩] [])))))
  (.cond (.t 27)
  (.seq (.reg [⟨(some 6), none, .op (.mv (.v (.bool false)))⟩] [])
  .ret)
  .skip))))))))
  (.seq (.reg [⟨(some 31), none, .op (.mv (.t 2))⟩,
  ⟨(some 32), none, .op (.mv (.t 1))⟩,
  ⟨(some 33), none, .op (.bin .none .add (.t 32) (.v (.int .i64 1)))⟩,
  ⟨(some 34), none, .op (.bin .none .eql (.t 31) (.t 33))⟩,
  ⟨(some 6), none, .op (.mv (.t 34))⟩] [])
  .ret)))
theorem fn33 : Fn3 Try.prog 33 35 [(6, none)] fc33 := ⟨_, _, Try.func33, rfl, rfl, rfl, by kernel_rfl⟩
def windlassref05_Next_s (i_00 : Instr) (a_01 : Int) (b_02 : Int) : Option Bool :=
  (if (i_00.Op == 21) then (some (b_02 == i_00.Arg)) else (if (i_00.Op == 22) then (jp (fun (s_2 : Bool) => (some s_2)) (fun k_1 => (if (b_02 == (I64 (a_01 + 1))) then (k_1 true) else (k_1 (b_02 == i_00.Arg))))) else (jp (fun (s_4 : Bool) => (if s_4 then (some false) else (some (b_02 == (I64 (a_01 + 1)))))) (fun k_3 => (if (i_00.Op == 24) then (k_3 (i_00.Op == 24)) else (if (i_00.Op == 26) then (k_3 (i_00.Op == 26)) else (k_3 (i_00.Op == 30))))))))
theorem windlassref05_Next_ev {i_00 : Instr} {a_01 : Int} {b_02 : Int} {r : Bool} (h : windlassref05_Next_s i_00 a_01 b_02 = some r) : PureEv Try.prog 33 [(Instr.av i_00), (.int .i64 a_01), (.int .i64 b_02)] (.bool r) := by
  unfold windlassref05_Next_s at h
  refine PureEv_end mixed fn33 (by simp) [] 6 ?_
  unfold fc33
  refine E_sq ?_
  refine E_reg ?_
  refine E_op0 (v' := (.cptr (Instr.av i_00).cells 0)) rfl rfl ?_
  refine E_mv (v' := (.bool false)) rfl ?_
  refine E_nil ?_
  refine E_nx ?_
  refine E_as ?_
  refine E_sq ?_
  refine E_reg ?_
  refine E_op0 (v' := (.cptr (Instr.av i_00).cells 0)) rfl rfl ?_
  refine E_op0 (v' := (.int .u8 i_00.Op)) rfl rfl ?_
  refine E_nil ?_
  refine E_nx ?_
  refine E_sq ?_
  refine E_block ?_
  refine E_sq ?_
  refine E_reg ?_
  refine E_op0 (v' := (.bool (i_00.Op == 21))) rfl rfl ?_
  refine E_mv (v' := (.bool (i_00.Op == 21))) rfl ?_
  refine E_nil ?_
  refine E_nx ?_
  refine E_cs (t := (i_00.Op == 21)) rfl (fun hb => ?_) (fun hb => ?_)
  · rw [ite_t hb] at h
    refine E_sq ?_
    refine E_reg ?_
    refine E_mv (v' := (.int .i64 b_02)) rfl ?_
    refine E_op0 (v' := (.cptr (Instr.av i_00).cells 1)) rfl rfl ?_
    refine E_op0 (v' := (.int .i64 i_00.Arg)) rfl rfl ?_
    refine E_op0 (v' := (.bool (b_02 == i_00.Arg))) rfl rfl ?_
    refine E_mv (v' := (.bool (b_02 == i_00.Arg))) rfl ?_
    refine E_nil ?_
    refine E_nx ?_
    refine E_ret ?_
    refine E_blr ?_
    refine E_thr ?_
    cases h
    exact ⟨trivial, _, rfl, (fz_b rfl (.refl _))⟩
  · rw [ite_f hb] at h
    refine E_sq ?_
    refine E_reg ?_
    refine E_op0 (v' := (.bool (i_00.Op == 22))) rfl rfl ?_
    refine E_mv (v' := (.bool (i_00.Op == 22))) rfl ?_
    refine E_nil ?_
    refine E_nx ?_
    refine E_cs (t := (i_00.Op == 22)) rfl (fun hb => ?_) (fun hb => ?_)
    · rw [ite_t hb] at h
      refine E_jp h (fun s_2 => [(6, (.bool s_2))]) (fun s_2 => []) (fun k_1 h => ?_) (fun s_2 h => ?_)
      · refine E_reg ?_
        refine E_mv (v' := (.int .i64 b_02)) rfl ?_
        refine E_mv (v' := (.int .i64 a_01)) rfl ?_
        refine E_op0 (v' := (.int .i64 (I64 (a_01 + 1)))) rfl rfl ?_
        refine E_op0 (v' := (.bool (b_02 == (I64 (a_01 + 1))))) rfl rfl ?_
        refine E_mv (v' := (.bool (b_02 == (I64 (a_01 + 1))))) rfl ?_
        refine E_gsT (b := (b_02 == (I64 (a_01 + 1)))) rfl rfl rfl (fun hb => ?_) (fun hb => ?_)
        · rw [ite_f hb] at h
          refine E_mv (v' := (.int .i64 b_02)) rfl ?_
          refine E_gh rfl ?_
          refine E_op0 (v' := (.cptr (Instr.av i_00).cells 1)) rfl rfl ?_
          refine E_gh rfl ?_
          refine E_op0 (v' := (.int .i64 i_00.Arg)) rfl rfl ?_
          refine E_gh rfl ?_
          refine E_op0 (v' := (.bool (b_02 == i_00.Arg))) rfl rfl ?_
          refine E_pf rfl rfl ?_
          refine E_mv (v' := (.bool (b_02 == i_00.Arg))) rfl ?_
          refine E_nil ?_
          exact E_jx _ h (wk_aw ⟨(.refl _), trivial⟩)
        · rw [ite_t hb] at h
          refine E_gm rfl ?_
          refine E_gm rfl ?_
          refine E_gm rfl ?_
          refine E_pt rfl rfl ?_
          refine E_mv (v' := (.bool true)) rfl ?_
          refine E_nil ?_
          exact E_jx _ h (wk_aw ⟨(.refl _), trivial⟩)
      · refine E_ret ?_
        refine E_blr ?_
        refine E_thr ?_
        cases h
        exact ⟨trivial, _, rfl, (fz_b rfl (.refl _))⟩
    · rw [ite_f hb] at h
      refine E_as ?_
      refine E_sq ?_
      refine E_reg ?_
      refine E_op0 (v' := (.bool (i_00.Op == 24))) rfl rfl ?_
      refine E_mv (v' := (.bool (i_00.Op == 24))) rfl ?_
      refine E_nil ?_
      refine E_nx ?_
      refine E_jp h (fun s_4 => [(1, (.int .i64 a_01)), (2, (.int .i64 b_02)), (27, (.bool s_4))]) (fun s_4 => []) (fun k_3 h => ?_) (fun s_4 h => ?_)
      · refine E_cs (t := (i_00.Op == 24)) rfl (fun hb => ?_) (fun hb => ?_)
        · rw [ite_t hb] at h
          refine E_skip ?_
          exact E_jx _ h (wk_aw ⟨(.refl _), (.refl _), (.refl _), trivial⟩)
        · rw [ite_f hb] at h
          refine E_sq ?_
          refine E_reg ?_
          refine E_op0 (v' := (.bool (i_00.Op == 26))) rfl rfl ?_
          refine E_mv (v' := (.bool (i_00.Op == 26))) rfl ?_
          refine E_nil ?_
          refine E_nx ?_
          refine E_cs (t := (i_00.Op == 26)) rfl (fun hb => ?_) (fun hb => ?_)
          · rw [ite_t hb] at h
            refine E_skip ?_
            exact E_jx _ h (wk_aw ⟨(.refl _), (.refl _), (.refl _), trivial⟩)
          · rw [ite_f hb] at h
            refine E_reg ?_
            refine E_op0 (v' := (.bool (i_00.Op == 30))) rfl rfl ?_
            refine E_mv (v' := (.bool (i_00.Op == 30))) rfl ?_
            refine E_nil ?_
            exact E_jx _ h (wk_aw ⟨(.refl _), (.refl _), (.refl _), trivial⟩)
      · refine E_cs (t := s_4) rfl (fun hb => ?_) (fun hb => ?_)
        · rw [ite_t hb] at h
          refine E_sq ?_
          refine E_reg ?_
          refine E_mv (v' := (.bool false)) rfl ?_
          refine E_nil ?_
          refine E_nx ?_
          refine E_ret ?_
          refine E_blr ?_
          refine E_thr ?_
          cases h
          exact ⟨trivial, _, rfl, (fz_b rfl (.refl _))⟩
        · rw [ite_f hb] at h
          refine E_skip ?_
          refine E_bln ?_
          refine E_nx ?_
          refine E_sq ?_
          refine E_reg ?_
          refine E_mv (v' := (.int .i64 b_02)) rfl ?_
          refine E_mv (v' := (.int .i64 a_01)) rfl ?_
          refine E_op0 (v' := (.int .i64 (I64 (a_01 + 1)))) rfl rfl ?_
          refine E_op0 (v' := (.bool (b_02 == (I64 (a_01 + 1))))) rfl rfl ?_
          refine E_mv (v' := (.bool (b_02 == (I64 (a_01 + 1))))) rfl ?_
          refine E_nil ?_
          refine E_nx ?_
          refine E_ret ?_
          cases h
          exact ⟨trivial, _, rfl, (fz_b rfl (.refl _))⟩
/- windlass/windlassref05.Stacks -/
def fc21 : FC := (.seq (.reg [⟨(some 2), none, .op (.box (.t 0))⟩,
  ⟨(some 3), none, .op (.box (.t 1))⟩,
  ⟨(some 4), none, .op (.mv (.v .nils))⟩,
  ⟨(some 5), none, .op (.mv (.v (.bool false)))⟩,
  ⟨(some 6), none, .op (.mv (.v (.bool false)))⟩] [])
  (.seq (.reg [⟨(some 14), none, .op (.fad 4 (.t 3))⟩,
  ⟨(some 15), none, .op (.load none (.t 14))⟩,
  ⟨(some 16), none, .op (.len .sl (.t 15))⟩,
  ⟨(some 17), none, .op (.mksl none 16 [(.str (ByteArray.mk #[]))] (.t 16) (.t 16))⟩,
  ⟨(some 7), none, .op (.mv (.t 17))⟩] [])
  (.seq (.seq (.reg [⟨(some 18), none, .op (.mv (.t 7))⟩,
  ⟨(some 19), none, .op (.len .sl (.t 18))⟩,
  ⟨(some 20), none, .op (.mv (.v (.int .i64 0)))⟩] [])
  (.block 0 (.loop (.seq (.reg [⟨(some 21), none, .op (.bin .none .lss (.t 20) (.t 19))⟩] [])
  (.seq (.cond (.t 21)
  .skip
  (.exit 0))
  (.seq (.block 1 (.seq (.reg [⟨(some 22), none, .op (.mv (.t 20))⟩,
  ⟨(some 8), none, .op (.mv (.t 22))⟩] [])
  (.reg [⟨(some 23), none, .op (.mv (.t 7))⟩,
  ⟨(some 24), none, .op (.mv (.t 8))⟩,
  ⟨(some 25), none, .op (.iad none none (.t 23) (.t 24))⟩,
  ⟨none, none, .op (.store 1 (.t 25) (.v (.str (ByteArray.mk #[63]))))⟩] [])))
  (.reg [⟨(some 26), none, .op (.bin .none .add (.t 20) (.v (.int .i64 1)))⟩,
  ⟨(some 20), none, .op (.mv (.t 26))⟩] [])))))))
  (.seq (.reg [⟨(some 27), none, .op (.mv (.t 7))⟩,
  ⟨(some 28), none, .op (.iad none none (.t 27) (.v (.int .i64 0)))⟩,
  ⟨none, none, .op (.store 1 (.t 28) (.v (.str (ByteArray.mk #[]))))⟩] [])
  (.seq (.reg [⟨(some 9), none, .op (.mv (.v (.bool false)))⟩] [])
  (.seq (.seq (.reg [⟨(some 10), none, .op (.mv (.v (.bool true)))⟩] [])
  (.block 2 (.loop (.seq (.seq (.reg [⟨(some 29), none, .op (.mv (.t 10))⟩] [])
  (.cond (.t 29)
  .skip
  (.exit 2)))
  (.block 3 (.seq (.reg [⟨(some 10), none, .op (.mv (.v (.bool false)))⟩] [])
  (.seq (.reg [⟨(some 30), none, .op (.fad 4 (.t 3))⟩,
  ⟨(some 31), none, .op (.load none (.t 30))⟩,
  ⟨(some 32), none, .op (.len .sl (.t 31))⟩,
  ⟨(some 33), none, .op (.mv (.v (.int .i64 0)))⟩] [])
  (.block 4 (.loop (.seq (.reg [⟨(some 34), none, .op (.bin .none .lss (.t 33) (.t 32))⟩] [])
  (.seq (.cond (.t 34)
  .skip
  (.exit 4))
  (.seq (.block 5 (.seq (.reg [⟨(some 35), none, .op (.mv (.t 33))⟩,
  ⟨(some 11), none, .op (.mv (.t 35))⟩] [])
  (.seq (.seq (.reg [⟨(some 36), none, .op (.mv (.t 7))⟩,
  ⟨(some 37), none, .op (.mv (.t 11))⟩,
  ⟨(some 38), none, .op (.iad none none (.t 36) (.t 37))⟩,
  ⟨(some 39), none, .op (.load none (.t 38))⟩,
  ⟨(some 40), none, .op (.bin .none .eql (.t 39) (.v (.str (ByteArray.mk #[63]))))⟩] [])
  (.cond (.t 40)
  (.exit 5)
  .skip))
  (.seq (.reg [⟨(some 41), none, .op (.load (some 1) (.t 2))⟩,
  ⟨(some 42), none, .op (.load (some 5) (.t 3))⟩,
  ⟨(some 43), none, .op (.fad 4 (.t 3))⟩,
  ⟨(some 44), none, .op (.load none (.t 43))⟩,
  ⟨(some 45), none, .op (.mv (.t 11))⟩,
  ⟨(some 46), none, .op (.iad none (some 3) (.t 44) (.t 45))⟩,
  ⟨(some 47), none, .op (.load (some 3) (.t 46))⟩,
  ⟨(some 48), none, .op (.mv (.t 7))⟩,
  ⟨(some 49), none, .op (.mv (.t 11))⟩,
  ⟨(some 50), none, .op (.iad none none (.t 48) (.t 49))⟩,
  ⟨(some 51), none, .op (.load none (.t 50))⟩,
  ⟨(some 52), none, .call 32 [(.t 41), (.t 42), (.t 47), (.t 51)]⟩,
  ⟨(some 12), none, .op (.mv (.t 52))⟩] [])
  (.seq (.seq (.reg [⟨(some 53), none, .op (.mv (.t 12))⟩,
  ⟨(some 54), none, .op (.bin .none .eql (.t 53) (.v (.str (ByteArray.mk #[33]))))⟩] [])
  (.cond (.t 54)
  (.seq (.reg [⟨(some 4), none, .op (.mv (.v .nils))⟩,
  ⟨(some 5), none, .op (.mv (.v (.bool false)))⟩,
  ⟨(some 6), none, .op (.mv (.v (.bool false)))⟩] [])
  .ret)
  .skip))
  (.seq (.reg [⟨(some 55), none, .op (.mv (.t 9))⟩,
  ⟨(some 56), none, .op (.mv (.t 55))⟩,
  ⟨(some 57), some (56, false), .op (.mv (.t 12))⟩,
  ⟨(some 58), some (56, false), .op (.len .str (.t 57))⟩,
  ⟨(some 59), some (56, false), .op (.bin .none .gtr (.t 58) (.v (.int .i64 16)))⟩,
  ⟨(some 60), none, .op (.pick (.t 56) (.v (.bool true)) (.t 59))⟩,
  ⟨(some 9), none, .op (.mv (.t 60))⟩] [])
  (.seq (.reg [⟨(some 13), none, .op (.mv (.v (.int .i64 0)))⟩] [])
  (.block 6 (.loop (.seq (.seq (.reg [⟨(some 61), none, .op (.mv (.t 13))⟩,
  ⟨(some 62), none, .op (.fad 4 (.t 3))⟩,
  ⟨(some 63), none, .op (.load none (.t 62))⟩,
  ⟨(some 64), none, .op (.len .sl (.t 63))⟩,
  ⟨(some 65), none, .op (.bin .none .leq (.t 61) (.t 64))⟩] [])
  (.cond (.t 65)
  .skip
  (.exit 6)))
  (.seq (.block 7 (.seq (.seq (.reg [⟨(some 68), none, .op (.fad 4 (.t 3))⟩,
  ⟨(some 69), none, .op (.load none (.t 68))⟩,
  ⟨(some 70), none, .op (.mv (.t 11))⟩,
  ⟨(some 71), none, .op (.iad none (some 3) (.t 69) (.t 70))⟩,
  ⟨(some 72), none, .op (.load (some 3) (.t 71))⟩,
  ⟨(some 73), none, .op (.mv (.t 11))⟩,
  ⟨(some 74), none, .op (.mv (.t 13))⟩,
  ⟨(some 75), none, .call 33 [(.t 72), (.t 73), (.t 74)]⟩,
  ⟨(some 76), none, .op (.un .not (.t 75))⟩] [])
  (.cond (.t 76)
  (.exit 7)
  .skip))
  (.seq (.seq (.reg [⟨(some 77), none, .op (.mv (.t 13))⟩,
  ⟨(some 78), none, .op (.fad 4 (.t 3))⟩,
  ⟨(some 79), none, .op (.load none (.t 78))⟩,
  ⟨(some 80), none, .op (.len .sl (.t 79))⟩,
  ⟨(some 81), none, .op (.bin .none .eql (.t 77) (.t 80))⟩] [])
  (.cond (.t 81)
  (.seq (.reg [⟨(some 4), none, .op (.mv (.v .nils))⟩,
  ⟨(some 5), none, .op (.mv (.v (.bool false)))⟩,
  ⟨(some 6), none, .op (.mv (.v (.bool false)))⟩] [])
  .ret)
  .skip))
  (.seq (.seq (.reg [⟨(some 82), none, .op (.mv (.t 7))⟩,
  ⟨(some 83), none, .op (.mv (.t 13))⟩,
  ⟨(some 84), none, .op (.iad none none (.t 82) (.t 83))⟩,
  ⟨(some 85), none, .op (.load none (.t 84))⟩,
  ⟨(some 86), none, .op (.bin .none .eql (.t 85) (.v (.str (ByteArray.mk #[63]))))⟩] [])
  (.cond (.t 86)
  (.seq (.reg [⟨(some 87), none, .op (.mv (.t 7))⟩,
  ⟨(some 88), none, .op (.mv (.t 13))⟩,
  ⟨(some 89), none, .op (.mv (.t 12))⟩,
  ⟨(some 90), none, .op (.iad none none (.t 87) (.t 88))⟩,
  ⟨none, none, .op (.store 1 (.t 90) (.t 89))⟩] [])
  (.reg [⟨(some 10), none, .op (.mv (.v (.bool true)))⟩] []))
  .skip))
  (.seq (.reg [⟨(some 91), none, .op (.mv (.t 7))⟩,
  ⟨(some 92), none, .op (.mv (.t 13))⟩,
  ⟨(some 93), none, .op (.iad none none (.t 91) (.t 92))⟩,
  ⟨(some 94), none, .op (.load none (.t 93))⟩,
  ⟨(some 95), none, .op (.mv (.t 12))⟩,
  ⟨(some 96), none, .op (.bin .none .neq (.t 94) (.t 95))⟩] [])
  (.cond (.t 96)
  (.seq (.reg [⟨(some 4), none, .op (.mv (.v .nils))⟩,
  ⟨(some 5), none, .op (.mv (.v (.bool false)))⟩,
  ⟨(some 6), none, .op (.mv (.v (.bool false)))⟩] [])
  .ret)
  .skip))))))
  (.reg [⟨(some 66), none, .op (.mv (.t 13))⟩,
  ⟨(some 67), none, .op (.bin .none .add (.t 66) (.v (.int .i64 1)))⟩,
  ⟨(some 13), none, .op (.mv (.t 67))⟩] []))))))))))))
  (.reg [⟨(some 97), none, .op (.bin .none .add (.t 33) (.v (.int .i64 1)))⟩,
  ⟨(some 33), none, .op (.mv (.t 97))⟩] [])))))))))))))
  (.seq (.reg [⟨(some 98), none, .op (.mv (.t 7))⟩,
  ⟨(some 99), none, .op (.mv (.t 9))⟩,
  ⟨(some 4), none, .op (.mv (.t 98))⟩,
  ⟨(some 5), none, .op (.mv (.t 99))⟩,
  ⟨(some 6), none, .op (.mv (.v (.bool true)))⟩] [])
  .ret)))))))
theorem fn21 : Fn3 Try.prog 21 100 [(4, none), (5, none), (6, none)] fc21 := ⟨_, _, Try.func21, rfl, rfl, rfl, by kernel_rfl⟩
def windlassref05_Stacks_s (fuel : Nat) (p_00 : Program) (f_01 : Func) : Option ((List ByteArray) × Bool × Bool) :=
  ((mkL 16 (List.length f_01.Code : Int) (List.length f_01.Code : Int) (ByteArray.mk #[])).bind fun m_1 => ((rni (fun (i_3 : Nat) (s_2 : (List ByteArray)) => (((getI s_2 (i_3 : Int)).bind fun y_4 => (some (.nxt (List.set s_2 (Int.toNat (i_3 : Int)) (ByteArray.mk #[63]))))) : Option (Stp (List ByteArray) (Option ((List ByteArray) × Bool × Bool))))) (List.length m_1 : Int) m_1).bind (oc (fun (s_2 : (List ByteArray)) => ((getI s_2 0).bind fun y_6 => ((whileN (fun (s_8 : (Bool × Bool × (List ByteArray))) => ((if s_8.2.1 then ((rni (fun (i_10 : Nat) (s_9 : (Bool × Bool × (List ByteArray))) => (((getI s_9.2.2 (i_10 : Int)).bind fun y_11 => (if (ByteArray.toList y_11 == ByteArray.toList (ByteArray.mk #[63])) then (some (.nxt (s_9.1, s_9.2.1, s_9.2.2))) else ((getI f_01.Code (i_10 : Int)).bind fun y_12 => ((getI s_9.2.2 (i_10 : Int)).bind fun y_13 => ((windlassref05_After_s p_00 f_01 y_12 y_13).bind fun aft_14 => (if (ByteArray.toList aft_14 == ByteArray.toList (ByteArray.mk #[33])) then (some (.ret (some (.ret (some ([], false, false)))))) else (jp (fun (s_16 : Bool) => ((whileN (fun (s_17 : (Bool × Int × (List ByteArray))) => ((if (decide (s_17.2.1 ≤ (List.length f_01.Code : Int))) then (jp (fun (s_19 : (Bool × (List ByteArray))) => (some (.nxt (s_19.1, (I64 (s_17.2.1 + 1)), s_19.2)))) (fun k_18 => ((getI f_01.Code (i_10 : Int)).bind fun y_20 => ((windlassref05_Next_s y_20 (i_10 : Int) s_17.2.1).bind fun nex_21 => (if (!nex_21) then (k_18 (s_17.1, s_17.2.2)) else (if (s_17.2.1 == (List.length f_01.Code : Int)) then (some (.ret (some (.ret (some (.ret (some ([], false, false)))))))) else ((getI s_17.2.2 s_17.2.1).bind fun y_22 => (jp (fun (s_24 : (Bool × (List ByteArray))) => ((getI s_24.2 s_17.2.1).bind fun y_27 => (if (!(ByteArray.toList y_27 == ByteArray.toList aft_14)) then (some (.ret (some (.ret (some (.ret (some ([], false, false)))))))) else (k_18 (s_24.1, s_24.2))))) (fun k_23 => (if (ByteArray.toList y_22 == ByteArray.toList (ByteArray.mk #[63])) then ((getI s_17.2.2 s_17.2.1).bind fun y_25 => (k_23 (true, (List.set s_17.2.2 (Int.toNat s_17.2.1) aft_14)))) else (k_23 (s_17.1, s_17.2.2)))))))))))) else (some (.brk (s_17.1, s_17.2.1, s_17.2.2)))) : Option (Stp (Bool × Int × (List ByteArray)) (Option (Stp (Bool × Bool × (List ByteArray)) (Option (Stp (Bool × Bool × (List ByteArray)) (Option ((List ByteArray) × Bool × Bool))))))))) fuel (s_9.2.1, 0, s_9.2.2)).bind (oc (fun (s_17 : (Bool × Int × (List ByteArray))) => (some (.nxt (s_16, s_17.1, s_17.2.2))))))) (fun k_15 => (if s_9.1 then (k_15 true) else (k_15 (decide ((ByteArray.size aft_14 : Int) > 16)))))))))))) : Option (Stp (Bool × Bool × (List ByteArray)) (Option (Stp (Bool × Bool × (List ByteArray)) (Option ((List ByteArray) × Bool × Bool))))))) (List.length f_01.Code : Int) (s_8.1, false, s_8.2.2)).bind (oc (fun (s_9 : (Bool × Bool × (List ByteArray))) => (some (.nxt (s_9.1, s_9.2.1, s_9.2.2)))))) else (some (.brk (s_8.1, s_8.2.1, s_8.2.2)))) : Option (Stp (Bool × Bool × (List ByteArray)) (Option ((List ByteArray) × Bool × Bool))))) fuel (false, true, (List.set s_2 (Int.toNat 0) (ByteArray.mk #[])))).bind (oc (fun (s_8 : (Bool × Bool × (List ByteArray))) => (some (s_8.2.2, s_8.1, true))))))))))
theorem windlassref05_Stacks_ev {fuel : Nat} {p_00 : Program} {f_01 : Func} {r : ((List ByteArray) × Bool × Bool)} (h : windlassref05_Stacks_s fuel p_00 f_01 = some r) : PureEv Try.prog 21 [(Program.av p_00), (Func.av f_01)] (.tup [(.sl false 1 (List.map avS r.1)), (.bool r.2.1), (.bool r.2.2)]) := by
  unfold windlassref05_Stacks_s at h
  refine PureEv_end mixed fn21 (by simp) [17] 6 ?_
  unfold fc21
  refine E_sq ?_
  refine E_reg ?_
  refine E_op0 (v' := (.cptr (Program.av p_00).cells 0)) rfl rfl ?_
  refine E_op0 (v' := (.cptr (Func.av f_01).cells 0)) rfl rfl ?_
  refine E_mv (v' := .nils) rfl ?_
  refine E_mv (v' := (.bool false)) rfl ?_
  refine E_mv (v' := (.bool false)) rfl ?_
  refine E_nil ?_
  refine E_nx ?_
  refine E_sq ?_
  refine E_reg ?_
  refine E_op0 (v' := (.cptr (Func.av f_01).cells 4)) rfl rfl ?_
  refine E_op0 (v' := (.sl false 3 (List.map Instr.av f_01.Code))) rfl rfl ?_
  refine E_len rfl ?_
  obtain ⟨m_1, hm_1, h⟩ := bd_some h
  refine E_mkL (x := (ByteArray.mk #[])) (S' := [.arr 0 (flat avS m_1)]) encS rfl rfl rfl rfl hm_1 rfl ?_
  refine E_mv (v' := (.ref 0 0 0 (List.length m_1) none)) rfl ?_
  refine E_nil ?_
  refine E_nx ?_
  refine E_as ?_
  refine E_sq ?_
  refine E_reg ?_
  refine E_mv (v' := (.ref 0 0 0 (List.length m_1) none)) rfl ?_
  refine E_lenR rfl ?_
  refine E_mv (v' := (.int .i64 0)) rfl ?_
  refine E_nil ?_
  refine E_nx ?_
  refine E_sq ?_
  refine E_rniO (fun s_2 => [(2, (.cptr (Program.av p_00).cells 0)), (3, (.cptr (Func.av f_01).cells 0)), (7, (.ref 0 1 0 (List.length s_2) none))]) (fun s_2 => [.arr 1 (flat avS s_2)]) h (by decide) (by decide) (fun _ => ⟨rfl, rfl, rfl, rfl⟩) (wk_rn [some (0, 0)] rfl (Nat.le_of_ble_eq_true rfl) ⟨(rn_ob rfl rfl (.refl (encS.blwf 0 _)) rfl), trivial⟩ ⟨(rn_b rfl), (rn_b rfl), (rn_b (cp_blw (Program.enc.blw _ 0))), (rn_b (cp_blw (Func.enc.blw _ 0))), (rn_refL encS rfl rfl rfl), trivial⟩) (fun i_3 s_2 c hlt h => ?_) (fun s_2 fr' S' h hw => ?_)
  · refine E_sq ?_
    refine E_reg ?_
    refine E_mv (v' := (.int .i64 (i_3 : Int))) rfl ?_
    refine E_mv (v' := (.int .i64 (i_3 : Int))) rfl ?_
    refine E_nil ?_
    refine E_nx ?_
    refine E_reg ?_
    refine E_mv (v' := (.ref 0 1 0 (List.length s_2) none)) rfl ?_
    refine E_mv (v' := (.int .i64 (i_3 : Int))) rfl ?_
    obtain ⟨y_4, hy_4, h⟩ := bd_some h
    refine E_iadR rfl rfl ⟨(getI_some hy_4).1, (getI_some hy_4).2.1⟩ ?_
    refine E_stR (y := y_4) (y' := (ByteArray.mk #[63])) (S' := [.arr 1 (flat avS (List.set s_2 (Int.toNat (i_3 : Int)) (ByteArray.mk #[63])))]) encS rfl rfl rfl (by first | rfl | exact (Nat.add_zero _).symm | (simp only [Nat.zero_add]; exact (Nat.add_zero _).symm) | (simp only [Nat.zero_add, Nat.add_zero])) (getI_some hy_4).2.2 rfl rfl (Nat.le_of_ble_eq_true rfl) rfl rfl ?_
    try rw [show List.length s_2 = List.length (List.set s_2 (Int.toNat (i_3 : Int)) (ByteArray.mk #[63])) by simp only [List.length_set]]
    refine E_nil ?_
    cases h
    exact L_nn rfl (wk_rn [some (0, 0)] rfl (Nat.le_of_ble_eq_true rfl) ⟨(rn_ob rfl rfl (.refl (encS.blwf 0 _)) rfl), trivial⟩ ⟨(rn_b rfl), (rn_b rfl), (rn_b (cp_blw (Program.enc.blw _ 0))), (rn_b (cp_blw (Func.enc.blw _ 0))), (rn_refL encS rfl rfl rfl), trivial⟩)
  · refine X_nx hw ?_
    refine E_sq ?_
    refine E_reg ?_
    refine E_mv (v' := (.ref 0 1 0 (List.length s_2) none)) rfl ?_
    obtain ⟨y_6, hy_6, h⟩ := bd_some h
    refine E_iadR rfl rfl ⟨(getI_some hy_6).1, (getI_some hy_6).2.1⟩ ?_
    refine E_stR (y := y_6) (y' := (ByteArray.mk #[])) (S' := [.arr 1 (flat avS (List.set s_2 (Int.toNat 0) (ByteArray.mk #[])))]) encS rfl rfl rfl (by first | rfl | exact (Nat.add_zero _).symm | (simp only [Nat.zero_add]; exact (Nat.add_zero _).symm) | (simp only [Nat.zero_add, Nat.add_zero])) (getI_some hy_6).2.2 rfl rfl (Nat.le_of_ble_eq_true rfl) rfl rfl ?_
    try rw [show List.length s_2 = List.length (List.set s_2 (Int.toNat 0) (ByteArray.mk #[])) by simp only [List.length_set]]
    refine E_nil ?_
    refine E_nx ?_
    refine E_sq ?_
    refine E_reg ?_
    refine E_mv (v' := (.bool false)) rfl ?_
    refine E_nil ?_
    refine E_nx ?_
    refine E_as ?_
    refine E_sq ?_
    refine E_reg ?_
    refine E_mv (v' := (.bool true)) rfl ?_
    refine E_nil ?_
    refine E_nx ?_
    refine E_sq ?_
    refine E_whileO (fun s_8 => [(2, (.cptr (Program.av p_00).cells 0)), (3, (.cptr (Func.av f_01).cells 0)), (7, (.ref 0 1 0 (List.length s_8.2.2) none)), (9, (.bool s_8.1)), (10, (.bool s_8.2.1))]) (fun s_8 => [.arr 1 (flat avS s_8.2.2)]) h (wk_rn [some (0, 0)] rfl (Nat.le_of_ble_eq_true rfl) ⟨(rn_ob rfl rfl (.refl (encS.blwf 0 _)) rfl), trivial⟩ ⟨(rn_b (cp_blw (Program.enc.blw _ 0))), (rn_b (cp_blw (Func.enc.blw _ 0))), (rn_refL encS rfl rfl rfl), (rn_b rfl), (rn_b rfl), trivial⟩) (fun s_8 c h => ?_) (fun s_8 fr' S' h hw => ?_)
    · refine E_as ?_
      refine E_sq ?_
      refine E_reg ?_
      refine E_mv (v' := (.bool s_8.2.1)) rfl ?_
      refine E_nil ?_
      refine E_nx ?_
      refine E_sq ?_
      refine E_cs (t := s_8.2.1) rfl (fun hb => ?_) (fun hb => ?_)
      · rw [ite_t hb] at h
        refine E_skip ?_
        refine E_nx ?_
        refine E_block ?_
        refine E_sq ?_
        refine E_reg ?_
        refine E_mv (v' := (.bool false)) rfl ?_
        refine E_nil ?_
        refine E_nx ?_
        refine E_sq ?_
        refine E_reg ?_
        refine E_op0 (v' := (.cptr (Func.av f_01).cells 4)) rfl rfl ?_
        refine E_op0 (v' := (.sl false 3 (List.map Instr.av f_01.Code))) rfl rfl ?_
        refine E_len rfl ?_
        refine E_mv (v' := (.int .i64 0)) rfl ?_
        refine E_nil ?_
        refine E_nx ?_
        refine E_rniO (fun s_9 => [(2, (.cptr (Program.av p_00).cells 0)), (3, (.cptr (Func.av f_01).cells 0)), (7, (.ref 0 1 0 (List.length s_9.2.2) none)), (9, (.bool s_9.1)), (10, (.bool s_9.2.1))]) (fun s_9 => [.arr 1 (flat avS s_9.2.2)]) h (by decide) (by decide) (fun _ => ⟨rfl, rfl, rfl, rfl⟩) (wk_rn [some (0, 0)] rfl (Nat.le_of_ble_eq_true rfl) ⟨(rn_ob rfl rfl (.refl (encS.blwf 0 _)) rfl), trivial⟩ ⟨(rn_b rfl), (rn_b rfl), (rn_b (cp_blw (Program.enc.blw _ 0))), (rn_b (cp_blw (Func.enc.blw _ 0))), (rn_refL encS rfl rfl rfl), (rn_b rfl), (rn_b rfl), trivial⟩) (fun i_10 s_9 c hlt h => ?_) (fun s_9 fr' S' h hw => ?_)
        · refine E_sq ?_
          refine E_reg ?_
          refine E_mv (v' := (.int .i64 (i_10 : Int))) rfl ?_
          refine E_mv (v' := (.int .i64 (i_10 : Int))) rfl ?_
          refine E_nil ?_
          refine E_nx ?_
          refine E_as ?_
          refine E_sq ?_
          refine E_reg ?_
          refine E_mv (v' := (.ref 0 1 0 (List.length s_9.2.2) none)) rfl ?_
          refine E_mv (v' := (.int .i64 (i_10 : Int))) rfl ?_
          obtain ⟨y_11, hy_11, h⟩ := bd_some h
          refine E_iadR rfl rfl ⟨(getI_some hy_11).1, (getI_some hy_11).2.1⟩ ?_
          refine E_ldR encS rfl rfl (by first | rfl | exact (Nat.add_zero _).symm | (simp only [Nat.zero_add]; exact (Nat.add_zero _).symm) | (simp only [Nat.zero_add, Nat.add_zero])) (getI_some hy_11).2.2 rfl (.refl _) ?_
          refine E_op0 (v' := (.bool (ByteArray.toList y_11 == ByteArray.toList (ByteArray.mk #[63])))) rfl rfl ?_
          refine E_nil ?_
          refine E_nx ?_
          refine E_sq ?_
          refine E_cs (t := (ByteArray.toList y_11 == ByteArray.toList (ByteArray.mk #[63]))) rfl (fun hb => ?_) (fun hb => ?_)
          · rw [ite_t hb] at h
            refine E_exit ?_
            refine E_the ?_
            cases h
            exact L_nx rfl rfl (wk_rn [some (0, 0)] rfl (Nat.le_of_ble_eq_true rfl) ⟨(rn_ob rfl rfl (.refl (encS.blwf 0 _)) rfl), trivial⟩ ⟨(rn_b rfl), (rn_b rfl), (rn_b (cp_blw (Program.enc.blw _ 0))), (rn_b (cp_blw (Func.enc.blw _ 0))), (rn_refL encS rfl rfl rfl), (rn_b rfl), (rn_b rfl), trivial⟩)
          · rw [ite_f hb] at h
            refine E_skip ?_
            refine E_nx ?_
            refine E_sq ?_
            refine E_reg ?_
            refine E_op0 (v' := (Program.av p_00)) rfl rfl ?_
            refine E_op0 (v' := (Func.av f_01)) rfl rfl ?_
            refine E_op0 (v' := (.cptr (Func.av f_01).cells 4)) rfl rfl ?_
            refine E_op0 (v' := (.sl false 3 (List.map Instr.av f_01.Code))) rfl rfl ?_
            refine E_mv (v' := (.int .i64 (i_10 : Int))) rfl ?_
            obtain ⟨y_12, hy_12, h⟩ := bd_some h
            refine E_iadF rfl rfl hy_12 ?_
            refine E_op0 (v' := (Instr.av y_12)) rfl rfl ?_
            refine E_mv (v' := (.ref 0 1 0 (List.length s_9.2.2) none)) rfl ?_
            refine E_mv (v' := (.int .i64 (i_10 : Int))) rfl ?_
            obtain ⟨y_13, hy_13, h⟩ := bd_some h
            refine E_iadR rfl rfl ⟨(getI_some hy_13).1, (getI_some hy_13).2.1⟩ ?_
            refine E_ldR encS rfl rfl (by first | rfl | exact (Nat.add_zero _).symm | (simp only [Nat.zero_add]; exact (Nat.add_zero _).symm) | (simp only [Nat.zero_add, Nat.add_zero])) (getI_some hy_13).2.2 rfl (.refl _) ?_
            obtain ⟨aft_14, haft_14, h⟩ := bd_some h
            refine E_callW (windlassref05_After_ev  haft_14) rfl ⟨(.refl _), (.refl _), (.refl _), (.refl _), trivial⟩ (blwL_of ⟨(Program.enc.blw _ 0), (Func.enc.blw _ 0), (Instr.enc.blw _ 0), rfl, trivial⟩) rfl ?_
            refine E_mv (v' := (.str aft_14)) rfl ?_
            refine E_nil ?_
            refine E_nx ?_
            refine E_as ?_
            refine E_sq ?_
            refine E_reg ?_
            refine E_mv (v' := (.str aft_14)) rfl ?_
            refine E_op0 (v' := (.bool (ByteArray.toList aft_14 == ByteArray.toList (ByteArray.mk #[33])))) rfl rfl ?_
            refine E_nil ?_
            refine E_nx ?_
            refine E_sq ?_
            refine E_cs (t := (ByteArray.toList aft_14 == ByteArray.toList (ByteArray.mk #[33]))) rfl (fun hb => ?_) (fun hb => ?_)
            · rw [ite_t hb] at h
              refine E_sq ?_
              refine E_reg ?_
              refine E_mv (v' := .nils) rfl ?_
              refine E_mv (v' := (.bool false)) rfl ?_
              refine E_mv (v' := (.bool false)) rfl ?_
              refine E_nil ?_
              refine E_nx ?_
              refine E_ret ?_
              refine E_thr ?_
              cases h
              refine L_rrO rfl (fun h => ?_)
              refine E_blr ?_
              cases h
              refine L_rrO rfl (fun h => ?_)
              refine E_thr ?_
              cases h
              exact ⟨trivial, _, rfl, (fz_tup ⟨(fz_b rfl .nil), (fz_b rfl (.refl _)), (fz_b rfl (.refl _)), trivial⟩)⟩
            · rw [ite_f hb] at h
              refine E_skip ?_
              refine E_nx ?_
              refine E_jp h (fun s_16 => [(2, (.cptr (Program.av p_00).cells 0)), (3, (.cptr (Func.av f_01).cells 0)), (7, (.ref 0 1 0 (List.length s_9.2.2) none)), (9, (.bool s_16)), (10, (.bool s_9.2.1)), (11, (.int .i64 (i_10 : Int))), (12, (.str aft_14)), (32, (.int .i64 (List.length f_01.Code : Int))), (33, (.int .i64 (i_10 : Int)))]) (fun s_16 => [.arr 1 (flat avS s_9.2.2)]) (fun k_15 h => ?_) (fun s_16 h => ?_)
              · refine E_reg ?_
                refine E_mv (v' := (.bool s_9.1)) rfl ?_
                refine E_mv (v' := (.bool s_9.1)) rfl ?_
                refine E_gsT (b := s_9.1) rfl rfl rfl (fun hb => ?_) (fun hb => ?_)
                · rw [ite_f hb] at h
                  refine E_mv (v' := (.str aft_14)) rfl ?_
                  refine E_gh rfl ?_
                  refine E_op0 (v' := (.int .i64 (ByteArray.size aft_14 : Int))) rfl rfl ?_
                  refine E_gh rfl ?_
                  refine E_op0 (v' := (.bool (decide ((ByteArray.size aft_14 : Int) > 16)))) rfl rfl ?_
                  refine E_pf rfl rfl ?_
                  refine E_mv (v' := (.bool (decide ((ByteArray.size aft_14 : Int) > 16)))) rfl ?_
                  refine E_nil ?_
                  exact E_jx _ h (wk_rn [some (0, 0)] rfl (Nat.le_of_ble_eq_true rfl) ⟨(rn_ob rfl rfl (.refl (encS.blwf 0 _)) rfl), trivial⟩ ⟨(rn_b (cp_blw (Program.enc.blw _ 0))), (rn_b (cp_blw (Func.enc.blw _ 0))), (rn_refL encS rfl rfl rfl), (rn_b rfl), (rn_b rfl), (rn_b rfl), (rn_b rfl), (rn_b rfl), (rn_b rfl), trivial⟩)
                · rw [ite_t hb] at h
                  refine E_gm rfl ?_
                  refine E_gm rfl ?_
                  refine E_pt rfl rfl ?_
                  refine E_mv (v' := (.bool true)) rfl ?_
                  refine E_nil ?_
                  exact E_jx _ h (wk_rn [some (0, 0)] rfl (Nat.le_of_ble_eq_true rfl) ⟨(rn_ob rfl rfl (.refl (encS.blwf 0 _)) rfl), trivial⟩ ⟨(rn_b (cp_blw (Program.enc.blw _ 0))), (rn_b (cp_blw (Func.enc.blw _ 0))), (rn_refL encS rfl rfl rfl), (rn_b rfl), (rn_b rfl), (rn_b rfl), (rn_b rfl), (rn_b rfl), (rn_b rfl), trivial⟩)
              · refine E_sq ?_
                refine E_reg ?_
                refine E_mv (v' := (.int .i64 0)) rfl ?_
                refine E_nil ?_
                refine E_nx ?_
                refine E_whileO (fun s_17 => [(2, (.cptr (Program.av p_00).cells 0)), (3, (.cptr (Func.av f_01).cells 0)), (7, (.ref 0 1 0 (List.length s_17.2.2) none)), (9, (.bool s_16)), (10, (.bool s_17.1)), (11, (.int .i64 (i_10 : Int))), (12, (.str aft_14)), (13, (.int .i64 s_17.2.1)), (32, (.int .i64 (List.length f_01.Code : Int))), (33, (.int .i64 (i_10 : Int)))]) (fun s_17 => [.arr 1 (flat avS s_17.2.2)]) h (wk_rn [some (0, 0)] rfl (Nat.le_of_ble_eq_true rfl) ⟨(rn_ob rfl rfl (.refl (encS.blwf 0 _)) rfl), trivial⟩ ⟨(rn_b (cp_blw (Program.enc.blw _ 0))), (rn_b (cp_blw (Func.enc.blw _ 0))), (rn_refL encS rfl rfl rfl), (rn_b rfl), (rn_b rfl), (rn_b rfl), (rn_b rfl), (rn_b rfl), (rn_b rfl), (rn_b rfl), trivial⟩) (fun s_17 c h => ?_) (fun s_17 fr' S' h hw => ?_)
                · refine E_as ?_
                  refine E_sq ?_
                  refine E_reg ?_
                  refine E_mv (v' := (.int .i64 s_17.2.1)) rfl ?_
                  refine E_op0 (v' := (.cptr (Func.av f_01).cells 4)) rfl rfl ?_
                  refine E_op0 (v' := (.sl false 3 (List.map Instr.av f_01.Code))) rfl rfl ?_
                  refine E_len rfl ?_
                  refine E_op0 (v' := (.bool (decide (s_17.2.1 ≤ (List.length f_01.Code : Int))))) rfl rfl ?_
                  refine E_nil ?_
                  refine E_nx ?_
                  refine E_sq ?_
                  refine E_cs (t := (decide (s_17.2.1 ≤ (List.length f_01.Code : Int)))) rfl (fun hb => ?_) (fun hb => ?_)
                  · rw [ite_t hb] at h
                    refine E_skip ?_
                    refine E_nx ?_
                    refine E_jp h (fun s_19 => [(2, (.cptr (Program.av p_00).cells 0)), (3, (.cptr (Func.av f_01).cells 0)), (7, (.ref 0 1 0 (List.length s_19.2) none)), (9, (.bool s_16)), (10, (.bool s_19.1)), (11, (.int .i64 (i_10 : Int))), (12, (.str aft_14)), (13, (.int .i64 s_17.2.1)), (32, (.int .i64 (List.length f_01.Code : Int))), (33, (.int .i64 (i_10 : Int)))]) (fun s_19 => [.arr 1 (flat avS s_19.2)]) (fun k_18 h => ?_) (fun s_19 h => ?_)
                    · refine E_block ?_
                      refine E_as ?_
                      refine E_sq ?_
                      refine E_reg ?_
                      refine E_op0 (v' := (.cptr (Func.av f_01).cells 4)) rfl rfl ?_
                      refine E_op0 (v' := (.sl false 3 (List.map Instr.av f_01.Code))) rfl rfl ?_
                      refine E_mv (v' := (.int .i64 (i_10 : Int))) rfl ?_
                      obtain ⟨y_20, hy_20, h⟩ := bd_some h
                      refine E_iadF rfl rfl hy_20 ?_
                      refine E_op0 (v' := (Instr.av y_20)) rfl rfl ?_
                      refine E_mv (v' := (.int .i64 (i_10 : Int))) rfl ?_
                      refine E_mv (v' := (.int .i64 s_17.2.1)) rfl ?_
                      obtain ⟨nex_21, hnex_21, h⟩ := bd_some h
                      refine E_callW (windlassref05_Next_ev  hnex_21) rfl ⟨(.refl _), (.refl _), (.refl _), trivial⟩ (blwL_of ⟨(Instr.enc.blw _ 0), rfl, rfl, trivial⟩) rfl ?_
                      refine E_op0 (v' := (.bool (!nex_21))) rfl rfl ?_
                      refine E_nil ?_
                      refine E_nx ?_
                      refine E_sq ?_
                      refine E_cs (t := (!nex_21)) rfl (fun hb => ?_) (fun hb => ?_)
                      · rw [ite_t hb] at h
                        refine E_exit ?_
                        refine E_the ?_
                        refine E_ble ?_
                        exact E_jx _ h (wk_rn [some (0, 0)] rfl (Nat.le_of_ble_eq_true rfl) ⟨(rn_ob rfl rfl (.refl (encS.blwf 0 _)) rfl), trivial⟩ ⟨(rn_b (cp_blw (Program.enc.blw _ 0))), (rn_b (cp_blw (Func.enc.blw _ 0))), (rn_refL encS rfl rfl rfl), (rn_b rfl), (rn_b rfl), (rn_b rfl), (rn_b rfl), (rn_b rfl), (rn_b rfl), (rn_b rfl), trivial⟩)
                      · rw [ite_f hb] at h
                        refine E_skip ?_
                        refine E_nx ?_
                        refine E_as ?_
                        refine E_sq ?_
                        refine E_reg ?_
                        refine E_mv (v' := (.int .i64 s_17.2.1)) rfl ?_
                        refine E_op0 (v' := (.cptr (Func.av f_01).cells 4)) rfl rfl ?_
                        refine E_op0 (v' := (.sl false 3 (List.map Instr.av f_01.Code))) rfl rfl ?_
                        refine E_len rfl ?_
                        refine E_op0 (v' := (.bool (s_17.2.1 == (List.length f_01.Code : Int)))) rfl rfl ?_
                        refine E_nil ?_
                        refine E_nx ?_
                        refine E_sq ?_
                        refine E_cs (t := (s_17.2.1 == (List.length f_01.Code : Int))) rfl (fun hb => ?_) (fun hb => ?_)
                        · rw [ite_t hb] at h
                          refine E_sq ?_
                          refine E_reg ?_
                          refine E_mv (v' := .nils) rfl ?_
                          refine E_mv (v' := (.bool false)) rfl ?_
                          refine E_mv (v' := (.bool false)) rfl ?_
                          refine E_nil ?_
                          refine E_nx ?_
                          refine E_ret ?_
                          refine E_thr ?_
                          refine E_blr ?_
                          refine E_thr ?_
                          cases h
                          refine L_rrO rfl (fun h => ?_)
                          cases h
                          refine L_rrO rfl (fun h => ?_)
                          refine E_blr ?_
                          cases h
                          refine L_rrO rfl (fun h => ?_)
                          refine E_thr ?_
                          cases h
                          exact ⟨trivial, _, rfl, (fz_tup ⟨(fz_b rfl .nil), (fz_b rfl (.refl _)), (fz_b rfl (.refl _)), trivial⟩)⟩
                        · rw [ite_f hb] at h
                          refine E_skip ?_
                          refine E_nx ?_
                          refine E_as ?_
                          refine E_sq ?_
                          refine E_reg ?_
                          refine E_mv (v' := (.ref 0 1 0 (List.length s_17.2.2) none)) rfl ?_
                          refine E_mv (v' := (.int .i64 s_17.2.1)) rfl ?_
                          obtain ⟨y_22, hy_22, h⟩ := bd_some h
                          refine E_iadR rfl rfl ⟨(getI_some hy_22).1, (getI_some hy_22).2.1⟩ ?_
                          refine E_ldR encS rfl rfl (by first | rfl | exact (Nat.add_zero _).symm | (simp only [Nat.zero_add]; exact (Nat.add_zero _).symm) | (simp only [Nat.zero_add, Nat.add_zero])) (getI_some hy_22).2.2 rfl (.refl _) ?_
                          refine E_op0 (v' := (.bool (ByteArray.toList y_22 == ByteArray.toList (ByteArray.mk #[63])))) rfl rfl ?_
                          refine E_nil ?_
                          refine E_nx ?_
                          refine E_jp h (fun s_24 => [(2, (.cptr (Program.av p_00).cells 0)), (3, (.cptr (Func.av f_01).cells 0)), (7, (.ref 0 1 0 (List.length s_24.2) none)), (9, (.bool s_16)), (10, (.bool s_24.1)), (11, (.int .i64 (i_10 : Int))), (12, (.str aft_14)), (13, (.int .i64 s_17.2.1)), (32, (.int .i64 (List.length f_01.Code : Int))), (33, (.int .i64 (i_10 : Int)))]) (fun s_24 => [.arr 1 (flat avS s_24.2)]) (fun k_23 h => ?_) (fun s_24 h => ?_)
                          · refine E_cs (t := (ByteArray.toList y_22 == ByteArray.toList (ByteArray.mk #[63]))) rfl (fun hb => ?_) (fun hb => ?_)
                            · rw [ite_t hb] at h
                              refine E_sq ?_
                              refine E_reg ?_
                              refine E_mv (v' := (.ref 0 1 0 (List.length s_17.2.2) none)) rfl ?_
                              refine E_mv (v' := (.int .i64 s_17.2.1)) rfl ?_
                              refine E_mv (v' := (.str aft_14)) rfl ?_
                              obtain ⟨y_25, hy_25, h⟩ := bd_some h
                              refine E_iadR rfl rfl ⟨(getI_some hy_25).1, (getI_some hy_25).2.1⟩ ?_
                              refine E_stR (y := y_25) (y' := aft_14) (S' := [.arr 1 (flat avS (List.set s_17.2.2 (Int.toNat s_17.2.1) aft_14))]) encS rfl rfl rfl (by first | rfl | exact (Nat.add_zero _).symm | (simp only [Nat.zero_add]; exact (Nat.add_zero _).symm) | (simp only [Nat.zero_add, Nat.add_zero])) (getI_some hy_25).2.2 rfl rfl (Nat.le_of_ble_eq_true rfl) rfl rfl ?_
                              try rw [show List.length s_17.2.2 = List.length (List.set s_17.2.2 (Int.toNat s_17.2.1) aft_14) by simp only [List.length_set]]
                              refine E_nil ?_
                              refine E_nx ?_
                              refine E_reg ?_
                              refine E_mv (v' := (.bool true)) rfl ?_
                              refine E_nil ?_
                              exact E_jx _ h (wk_rn [some (0, 0)] rfl (Nat.le_of_ble_eq_true rfl) ⟨(rn_ob rfl rfl (.refl (encS.blwf 0 _)) rfl), trivial⟩ ⟨(rn_b (cp_blw (Program.enc.blw _ 0))), (rn_b (cp_blw (Func.enc.blw _ 0))), (rn_refL encS rfl rfl rfl), (rn_b rfl), (rn_b rfl), (rn_b rfl), (rn_b rfl), (rn_b rfl), (rn_b rfl), (rn_b rfl), trivial⟩)
                            · rw [ite_f hb] at h
                              refine E_skip ?_
                              exact E_jx _ h (wk_rn [some (0, 0)] rfl (Nat.le_of_ble_eq_true rfl) ⟨(rn_ob rfl rfl (.refl (encS.blwf 0 _)) rfl), trivial⟩ ⟨(rn_b (cp_blw (Program.enc.blw _ 0))), (rn_b (cp_blw (Func.enc.blw _ 0))), (rn_refL encS rfl rfl rfl), (rn_b rfl), (rn_b rfl), (rn_b rfl), (rn_b rfl), (rn_b rfl), (rn_b rfl), (rn_b rfl), trivial⟩)
                          · refine E_sq ?_
                            refine E_reg ?_
                            refine E_mv (v' := (.ref 0 1 0 (List.length s_24.2) none)) rfl ?_
                            refine E_mv (v' := (.int .i64 s_17.2.1)) rfl ?_
                            obtain ⟨y_27, hy_27, h⟩ := bd_some h
                            refine E_iadR rfl rfl ⟨(getI_some hy_27).1, (getI_some hy_27).2.1⟩ ?_
                            refine E_ldR encS rfl rfl (by first | rfl | exact (Nat.add_zero _).symm | (simp only [Nat.zero_add]; exact (Nat.add_zero _).symm) | (simp only [Nat.zero_add, Nat.add_zero])) (getI_some hy_27).2.2 rfl (.refl _) ?_
                            refine E_mv (v' := (.str aft_14)) rfl ?_
                            refine E_op0 (v' := (.bool (!(ByteArray.toList y_27 == ByteArray.toList aft_14)))) rfl rfl ?_
                            refine E_nil ?_
                            refine E_nx ?_
                            refine E_cs (t := (!(ByteArray.toList y_27 == ByteArray.toList aft_14))) rfl (fun hb => ?_) (fun hb => ?_)
                            · rw [ite_t hb] at h
                              refine E_sq ?_
                              refine E_reg ?_
                              refine E_mv (v' := .nils) rfl ?_
                              refine E_mv (v' := (.bool false)) rfl ?_
                              refine E_mv (v' := (.bool false)) rfl ?_
                              refine E_nil ?_
                              refine E_nx ?_
                              refine E_ret ?_
                              refine E_blr ?_
                              refine E_thr ?_
                              cases h
                              refine L_rrO rfl (fun h => ?_)
                              cases h
                              refine L_rrO rfl (fun h => ?_)
                              refine E_blr ?_
                              cases h
                              refine L_rrO rfl (fun h => ?_)
                              refine E_thr ?_
                              cases h
                              exact ⟨trivial, _, rfl, (fz_tup ⟨(fz_b rfl .nil), (fz_b rfl (.refl _)), (fz_b rfl (.refl _)), trivial⟩)⟩
                            · rw [ite_f hb] at h
                              refine E_skip ?_
                              refine E_bln ?_
                              exact E_jx _ h (wk_rn [some (0, 0)] rfl (Nat.le_of_ble_eq_true rfl) ⟨(rn_ob rfl rfl (.refl (encS.blwf 0 _)) rfl), trivial⟩ ⟨(rn_b (cp_blw (Program.enc.blw _ 0))), (rn_b (cp_blw (Func.enc.blw _ 0))), (rn_refL encS rfl rfl rfl), (rn_b rfl), (rn_b rfl), (rn_b rfl), (rn_b rfl), (rn_b rfl), (rn_b rfl), (rn_b rfl), trivial⟩)
                    · refine E_reg ?_
                      refine E_mv (v' := (.int .i64 s_17.2.1)) rfl ?_
                      refine E_op0 (v' := (.int .i64 (I64 (s_17.2.1 + 1)))) rfl rfl ?_
                      refine E_mv (v' := (.int .i64 (I64 (s_17.2.1 + 1)))) rfl ?_
                      refine E_nil ?_
                      cases h
                      exact L_nn rfl (wk_rn [some (0, 0)] rfl (Nat.le_of_ble_eq_true rfl) ⟨(rn_ob rfl rfl (.refl (encS.blwf 0 _)) rfl), trivial⟩ ⟨(rn_b (cp_blw (Program.enc.blw _ 0))), (rn_b (cp_blw (Func.enc.blw _ 0))), (rn_refL encS rfl rfl rfl), (rn_b rfl), (rn_b rfl), (rn_b rfl), (rn_b rfl), (rn_b rfl), (rn_b rfl), (rn_b rfl), trivial⟩)
                  · rw [ite_f hb] at h
                    refine E_exit ?_
                    refine E_the ?_
                    cases h
                    exact L_bk rfl rfl rfl (wk_rn [some (0, 0)] rfl (Nat.le_of_ble_eq_true rfl) ⟨(rn_ob rfl rfl (.refl (encS.blwf 0 _)) rfl), trivial⟩ ⟨(rn_b (cp_blw (Program.enc.blw _ 0))), (rn_b (cp_blw (Func.enc.blw _ 0))), (rn_refL encS rfl rfl rfl), (rn_b rfl), (rn_b rfl), (rn_b rfl), (rn_b rfl), (rn_b rfl), (rn_b rfl), (rn_b rfl), trivial⟩)
                · cases h
                  exact X_nn rfl hw (wk_rn [some (0, 0)] rfl (Nat.le_of_ble_eq_true rfl) ⟨(rn_ob rfl rfl (.refl (encS.blwf 0 _)) rfl), trivial⟩ ⟨(rn_b rfl), (rn_b rfl), (rn_b (cp_blw (Program.enc.blw _ 0))), (rn_b (cp_blw (Func.enc.blw _ 0))), (rn_refL encS rfl rfl rfl), (rn_b rfl), (rn_b rfl), trivial⟩)
        · refine E_bln ?_
          cases h
          exact X_nn rfl hw (wk_rn [some (0, 0)] rfl (Nat.le_of_ble_eq_true rfl) ⟨(rn_ob rfl rfl (.refl (encS.blwf 0 _)) rfl), trivial⟩ ⟨(rn_b (cp_blw (Program.enc.blw _ 0))), (rn_b (cp_blw (Func.enc.blw _ 0))), (rn_refL encS rfl rfl rfl), (rn_b rfl), (rn_b rfl), trivial⟩)
      · rw [ite_f hb] at h
        refine E_exit ?_
        refine E_the ?_
        cases h
        exact L_bk rfl rfl rfl (wk_rn [some (0, 0)] rfl (Nat.le_of_ble_eq_true rfl) ⟨(rn_ob rfl rfl (.refl (encS.blwf 0 _)) rfl), trivial⟩ ⟨(rn_b (cp_blw (Program.enc.blw _ 0))), (rn_b (cp_blw (Func.enc.blw _ 0))), (rn_refL encS rfl rfl rfl), (rn_b rfl), (rn_b rfl), trivial⟩)
    · refine X_nx hw ?_
      refine E_sq ?_
      refine E_reg ?_
      refine E_mv (v' := (.ref 0 1 0 (List.length s_8.2.2) none)) rfl ?_
      refine E_mv (v' := (.bool s_8.1)) rfl ?_
      refine E_mv (v' := (.ref 0 1 0 (List.length s_8.2.2) none)) rfl ?_
      refine E_mv (v' := (.bool s_8.1)) rfl ?_
      refine E_mv (v' := (.bool true)) rfl ?_
      refine E_nil ?_
      refine E_nx ?_
      refine E_ret ?_
      cases h
      exact ⟨trivial, _, rfl, (fz_tup ⟨(fz_ref encS (Nat.zero_le _) rfl), (fz_b rfl (.refl _)), (fz_b rfl (.refl _)), trivial⟩)⟩
/- windlass/windlassref05.Check -/
def fc11 : FC := (.seq (.reg [⟨(some 1), none, .op (.box (.t 0))⟩,
  ⟨(some 2), none, .op (.mv (.v .nils))⟩,
  ⟨(some 3), none, .op (.mv (.v (.int .i64 0)))⟩] [])
  (.seq (.seq (.reg [⟨(some 16), none, .op (.load (some 1) (.t 1))⟩,
  ⟨(some 17), none, .call 18 [(.t 16)]⟩,
  ⟨(some 15), none, .op (.mv (.t 17))⟩,
  ⟨(some 18), none, .op (.ext 0 (.t 15))⟩,
  ⟨(some 19), none, .op (.ext 1 (.t 15))⟩,
  ⟨(some 4), none, .op (.mv (.t 18))⟩,
  ⟨(some 5), none, .op (.mv (.t 19))⟩] [])
  (.seq (.reg [⟨(some 20), none, .op (.mv (.t 5))⟩,
  ⟨(some 21), none, .op (.un .not (.t 20))⟩] [])
  (.cond (.t 21)
  (.seq (.reg [⟨(some 2), none, .op (.mv (.v .nils))⟩,
  ⟨(some 3), none, .op (.mv (.v (.int .i64 30)))⟩] [])
  .ret)
  .skip)))
  (.seq (.seq (.reg [⟨(some 22), none, .op (.load (some 1) (.t 1))⟩,
  ⟨(some 23), none, .call 19 [(.t 22)]⟩,
  ⟨(some 24), none, .op (.un .not (.t 23))⟩] [])
  (.cond (.t 24)
  (.seq (.reg [⟨(some 2), none, .op (.mv (.v .nils))⟩,
  ⟨(some 3), none, .op (.mv (.v (.int .i64 31)))⟩] [])
  .ret)
  .skip))
  (.seq (.seq (.reg [⟨(some 25), none, .op (.fad 0 (.t 1))⟩,
  ⟨(some 26), none, .op (.load none (.t 25))⟩,
  ⟨(some 27), none, .op (.iad none (some 5) (.t 26) (.v (.int .i64 0)))⟩,
  ⟨(some 28), none, .op (.fad 0 (.t 27))⟩,
  ⟨(some 29), none, .op (.load none (.t 28))⟩,
  ⟨(some 30), none, .op (.bin .none .neq (.t 29) (.v (.int .i64 0)))⟩,
  ⟨(some 31), none, .op (.mv (.t 30))⟩,
  ⟨(some 32), some (31, false), .op (.fad 0 (.t 1))⟩,
  ⟨(some 33), some (31, false), .op (.load none (.t 32))⟩,
  ⟨(some 34), some (31, false), .op (.iad none (some 5) (.t 33) (.v (.int .i64 0)))⟩,
  ⟨(some 35), some (31, false), .op (.fad 2 (.t 34))⟩,
  ⟨(some 36), some (31, false), .op (.load none (.t 35))⟩,
  ⟨(some 37), none, .op (.pick (.t 31) (.v (.bool true)) (.t 36))⟩] [])
  (.cond (.t 37)
  (.seq (.reg [⟨(some 2), none, .op (.mv (.v .nils))⟩,
  ⟨(some 3), none, .op (.mv (.v (.int .i64 50)))⟩] [])
  .ret)
  .skip))
  (.seq (.seq (.reg [⟨(some 38), none, .op (.fad 0 (.t 1))⟩,
  ⟨(some 39), none, .op (.load none (.t 38))⟩,
  ⟨(some 40), none, .op (.len .sl (.t 39))⟩,
  ⟨(some 41), none, .op (.mv (.v (.int .i64 0)))⟩] [])
  (.block 0 (.loop (.seq (.reg [⟨(some 42), none, .op (.bin .none .lss (.t 41) (.t 40))⟩] [])
  (.seq (.cond (.t 42)
  .skip
  (.exit 0))
  (.seq (.block 1 (.seq (.reg [⟨(some 43), none, .op (.iad none (some 5) (.t 39) (.t 41))⟩,
  ⟨(some 44), none, .op (.load (some 5) (.t 43))⟩,
  ⟨(some 7), none, .op (.new [(.int .i64 0), .nils, (.bool false), (.int .i64 0), .nils])⟩,
  ⟨none, none, .op (.store 5 (.t 7) (.t 44))⟩] [])
  (.seq (.reg [⟨(some 45), none, .op (.load (some 1) (.t 1))⟩,
  ⟨(some 46), none, .op (.load (some 5) (.t 7))⟩,
  ⟨(some 47), none, .call 20 [(.t 45), (.t 46)]⟩,
  ⟨(some 48), none, .op (.un .not (.t 47))⟩] [])
  (.cond (.t 48)
  (.seq (.reg [⟨(some 2), none, .op (.mv (.v .nils))⟩,
  ⟨(some 3), none, .op (.mv (.v (.int .i64 50)))⟩] [])
  .ret)
  .skip))))
  (.reg [⟨(some 49), none, .op (.bin .none .add (.t 41) (.v (.int .i64 1)))⟩,
  ⟨(some 41), none, .op (.mv (.t 49))⟩] [])))))))
  (.seq (.reg [⟨(some 8), none, .op (.mv (.v .nils))⟩] [])
  (.seq (.reg [⟨(some 9), none, .op (.mv (.v (.bool false)))⟩] [])
  (.seq (.seq (.reg [⟨(some 50), none, .op (.fad 0 (.t 1))⟩,
  ⟨(some 51), none, .op (.load none (.t 50))⟩,
  ⟨(some 52), none, .op (.len .sl (.t 51))⟩,
  ⟨(some 53), none, .op (.mv (.v (.int .i64 0)))⟩] [])
  (.block 2 (.loop (.seq (.reg [⟨(some 54), none, .op (.bin .none .lss (.t 53) (.t 52))⟩] [])
  (.seq (.cond (.t 54)
  .skip
  (.exit 2))
  (.seq (.block 3 (.seq (.reg [⟨(some 55), none, .op (.iad none (some 5) (.t 51) (.t 53))⟩,
  ⟨(some 56), none, .op (.load (some 5) (.t 55))⟩,
  ⟨(some 11), none, .op (.new [(.int .i64 0), .nils, (.bool false), (.int .i64 0), .nils])⟩,
  ⟨none, none, .op (.store 5 (.t 11) (.t 56))⟩] [])
  (.seq (.reg [⟨(some 58), none, .op (.load (some 1) (.t 1))⟩,
  ⟨(some 59), none, .op (.load (some 5) (.t 11))⟩,
  ⟨(some 60), none, .call 21 [(.t 58), (.t 59)]⟩,
  ⟨(some 57), none, .op (.mv (.t 60))⟩,
  ⟨(some 61), none, .op (.ext 0 (.t 57))⟩,
  ⟨(some 62), none, .op (.ext 1 (.t 57))⟩,
  ⟨(some 63), none, .op (.ext 2 (.t 57))⟩,
  ⟨(some 12), none, .op (.mv (.t 61))⟩,
  ⟨(some 13), none, .op (.mv (.t 62))⟩,
  ⟨(some 14), none, .op (.mv (.t 63))⟩] [])
  (.seq (.seq (.reg [⟨(some 64), none, .op (.mv (.t 14))⟩,
  ⟨(some 65), none, .op (.un .not (.t 64))⟩] [])
  (.cond (.t 65)
  (.seq (.reg [⟨(some 2), none, .op (.mv (.v .nils))⟩,
  ⟨(some 3), none, .op (.mv (.v (.int .i64 50)))⟩] [])
  .ret)
  .skip))
  (.seq (.reg [⟨(some 66), none, .op (.mv (.t 9))⟩,
  ⟨(some 67), none, .op (.mv (.t 66))⟩,
  ⟨(some 68), some (67, false), .op (.mv (.t 13))⟩,
  ⟨(some 69), none, .op (.pick (.t 67) (.v (.bool true)) (.t 68))⟩,
  ⟨(some 9), none, .op (.mv (.t 69))⟩] [])
  (.reg [⟨(some 70), none, .op (.mv (.t 8))⟩,
  ⟨(some 71), none, .op (.mv (.t 12))⟩,
  ⟨(some 72), none, .op (.bsl none [.nils] 1 [(0, 1, (.t 71))])⟩,
  ⟨(some 73), none, .op (.app none 24 (.t 70) (.t 72))⟩,
  ⟨(some 8), none, .op (.mv (.t 73))⟩] []))))))
  (.reg [⟨(some 74), none, .op (.bin .none .add (.t 53) (.v (.int .i64 1)))⟩,
  ⟨(some 53), none, .op (.mv (.t 74))⟩] [])))))))
  (.seq (.seq (.reg [⟨(some 75), none, .op (.mv (.t 9))⟩] [])
  (.cond (.t 75)
  (.seq (.reg [⟨(some 2), none, .op (.mv (.v .nils))⟩,
  ⟨(some 3), none, .op (.mv (.v (.int .i64 31)))⟩] [])
  .ret)
  .skip))
  (.seq (.reg [⟨(some 76), none, .op (.mv (.t 8))⟩,
  ⟨(some 2), none, .op (.mv (.t 76))⟩,
  ⟨(some 3), none, .op (.mv (.v (.int .i64 0)))⟩] [])
  .ret))))))))))
theorem fn11 : Fn3 Try.prog 11 77 [(2, none), (3, none)] fc11 := ⟨_, _, Try.func11, rfl, rfl, rfl, by kernel_rfl⟩
def windlassref05_Check_s (fuel : Nat) (p_00 : Program) : Option ((List (List ByteArray)) × Int) :=
  ((windlassref03_Bytes_s fuel p_00).bind fun byt_1 => (if (!byt_1.2) then (some ([], 30)) else ((windlassref03_Bounded_s p_00).bind fun bou_2 => (if (!bou_2) then (some ([], 31)) else (jp (fun (s_4 : Bool) => (if s_4 then (some ([], 50)) else ((rng (fun (i_7 : Nat) (f_8 : Func) (s_6 : Unit) => (((windlassref05_names_s p_00 f_8).bind fun nam_10 => (if (!nam_10) then (some (.ret (some ([], 50)))) else (some (.nxt ())))) : Option (Stp Unit (Option ((List (List ByteArray)) × Int))))) p_00.Funcs ()).bind (oc (fun (s_6 : Unit) => ((rng (fun (i_12 : Nat) (f_13 : Func) (s_11 : (Bool × (List (List ByteArray)))) => (((windlassref05_Stacks_s fuel p_00 f_13).bind fun sta_15 => (if (!sta_15.2.2) then (some (.ret (some ([], 50)))) else (jp (fun (s_17 : Bool) => ((appL 24 s_11.2 [sta_15.1]).bind fun l_18 => (some (.nxt (s_17, l_18))))) (fun k_16 => (if s_11.1 then (k_16 true) else (k_16 sta_15.2.1)))))) : Option (Stp (Bool × (List (List ByteArray))) (Option ((List (List ByteArray)) × Int))))) p_00.Funcs (false, [])).bind (oc (fun (s_11 : (Bool × (List (List ByteArray)))) => (if s_11.1 then (some ([], 31)) else (some (s_11.2, 0))))))))))) (fun k_3 => ((getI p_00.Funcs 0).bind fun y_5 => (if (y_5.Params != 0) then (k_3 true) else (k_3 y_5.Result)))))))))
theorem windlassref05_Check_ev {fuel : Nat} {p_00 : Program} {r : ((List (List ByteArray)) × Int)} (h : windlassref05_Check_s fuel p_00 = some r) : PureEv Try.prog 11 [(Program.av p_00)] (.tup [(.sl false 1 (List.map (avL 1 avS) r.1)), (.int .i64 r.2)]) := by
  unfold windlassref05_Check_s at h
  refine PureEv_end mixed fn11 (by simp) [7, 11, 73] 6 ?_
  unfold fc11
  refine E_sq ?_
  refine E_reg ?_
  refine E_op0 (v' := (.cptr (Program.av p_00).cells 0)) rfl rfl ?_
  refine E_mv (v' := .nils) rfl ?_
  refine E_mv (v' := (.int .i64 0)) rfl ?_
  refine E_nil ?_
  refine E_nx ?_
  refine E_as ?_
  refine E_sq ?_
  refine E_reg ?_
  refine E_op0 (v' := (Program.av p_00)) rfl rfl ?_
  obtain ⟨byt_1, hbyt_1, h⟩ := bd_some h
  refine E_callW (windlassref03_Bytes_ev (fuel := fuel)  hbyt_1) rfl ⟨(.refl _), trivial⟩ (blwL_of ⟨(Program.enc.blw _ 0), trivial⟩) (tup_blw ⟨((encI .u8).blws 0), rfl, trivial⟩) ?_
  refine E_mv (v' := (.tup [(.sl false 1 (List.map (avI .u8) byt_1.1)), (.bool byt_1.2)])) rfl ?_
  refine E_op0 (v' := (.sl false 1 (List.map (avI .u8) byt_1.1))) rfl rfl ?_
  refine E_op0 (v' := (.bool byt_1.2)) rfl rfl ?_
  refine E_mv (v' := (.sl false 1 (List.map (avI .u8) byt_1.1))) rfl ?_
  refine E_mv (v' := (.bool byt_1.2)) rfl ?_
  refine E_nil ?_
  refine E_nx ?_
  refine E_as ?_
  refine E_sq ?_
  refine E_reg ?_
  refine E_mv (v' := (.bool byt_1.2)) rfl ?_
  refine E_op0 (v' := (.bool (!byt_1.2))) rfl rfl ?_
  refine E_nil ?_
  refine E_nx ?_
  refine E_sq ?_
  refine E_cs (t := (!byt_1.2)) rfl (fun hb => ?_) (fun hb => ?_)
  · rw [ite_t hb] at h
    refine E_sq ?_
    refine E_reg ?_
    refine E_mv (v' := .nils) rfl ?_
    refine E_mv (v' := (.int .i64 30)) rfl ?_
    refine E_nil ?_
    refine E_nx ?_
    refine E_ret ?_
    refine E_thr ?_
    cases h
    exact ⟨trivial, _, rfl, (fz_tup ⟨(fz_b rfl .nil), (fz_b rfl (.refl _)), trivial⟩)⟩
  · rw [ite_f hb] at h
    refine E_skip ?_
    refine E_nx ?_
    refine E_as ?_
    refine E_sq ?_
    refine E_reg ?_
    refine E_op0 (v' := (Program.av p_00)) rfl rfl ?_
    obtain ⟨bou_2, hbou_2, h⟩ := bd_some h
    refine E_callW (windlassref03_Bounded_ev  hbou_2) rfl ⟨(.refl _), trivial⟩ (blwL_of ⟨(Program.enc.blw _ 0), trivial⟩) rfl ?_
    refine E_op0 (v' := (.bool (!bou_2))) rfl rfl ?_
    refine E_nil ?_
    refine E_nx ?_
    refine E_sq ?_
    refine E_cs (t := (!bou_2)) rfl (fun hb => ?_) (fun hb => ?_)
    · rw [ite_t hb] at h
      refine E_sq ?_
      refine E_reg ?_
      refine E_mv (v' := .nils) rfl ?_
      refine E_mv (v' := (.int .i64 31)) rfl ?_
      refine E_nil ?_
      refine E_nx ?_
      refine E_ret ?_
      refine E_thr ?_
      cases h
      exact ⟨trivial, _, rfl, (fz_tup ⟨(fz_b rfl .nil), (fz_b rfl (.refl _)), trivial⟩)⟩
    · rw [ite_f hb] at h
      refine E_skip ?_
      refine E_nx ?_
      refine E_as ?_
      refine E_jp h (fun s_4 => [(1, (.cptr (Program.av p_00).cells 0)), (37, (.bool s_4))]) (fun s_4 => []) (fun k_3 h => ?_) (fun s_4 h => ?_)
      · refine E_reg ?_
        refine E_op0 (v' := (.cptr (Program.av p_00).cells 0)) rfl rfl ?_
        refine E_op0 (v' := (.sl false 5 (List.map Func.av p_00.Funcs))) rfl rfl ?_
        obtain ⟨y_5, hy_5, h⟩ := bd_some h
        refine E_iadF rfl rfl hy_5 ?_
        refine E_op0 (v' := (.cptr (Func.av y_5).cells 0)) rfl rfl ?_
        refine E_op0 (v' := (.int .i64 y_5.Params)) rfl rfl ?_
        refine E_op0 (v' := (.bool (y_5.Params != 0))) rfl rfl ?_
        refine E_mv (v' := (.bool (y_5.Params != 0))) rfl ?_
        refine E_gsT (b := (y_5.Params != 0)) rfl rfl rfl (fun hb => ?_) (fun hb => ?_)
        · rw [ite_f hb] at h
          refine E_op0 (v' := (.cptr (Program.av p_00).cells 0)) rfl rfl ?_
          refine E_gh rfl ?_
          refine E_op0 (v' := (.sl false 5 (List.map Func.av p_00.Funcs))) rfl rfl ?_
          refine E_gh rfl ?_
          refine E_iadF rfl rfl hy_5 ?_
          refine E_gh rfl ?_
          refine E_op0 (v' := (.cptr (Func.av y_5).cells 2)) rfl rfl ?_
          refine E_gh rfl ?_
          refine E_op0 (v' := (.bool y_5.Result)) rfl rfl ?_
          refine E_pf rfl rfl ?_
          refine E_nil ?_
          exact E_jx _ h (wk_aw ⟨(.refl _), (.refl _), trivial⟩)
        · rw [ite_t hb] at h
          refine E_gm rfl ?_
          refine E_gm rfl ?_
          refine E_gm rfl ?_
          refine E_gm rfl ?_
          refine E_pt rfl rfl ?_
          refine E_nil ?_
          exact E_jx _ h (wk_aw ⟨(.refl _), (.refl _), trivial⟩)
      · refine E_sq ?_
        refine E_cs (t := s_4) rfl (fun hb => ?_) (fun hb => ?_)
        · rw [ite_t hb] at h
          refine E_sq ?_
          refine E_reg ?_
          refine E_mv (v' := .nils) rfl ?_
          refine E_mv (v' := (.int .i64 50)) rfl ?_
          refine E_nil ?_
          refine E_nx ?_
          refine E_ret ?_
          refine E_thr ?_
          cases h
          exact ⟨trivial, _, rfl, (fz_tup ⟨(fz_b rfl .nil), (fz_b rfl (.refl _)), trivial⟩)⟩
        · rw [ite_f hb] at h
          refine E_skip ?_
          refine E_nx ?_
          refine E_as ?_
          refine E_sq ?_
          refine E_reg ?_
          refine E_op0 (v' := (.cptr (Program.av p_00).cells 0)) rfl rfl ?_
          refine E_op0 (v' := (.sl false 5 (List.map Func.av p_00.Funcs))) rfl rfl ?_
          refine E_len rfl ?_
          refine E_mv (v' := (.int .i64 0)) rfl ?_
          refine E_nil ?_
          refine E_nx ?_
          refine E_sq ?_
          refine E_rngO (fun s_6 => [(1, (.cptr (Program.av p_00).cells 0)), (39, (.sl false 5 (List.map Func.av p_00.Funcs)))]) (fun s_6 => []) h (by decide) (by decide) (fun _ => ⟨rfl, rfl, rfl, rfl⟩) (wk_aw ⟨(.refl _), (.refl _), (.refl _), (.refl _), trivial⟩) (fun i_7 f_8 s_6 c hx_9 hlt h => ?_) (fun s_6 fr' S' h hw => ?_)
          · refine E_sq ?_
            refine E_reg ?_
            refine E_iadF rfl rfl (getI_of hx_9) ?_
            refine E_op0 (v' := (Func.av f_8)) rfl rfl ?_
            refine E_op (v' := .ptr 0 0 0) (S' := [.arr 0 [(.int .i64 0), .nils, (.bool false), (.int .i64 0), .nils]]) rfl rfl rfl ?_
            refine E_do (S' := [.arr 0 [(.int .i64 f_8.Params), (.sl false 1 (List.map (avI .u8) f_8.Locals)), (.bool f_8.Result), (.int .i64 f_8.Keep), (.sl false 3 (List.map Instr.av f_8.Code))]]) rfl rfl ?_
            refine E_nil ?_
            refine E_nx ?_
            refine E_sq ?_
            refine E_reg ?_
            refine E_op0 (v' := (Program.av p_00)) rfl rfl ?_
            refine E_opw (v' := (Func.av f_8)) rfl (.aggL ⟨(.refl _), (.refl _), (.refl _), (.refl _), (.refl _), trivial⟩) rfl ?_
            obtain ⟨nam_10, hnam_10, h⟩ := bd_some h
            refine E_callW (windlassref05_names_ev  hnam_10) rfl ⟨(.refl _), (.refl _), trivial⟩ (blwL_of ⟨(Program.enc.blw _ 0), (Func.enc.blw _ 0), trivial⟩) rfl ?_
            refine E_op0 (v' := (.bool (!nam_10))) rfl rfl ?_
            refine E_nil ?_
            refine E_nx ?_
            refine E_cs (t := (!nam_10)) rfl (fun hb => ?_) (fun hb => ?_)
            · rw [ite_t hb] at h
              refine E_sq ?_
              refine E_reg ?_
              refine E_mv (v' := .nils) rfl ?_
              refine E_mv (v' := (.int .i64 50)) rfl ?_
              refine E_nil ?_
              refine E_nx ?_
              refine E_ret ?_
              cases h
              refine L_rrO rfl (fun h => ?_)
              refine E_thr ?_
              cases h
              exact ⟨trivial, _, rfl, (fz_tup ⟨(fz_b rfl .nil), (fz_b rfl (.refl _)), trivial⟩)⟩
            · rw [ite_f hb] at h
              refine E_skip ?_
              cases h
              exact L_nn rfl (wk_rn [] rfl (Nat.le_of_ble_eq_true rfl) trivial ⟨(rn_b rfl), (rn_b rfl), (rn_b (cp_blw (Program.enc.blw _ 0))), (rn_b (Func.enc.blws 0)), trivial⟩)
          · refine X_nx hw ?_
            refine E_sq ?_
            refine E_reg ?_
            refine E_mv (v' := .nils) rfl ?_
            refine E_nil ?_
            refine E_nx ?_
            refine E_sq ?_
            refine E_reg ?_
            refine E_mv (v' := (.bool false)) rfl ?_
            refine E_nil ?_
            refine E_nx ?_
            refine E_as ?_
            refine E_sq ?_
            refine E_reg ?_
            refine E_op0 (v' := (.cptr (Program.av p_00).cells 0)) rfl rfl ?_
            refine E_op0 (v' := (.sl false 5 (List.map Func.av p_00.Funcs))) rfl rfl ?_
            refine E_len rfl ?_
            refine E_mv (v' := (.int .i64 0)) rfl ?_
            refine E_nil ?_
            refine E_nx ?_
            refine E_sq ?_
            refine E_rngO (fun s_11 => [(1, (.cptr (Program.av p_00).cells 0)), (8, (.ref 0 1 0 (List.length s_11.2) none)), (9, (.bool s_11.1)), (51, (.sl false 5 (List.map Func.av p_00.Funcs)))]) (fun s_11 => [.arr 1 (flat (avL 1 avS) s_11.2)]) h (by decide) (by decide) (fun _ => ⟨rfl, rfl, rfl, rfl⟩) (wk_rn [none] rfl (Nat.le_of_ble_eq_true rfl) ⟨(rn_obN rfl rfl rfl), trivial⟩ ⟨(rn_b rfl), (rn_b rfl), (rn_b (cp_blw (Program.enc.blw _ 0))), (rn_nil rfl), (rn_b rfl), (rn_b (Func.enc.blws 0)), trivial⟩) (fun i_12 f_13 s_11 c hx_14 hlt h => ?_) (fun s_11 fr' S' h hw => ?_)
            · refine E_sq ?_
              refine E_reg ?_
              refine E_iadF rfl rfl (getI_of hx_14) ?_
              refine E_op0 (v' := (Func.av f_13)) rfl rfl ?_
              refine E_op (v' := .ptr 1 0 0) (S' := [.arr 1 (flat (avL 1 avS) s_11.2), .arr 0 [(.int .i64 0), .nils, (.bool false), (.int .i64 0), .nils]]) rfl rfl rfl ?_
              refine E_do (S' := [.arr 1 (flat (avL 1 avS) s_11.2), .arr 0 [(.int .i64 f_13.Params), (.sl false 1 (List.map (avI .u8) f_13.Locals)), (.bool f_13.Result), (.int .i64 f_13.Keep), (.sl false 3 (List.map Instr.av f_13.Code))]]) rfl rfl ?_
              refine E_nil ?_
              refine E_nx ?_
              refine E_sq ?_
              refine E_reg ?_
              refine E_op0 (v' := (Program.av p_00)) rfl rfl ?_
              refine E_opw (v' := (Func.av f_13)) rfl (.aggL ⟨(.refl _), (.refl _), (.refl _), (.refl _), (.refl _), trivial⟩) rfl ?_
              obtain ⟨sta_15, hsta_15, h⟩ := bd_some h
              refine E_callW (windlassref05_Stacks_ev (fuel := fuel)  hsta_15) rfl ⟨(.refl _), (.refl _), trivial⟩ (blwL_of ⟨(Program.enc.blw _ 0), (Func.enc.blw _ 0), trivial⟩) (tup_blw ⟨(encS.blws 0), rfl, rfl, trivial⟩) ?_
              refine E_mv (v' := (.tup [(.sl false 1 (List.map avS sta_15.1)), (.bool sta_15.2.1), (.bool sta_15.2.2)])) rfl ?_
              refine E_op0 (v' := (.sl false 1 (List.map avS sta_15.1))) rfl rfl ?_
              refine E_op0 (v' := (.bool sta_15.2.1)) rfl rfl ?_
              refine E_op0 (v' := (.bool sta_15.2.2)) rfl rfl ?_
              refine E_mv (v' := (.sl false 1 (List.map avS sta_15.1))) rfl ?_
              refine E_mv (v' := (.bool sta_15.2.1)) rfl ?_
              refine E_mv (v' := (.bool sta_15.2.2)) rfl ?_
              refine E_nil ?_
              refine E_nx ?_
              refine E_as ?_
              refine E_sq ?_
              refine E_reg ?_
              refine E_mv (v' := (.bool sta_15.2.2)) rfl ?_
              refine E_op0 (v' := (.bool (!sta_15.2.2))) rfl rfl ?_
              refine E_nil ?_
              refine E_nx ?_
              refine E_sq ?_
              refine E_cs (t := (!sta_15.2.2)) rfl (fun hb => ?_) (fun hb => ?_)
              · rw [ite_t hb] at h
                refine E_sq ?_
                refine E_reg ?_
                refine E_mv (v' := .nils) rfl ?_
                refine E_mv (v' := (.int .i64 50)) rfl ?_
                refine E_nil ?_
                refine E_nx ?_
                refine E_ret ?_
                refine E_thr ?_
                cases h
                refine L_rrO rfl (fun h => ?_)
                refine E_thr ?_
                cases h
                exact ⟨trivial, _, rfl, (fz_tup ⟨(fz_b rfl .nil), (fz_b rfl (.refl _)), trivial⟩)⟩
              · rw [ite_f hb] at h
                refine E_skip ?_
                refine E_nx ?_
                refine E_jp h (fun s_17 => [(1, (.cptr (Program.av p_00).cells 0)), (8, (.ref 0 1 0 (List.length s_11.2) none)), (9, (.bool s_17)), (12, (.sl false 1 (List.map avS sta_15.1))), (51, (.sl false 5 (List.map Func.av p_00.Funcs))), (52, (.int .i64 (List.length p_00.Funcs : Int))), (53, (.int .i64 (i_12 : Int)))]) (fun s_17 => [.arr 1 (flat (avL 1 avS) s_11.2)]) (fun k_16 h => ?_) (fun s_17 h => ?_)
                · refine E_reg ?_
                  refine E_mv (v' := (.bool s_11.1)) rfl ?_
                  refine E_mv (v' := (.bool s_11.1)) rfl ?_
                  refine E_gsT (b := s_11.1) rfl rfl rfl (fun hb => ?_) (fun hb => ?_)
                  · rw [ite_f hb] at h
                    refine E_mv (v' := (.bool sta_15.2.1)) rfl ?_
                    refine E_pf rfl rfl ?_
                    refine E_mv (v' := (.bool sta_15.2.1)) rfl ?_
                    refine E_nil ?_
                    exact E_jx _ h (wk_rn [some (0, 0)] rfl (Nat.le_of_ble_eq_true rfl) ⟨(rn_ob rfl rfl (.refl ((encL encS 1).blwf 0 _)) rfl), trivial⟩ ⟨(rn_b (cp_blw (Program.enc.blw _ 0))), (rn_refL (encL encS 1) rfl rfl rfl), (rn_b rfl), (rn_b (encS.blws 0)), (rn_b (Func.enc.blws 0)), (rn_b rfl), (rn_b rfl), trivial⟩)
                  · rw [ite_t hb] at h
                    refine E_pt rfl rfl ?_
                    refine E_mv (v' := (.bool true)) rfl ?_
                    refine E_nil ?_
                    exact E_jx _ h (wk_rn [some (0, 0)] rfl (Nat.le_of_ble_eq_true rfl) ⟨(rn_ob rfl rfl (.refl ((encL encS 1).blwf 0 _)) rfl), trivial⟩ ⟨(rn_b (cp_blw (Program.enc.blw _ 0))), (rn_refL (encL encS 1) rfl rfl rfl), (rn_b rfl), (rn_b (encS.blws 0)), (rn_b (Func.enc.blws 0)), (rn_b rfl), (rn_b rfl), trivial⟩)
                · refine E_reg ?_
                  refine E_mv (v' := (.ref 0 1 0 (List.length s_11.2) none)) rfl ?_
                  refine E_mv (v' := (.sl false 1 (List.map avS sta_15.1))) rfl ?_
                  refine E_opw (v' := (.sl true 1 (List.map (avL 1 avS) [sta_15.1]))) rfl (.refl _) rfl ?_
                  obtain ⟨l_18, hl_18, h⟩ := bd_some h
                  refine E_apL (S' := [.arr 2 (flat (avL 1 avS) l_18)]) (encL encS 1) rfl (src_sl [sta_15.1]) rfl hl_18 rfl ?_
                  refine E_mv (v' := (.ref 0 2 0 (List.length l_18) none)) rfl ?_
                  refine E_nil ?_
                  cases h
                  exact L_nn rfl (wk_rn [some (0, 0)] rfl (Nat.le_of_ble_eq_true rfl) ⟨(rn_ob rfl rfl (.refl ((encL encS 1).blwf 0 _)) rfl), trivial⟩ ⟨(rn_b rfl), (rn_b rfl), (rn_b (cp_blw (Program.enc.blw _ 0))), (rn_refL (encL encS 1) rfl rfl rfl), (rn_b rfl), (rn_b (Func.enc.blws 0)), trivial⟩)
            · refine X_nx hw ?_
              refine E_as ?_
              refine E_sq ?_
              refine E_reg ?_
              refine E_mv (v' := (.bool s_11.1)) rfl ?_
              refine E_nil ?_
              refine E_nx ?_
              refine E_sq ?_
              refine E_cs (t := s_11.1) rfl (fun hb => ?_) (fun hb => ?_)
              · rw [ite_t hb] at h
                refine E_sq ?_
                refine E_reg ?_
                refine E_mv (v' := .nils) rfl ?_
                refine E_mv (v' := (.int .i64 31)) rfl ?_
                refine E_nil ?_
                refine E_nx ?_
                refine E_ret ?_
                refine E_thr ?_
                cases h
                exact ⟨trivial, _, rfl, (fz_tup ⟨(fz_b rfl .nil), (fz_b rfl (.refl _)), trivial⟩)⟩
              · rw [ite_f hb] at h
                refine E_skip ?_
                refine E_nx ?_
                refine E_sq ?_
                refine E_reg ?_
                refine E_mv (v' := (.ref 0 1 0 (List.length s_11.2) none)) rfl ?_
                refine E_mv (v' := (.ref 0 1 0 (List.length s_11.2) none)) rfl ?_
                refine E_mv (v' := (.int .i64 0)) rfl ?_
                refine E_nil ?_
                refine E_nx ?_
                refine E_ret ?_
                cases h
                exact ⟨trivial, _, rfl, (fz_tup ⟨(fz_ref (encL encS 1) (Nat.zero_le _) rfl), (fz_b rfl (.refl _)), trivial⟩)⟩
/- windlass/windlassref03.Same -/
def fc12 : FC := (.seq (.reg [⟨(some 2), none, .op (.box (.t 0))⟩,
  ⟨(some 3), none, .op (.box (.t 1))⟩,
  ⟨(some 4), none, .op (.mv (.v (.bool false)))⟩] [])
  (.seq (.seq (.reg [⟨(some 10), none, .op (.fad 0 (.t 2))⟩,
  ⟨(some 11), none, .op (.load none (.t 10))⟩,
  ⟨(some 12), none, .op (.len .sl (.t 11))⟩,
  ⟨(some 13), none, .op (.fad 0 (.t 3))⟩,
  ⟨(some 14), none, .op (.load none (.t 13))⟩,
  ⟨(some 15), none, .op (.len .sl (.t 14))⟩,
  ⟨(some 16), none, .op (.bin .none .neq (.t 12) (.t 15))⟩] [])
  (.cond (.t 16)
  (.seq (.reg [⟨(some 4), none, .op (.mv (.v (.bool false)))⟩] [])
  .ret)
  .skip))
  (.seq (.seq (.reg [⟨(some 17), none, .op (.fad 0 (.t 2))⟩,
  ⟨(some 18), none, .op (.load none (.t 17))⟩,
  ⟨(some 19), none, .op (.len .sl (.t 18))⟩,
  ⟨(some 20), none, .op (.mv (.v (.int .i64 0)))⟩] [])
  (.block 0 (.loop (.seq (.reg [⟨(some 21), none, .op (.bin .none .lss (.t 20) (.t 19))⟩] [])
  (.seq (.cond (.t 21)
  .skip
  (.exit 0))
  (.seq (.block 1 (.seq (.reg [⟨(some 22), none, .op (.mv (.t 20))⟩,
  ⟨(some 5), none, .op (.mv (.t 22))⟩] [])
  (.seq (.reg [⟨(some 23), none, .op (.fad 0 (.t 2))⟩,
  ⟨(some 24), none, .op (.load none (.t 23))⟩,
  ⟨(some 25), none, .op (.mv (.t 5))⟩,
  ⟨(some 26), none, .op (.iad none (some 5) (.t 24) (.t 25))⟩,
  ⟨(some 27), none, .op (.load (some 5) (.t 26))⟩,
  ⟨(some 28), none, .op (.fad 0 (.t 3))⟩,
  ⟨(some 29), none, .op (.load none (.t 28))⟩,
  ⟨(some 30), none, .op (.mv (.t 5))⟩,
  ⟨(some 31), none, .op (.iad none (some 5) (.t 29) (.t 30))⟩,
  ⟨(some 32), none, .op (.load (some 5) (.t 31))⟩,
  ⟨(some 6), none, .op (.new [(.int .i64 0), .nils, (.bool false), (.int .i64 0), .nils])⟩,
  ⟨(some 7), none, .op (.new [(.int .i64 0), .nils, (.bool false), (.int .i64 0), .nils])⟩,
  ⟨none, none, .op (.store 5 (.t 6) (.t 27))⟩,
  ⟨none, none, .op (.store 5 (.t 7) (.t 32))⟩] [(1, 10), (4, 10), (6, 10), (9, 10), (1, 11), (4, 11), (6, 11), (9, 11), (10, 11), (6, 12), (9, 12)])
  (.seq (.seq (.reg [⟨(some 33), none, .op (.fad 0 (.t 6))⟩,
  ⟨(some 34), none, .op (.load none (.t 33))⟩,
  ⟨(some 35), none, .op (.fad 0 (.t 7))⟩,
  ⟨(some 36), none, .op (.load none (.t 35))⟩,
  ⟨(some 37), none, .op (.bin .none .neq (.t 34) (.t 36))⟩,
  ⟨(some 38), none, .op (.mv (.t 37))⟩,
  ⟨(some 39), some (38, false), .op (.fad 2 (.t 6))⟩,
  ⟨(some 40), some (38, false), .op (.load none (.t 39))⟩,
  ⟨(some 41), some (38, false), .op (.fad 2 (.t 7))⟩,
  ⟨(some 42), some (38, false), .op (.load none (.t 41))⟩,
  ⟨(some 43), some (38, false), .op (.bin .bool .neq (.t 40) (.t 42))⟩,
  ⟨(some 44), none, .op (.pick (.t 38) (.v (.bool true)) (.t 43))⟩,
  ⟨(some 45), none, .op (.mv (.t 44))⟩,
  ⟨(some 46), some (45, false), .op (.fad 3 (.t 6))⟩,
  ⟨(some 47), some (45, false), .op (.load none (.t 46))⟩,
  ⟨(some 48), some (45, false), .op (.fad 3 (.t 7))⟩,
  ⟨(some 49), some (45, false), .op (.load none (.t 48))⟩,
  ⟨(some 50), some (45, false), .op (.bin .none .neq (.t 47) (.t 49))⟩,
  ⟨(some 51), none, .op (.pick (.t 45) (.v (.bool true)) (.t 50))⟩,
  ⟨(some 52), none, .op (.mv (.t 51))⟩,
  ⟨(some 53), some (52, false), .op (.fad 1 (.t 6))⟩,
  ⟨(some 54), some (52, false), .op (.load none (.t 53))⟩,
  ⟨(some 55), some (52, false), .op (.len .sl (.t 54))⟩,
  ⟨(some 56), some (52, false), .op (.fad 1 (.t 7))⟩,
  ⟨(some 57), some (52, false), .op (.load none (.t 56))⟩,
  ⟨(some 58), some (52, false), .op (.len .sl (.t 57))⟩,
  ⟨(some 59), some (52, false), .op (.bin .none .neq (.t 55) (.t 58))⟩,
  ⟨(some 60), none, .op (.pick (.t 52) (.v (.bool true)) (.t 59))⟩,
  ⟨(some 61), none, .op (.mv (.t 60))⟩,
  ⟨(some 62), some (61, false), .op (.fad 4 (.t 6))⟩,
  ⟨(some 63), some (61, false), .op (.load none (.t 62))⟩,
  ⟨(some 64), some (61, false), .op (.len .sl (.t 63))⟩,
  ⟨(some 65), some (61, false), .op (.fad 4 (.t 7))⟩,
  ⟨(some 66), some (61, false), .op (.load none (.t 65))⟩,
  ⟨(some 67), some (61, false), .op (.len .sl (.t 66))⟩,
  ⟨(some 68), some (61, false), .op (.bin .none .neq (.t 64) (.t 67))⟩,
  ⟨(some 69), none, .op (.pick (.t 61) (.v (.bool true)) (.t 68))⟩] [])
  (.cond (.t 69)
  (.seq (.reg [⟨(some 4), none, .op (.mv (.v (.bool false)))⟩] [])
  .ret)
  .skip))
  (.seq (.seq (.reg [⟨(some 70), none, .op (.fad 1 (.t 6))⟩,
  ⟨(some 71), none, .op (.load none (.t 70))⟩,
  ⟨(some 72), none, .op (.len .sl (.t 71))⟩,
  ⟨(some 73), none, .op (.mv (.v (.int .i64 0)))⟩] [])
  (.block 2 (.loop (.seq (.reg [⟨(some 74), none, .op (.bin .none .lss (.t 73) (.t 72))⟩] [])
  (.seq (.cond (.t 74)
  .skip
  (.exit 2))
  (.seq (.block 3 (.seq (.reg [⟨(some 75), none, .op (.mv (.t 73))⟩,
  ⟨(some 8), none, .op (.mv (.t 75))⟩] [])
  (.seq (.reg [⟨(some 76), none, .op (.fad 1 (.t 6))⟩,
  ⟨(some 77), none, .op (.load none (.t 76))⟩,
  ⟨(some 78), none, .op (.mv (.t 8))⟩,
  ⟨(some 79), none, .op (.iad none none (.t 77) (.t 78))⟩,
  ⟨(some 80), none, .op (.load none (.t 79))⟩,
  ⟨(some 81), none, .op (.fad 1 (.t 7))⟩,
  ⟨(some 82), none, .op (.load none (.t 81))⟩,
  ⟨(some 83), none, .op (.mv (.t 8))⟩,
  ⟨(some 84), none, .op (.iad none none (.t 82) (.t 83))⟩,
  ⟨(some 85), none, .op (.load none (.t 84))⟩,
  ⟨(some 86), none, .op (.bin .none .neq (.t 80) (.t 85))⟩] [])
  (.cond (.t 86)
  (.seq (.reg [⟨(some 4), none, .op (.mv (.v (.bool false)))⟩] [])
  .ret)
  .skip))))
  (.reg [⟨(some 87), none, .op (.bin .none .add (.t 73) (.v (.int .i64 1)))⟩,
  ⟨(some 73), none, .op (.mv (.t 87))⟩] [])))))))
  (.seq (.reg [⟨(some 88), none, .op (.fad 4 (.t 6))⟩,
  ⟨(some 89), none, .op (.load none (.t 88))⟩,
  ⟨(some 90), none, .op (.len .sl (.t 89))⟩,
  ⟨(some 91), none, .op (.mv (.v (.int .i64 0)))⟩] [])
  (.block 4 (.loop (.seq (.reg [⟨(some 92), none, .op (.bin .none .lss (.t 91) (.t 90))⟩] [])
  (.seq (.cond (.t 92)
  .skip
  (.exit 4))
  (.seq (.block 5 (.seq (.reg [⟨(some 93), none, .op (.mv (.t 91))⟩,
  ⟨(some 9), none, .op (.mv (.t 93))⟩] [])
  (.seq (.reg [⟨(some 94), none, .op (.fad 4 (.t 6))⟩,
  ⟨(some 95), none, .op (.load none (.t 94))⟩,
  ⟨(some 96), none, .op (.mv (.t 9))⟩,
  ⟨(some 97), none, .op (.iad none (some 3) (.t 95) (.t 96))⟩,
  ⟨(some 98), none, .op (.load (some 3) (.t 97))⟩,
  ⟨(some 99), none, .op (.fad 4 (.t 7))⟩,
  ⟨(some 100), none, .op (.load none (.t 99))⟩,
  ⟨(some 101), none, .op (.mv (.t 9))⟩,
  ⟨(some 102), none, .op (.iad none (some 3) (.t 100) (.t 101))⟩,
  ⟨(some 103), none, .op (.load (some 3) (.t 102))⟩,
  ⟨(some 104), none, .op (.eqs [.int, .int, .int] .neq (.t 98) (.t 103))⟩] [])
  (.cond (.t 104)
  (.seq (.reg [⟨(some 4), none, .op (.mv (.v (.bool false)))⟩] [])
  .ret)
  .skip))))
  (.reg [⟨(some 105), none, .op (.bin .none .add (.t 91) (.v (.int .i64 1)))⟩,
  ⟨(some 91), none, .op (.mv (.t 105))⟩] []))))))))))))
  (.reg [⟨(some 106), none, .op (.bin .none .add (.t 20) (.v (.int .i64 1)))⟩,
  ⟨(some 20), none, .op (.mv (.t 106))⟩] [])))))))
  (.seq (.reg [⟨(some 4), none, .op (.mv (.v (.bool true)))⟩] [])
  .ret))))
theorem fn12 : Fn3 Try.prog 12 107 [(4, none)] fc12 := ⟨_, _, Try.func12, rfl, rfl, rfl, by kernel_rfl⟩
def windlassref03_Same_s (a_00 : Program) (b_01 : Program) : Option Bool :=
  (if ((List.length a_00.Funcs : Int) != (List.length b_01.Funcs : Int)) then (some false) else ((rni (fun (i_2 : Nat) (s_1 : Program) => (((getI a_00.Funcs (i_2 : Int)).bind fun y_3 => ((getI s_1.Funcs (i_2 : Int)).bind fun y_4 => (jp (fun (s_6 : Bool) => (if s_6 then (some (.ret (some false))) else ((rni (fun (i_8 : Nat) (s_7 : Unit) => (((getI y_3.Locals (i_8 : Int)).bind fun y_9 => ((getI y_4.Locals (i_8 : Int)).bind fun y_10 => (if (y_9 != y_10) then (some (.ret (some (.ret (some false))))) else (some (.nxt ()))))) : Option (Stp Unit (Option (Stp Program (Option Bool)))))) (List.length y_3.Locals : Int) ()).bind (oc (fun (s_7 : Unit) => ((rni (fun (i_12 : Nat) (s_11 : Unit) => (((getI y_3.Code (i_12 : Int)).bind fun y_13 => ((getI y_4.Code (i_12 : Int)).bind fun y_14 => (if (!((y_13.Op == y_14.Op) && ((y_13.Arg == y_14.Arg) && ((y_13.Imm == y_14.Imm) && true)))) then (some (.ret (some (.ret (some false))))) else (some (.nxt ()))))) : Option (Stp Unit (Option (Stp Program (Option Bool)))))) (List.length y_3.Code : Int) ()).bind (oc (fun (s_11 : Unit) => (some (.nxt s_1)))))))))) (fun k_5 => (if (y_3.Params != y_4.Params) then (k_5 true) else (if (!(y_3.Result == y_4.Result)) then (k_5 true) else (if (y_3.Keep != y_4.Keep) then (k_5 true) else (if ((List.length y_3.Locals : Int) != (List.length y_4.Locals : Int)) then (k_5 true) else (k_5 ((List.length y_3.Code : Int) != (List.length y_4.Code : Int))))))))))) : Option (Stp Program (Option Bool)))) (List.length a_00.Funcs : Int) b_01).bind (oc (fun (s_1 : Program) => (some true)))))
theorem windlassref03_Same_ev {a_00 : Program} {b_01 : Program} {r : Bool} (h : windlassref03_Same_s a_00 b_01 = some r) : PureEv Try.prog 12 [(Program.av a_00), (Program.av b_01)] (.bool r) := by
  unfold windlassref03_Same_s at h
  refine PureEv_end mixed fn12 (by simp) [6, 7] 6 ?_
  unfold fc12
  refine E_sq ?_
  refine E_reg ?_
  refine E_op0 (v' := (.cptr (Program.av a_00).cells 0)) rfl rfl ?_
  refine E_op0 (v' := (.cptr (Program.av b_01).cells 0)) rfl rfl ?_
  refine E_mv (v' := (.bool false)) rfl ?_
  refine E_nil ?_
  refine E_nx ?_
  refine E_as ?_
  refine E_sq ?_
  refine E_reg ?_
  refine E_op0 (v' := (.cptr (Program.av a_00).cells 0)) rfl rfl ?_
  refine E_op0 (v' := (.sl false 5 (List.map Func.av a_00.Funcs))) rfl rfl ?_
  refine E_len rfl ?_
  refine E_op0 (v' := (.cptr (Program.av b_01).cells 0)) rfl rfl ?_
  refine E_op0 (v' := (.sl false 5 (List.map Func.av b_01.Funcs))) rfl rfl ?_
  refine E_len rfl ?_
  refine E_op0 (v' := (.bool ((List.length a_00.Funcs : Int) != (List.length b_01.Funcs : Int)))) rfl rfl ?_
  refine E_nil ?_
  refine E_nx ?_
  refine E_sq ?_
  refine E_cs (t := ((List.length a_00.Funcs : Int) != (List.length b_01.Funcs : Int))) rfl (fun hb => ?_) (fun hb => ?_)
  · rw [ite_t hb] at h
    refine E_sq ?_
    refine E_reg ?_
    refine E_mv (v' := (.bool false)) rfl ?_
    refine E_nil ?_
    refine E_nx ?_
    refine E_ret ?_
    refine E_thr ?_
    cases h
    exact ⟨trivial, _, rfl, (fz_b rfl (.refl _))⟩
  · rw [ite_f hb] at h
    refine E_skip ?_
    refine E_nx ?_
    refine E_as ?_
    refine E_sq ?_
    refine E_reg ?_
    refine E_op0 (v' := (.cptr (Program.av a_00).cells 0)) rfl rfl ?_
    refine E_op0 (v' := (.sl false 5 (List.map Func.av a_00.Funcs))) rfl rfl ?_
    refine E_len rfl ?_
    refine E_mv (v' := (.int .i64 0)) rfl ?_
    refine E_nil ?_
    refine E_nx ?_
    refine E_sq ?_
    refine E_rniO (fun s_1 => [(2, (.cptr (Program.av a_00).cells 0)), (3, (.cptr (Program.av s_1).cells 0))]) (fun s_1 => []) h (by decide) (by decide) (fun _ => ⟨rfl, rfl, rfl, rfl⟩) (wk_aw ⟨(.refl _), (.refl _), (.refl _), (.refl _), trivial⟩) (fun i_2 s_1 c hlt h => ?_) (fun s_1 fr' S' h hw => ?_)
    · refine E_sq ?_
      refine E_reg ?_
      refine E_mv (v' := (.int .i64 (i_2 : Int))) rfl ?_
      refine E_mv (v' := (.int .i64 (i_2 : Int))) rfl ?_
      refine E_nil ?_
      refine E_nx ?_
      refine E_sq ?_
      refine E_regp ?_
      refine E_op0 (v' := (.cptr (Program.av a_00).cells 0)) rfl rfl ?_
      refine E_op0 (v' := (.sl false 5 (List.map Func.av a_00.Funcs))) rfl rfl ?_
      refine E_mv (v' := (.int .i64 (i_2 : Int))) rfl ?_
      obtain ⟨y_3, hy_3, h⟩ := bd_some h
      refine E_iadF rfl rfl hy_3 ?_
      refine E_op0 (v' := (Func.av y_3)) rfl rfl ?_
      refine E_op0 (v' := (.cptr (Program.av s_1).cells 0)) rfl rfl ?_
      refine E_op0 (v' := (.sl false 5 (List.map Func.av s_1.Funcs))) rfl rfl ?_
      refine E_mv (v' := (.int .i64 (i_2 : Int))) rfl ?_
      obtain ⟨y_4, hy_4, h⟩ := bd_some h
      refine E_iadF rfl rfl hy_4 ?_
      refine E_op0 (v' := (Func.av y_4)) rfl rfl ?_
      refine E_op (v' := .ptr 0 0 0) (S' := [.arr 0 [(.int .i64 0), .nils, (.bool false), (.int .i64 0), .nils]]) rfl rfl rfl ?_
      refine E_op (v' := .ptr 1 0 0) (S' := [.arr 0 [(.int .i64 0), .nils, (.bool false), (.int .i64 0), .nils], .arr 0 [(.int .i64 0), .nils, (.bool false), (.int .i64 0), .nils]]) rfl rfl rfl ?_
      refine E_do (S' := [.arr 0 [(.int .i64 y_3.Params), (.sl false 1 (List.map (avI .u8) y_3.Locals)), (.bool y_3.Result), (.int .i64 y_3.Keep), (.sl false 3 (List.map Instr.av y_3.Code))], .arr 0 [(.int .i64 0), .nils, (.bool false), (.int .i64 0), .nils]]) rfl rfl ?_
      refine E_do (S' := [.arr 0 [(.int .i64 y_3.Params), (.sl false 1 (List.map (avI .u8) y_3.Locals)), (.bool y_3.Result), (.int .i64 y_3.Keep), (.sl false 3 (List.map Instr.av y_3.Code))], .arr 0 [(.int .i64 y_4.Params), (.sl false 1 (List.map (avI .u8) y_4.Locals)), (.bool y_4.Result), (.int .i64 y_4.Keep), (.sl false 3 (List.map Instr.av y_4.Code))]]) rfl rfl ?_
      refine E_nil ?_
      refine And.intro (by simp [okLog, nthL, okPair, hp, fpOf]) ?_
      refine E_nx ?_
      refine E_as ?_
      refine E_jp h (fun s_6 => [(2, (.cptr (Program.av a_00).cells 0)), (3, (.cptr (Program.av s_1).cells 0)), (6, (.ptr 0 0 0)), (7, (.ptr 1 0 0)), (19, (.int .i64 (List.length a_00.Funcs : Int))), (20, (.int .i64 (i_2 : Int))), (69, (.bool s_6))]) (fun s_6 => [.arr 0 [(.int .i64 y_3.Params), (.sl false 1 (List.map (avI .u8) y_3.Locals)), (.bool y_3.Result), (.int .i64 y_3.Keep), (.sl false 3 (List.map Instr.av y_3.Code))], .arr 0 [(.int .i64 y_4.Params), (.sl false 1 (List.map (avI .u8) y_4.Locals)), (.bool y_4.Result), (.int .i64 y_4.Keep), (.sl false 3 (List.map Instr.av y_4.Code))]]) (fun k_5 h => ?_) (fun s_6 h => ?_)
      · refine E_reg ?_
        refine E_op0 (v' := (.ptr 0 0 0)) rfl rfl ?_
        refine E_op (v' := (.int .i64 y_3.Params)) (S' := [.arr 0 [(.int .i64 y_3.Params), (.sl false 1 (List.map (avI .u8) y_3.Locals)), (.bool y_3.Result), (.int .i64 y_3.Keep), (.sl false 3 (List.map Instr.av y_3.Code))], .arr 0 [(.int .i64 y_4.Params), (.sl false 1 (List.map (avI .u8) y_4.Locals)), (.bool y_4.Result), (.int .i64 y_4.Keep), (.sl false 3 (List.map Instr.av y_4.Code))]]) rfl rfl rfl ?_
        refine E_op0 (v' := (.ptr 1 0 0)) rfl rfl ?_
        refine E_op (v' := (.int .i64 y_4.Params)) (S' := [.arr 0 [(.int .i64 y_3.Params), (.sl false 1 (List.map (avI .u8) y_3.Locals)), (.bool y_3.Result), (.int .i64 y_3.Keep), (.sl false 3 (List.map Instr.av y_3.Code))], .arr 0 [(.int .i64 y_4.Params), (.sl false 1 (List.map (avI .u8) y_4.Locals)), (.bool y_4.Result), (.int .i64 y_4.Keep), (.sl false 3 (List.map Instr.av y_4.Code))]]) rfl rfl rfl ?_
        refine E_op0 (v' := (.bool (y_3.Params != y_4.Params))) rfl rfl ?_
        refine E_mv (v' := (.bool (y_3.Params != y_4.Params))) rfl ?_
        refine E_gsT (b := (y_3.Params != y_4.Params)) rfl rfl rfl (fun hb => ?_) (fun hb => ?_)
        · rw [ite_f hb] at h
          refine E_op0 (v' := (.ptr 0 0 2)) rfl rfl ?_
          refine E_gh rfl ?_
          refine E_op (v' := (.bool y_3.Result)) (S' := [.arr 0 [(.int .i64 y_3.Params), (.sl false 1 (List.map (avI .u8) y_3.Locals)), (.bool y_3.Result), (.int .i64 y_3.Keep), (.sl false 3 (List.map Instr.av y_3.Code))], .arr 0 [(.int .i64 y_4.Params), (.sl false 1 (List.map (avI .u8) y_4.Locals)), (.bool y_4.Result), (.int .i64 y_4.Keep), (.sl false 3 (List.map Instr.av y_4.Code))]]) rfl rfl rfl ?_
          refine E_gh rfl ?_
          refine E_op0 (v' := (.ptr 1 0 2)) rfl rfl ?_
          refine E_gh rfl ?_
          refine E_op (v' := (.bool y_4.Result)) (S' := [.arr 0 [(.int .i64 y_3.Params), (.sl false 1 (List.map (avI .u8) y_3.Locals)), (.bool y_3.Result), (.int .i64 y_3.Keep), (.sl false 3 (List.map Instr.av y_3.Code))], .arr 0 [(.int .i64 y_4.Params), (.sl false 1 (List.map (avI .u8) y_4.Locals)), (.bool y_4.Result), (.int .i64 y_4.Keep), (.sl false 3 (List.map Instr.av y_4.Code))]]) rfl rfl rfl ?_
          refine E_gh rfl ?_
          refine E_op0 (v' := (.bool (!(y_3.Result == y_4.Result)))) rfl rfl ?_
          refine E_pf rfl rfl ?_
          refine E_mv (v' := (.bool (!(y_3.Result == y_4.Result)))) rfl ?_
          refine E_gsT (b := (!(y_3.Result == y_4.Result))) rfl rfl rfl (fun hb => ?_) (fun hb => ?_)
          · rw [ite_f hb] at h
            refine E_op0 (v' := (.ptr 0 0 3)) rfl rfl ?_
            refine E_gh rfl ?_
            refine E_op (v' := (.int .i64 y_3.Keep)) (S' := [.arr 0 [(.int .i64 y_3.Params), (.sl false 1 (List.map (avI .u8) y_3.Locals)), (.bool y_3.Result), (.int .i64 y_3.Keep), (.sl false 3 (List.map Instr.av y_3.Code))], .arr 0 [(.int .i64 y_4.Params), (.sl false 1 (List.map (avI .u8) y_4.Locals)), (.bool y_4.Result), (.int .i64 y_4.Keep), (.sl false 3 (List.map Instr.av y_4.Code))]]) rfl rfl rfl ?_
            refine E_gh rfl ?_
            refine E_op0 (v' := (.ptr 1 0 3)) rfl rfl ?_
            refine E_gh rfl ?_
            refine E_op (v' := (.int .i64 y_4.Keep)) (S' := [.arr 0 [(.int .i64 y_3.Params), (.sl false 1 (List.map (avI .u8) y_3.Locals)), (.bool y_3.Result), (.int .i64 y_3.Keep), (.sl false 3 (List.map Instr.av y_3.Code))], .arr 0 [(.int .i64 y_4.Params), (.sl false 1 (List.map (avI .u8) y_4.Locals)), (.bool y_4.Result), (.int .i64 y_4.Keep), (.sl false 3 (List.map Instr.av y_4.Code))]]) rfl rfl rfl ?_
            refine E_gh rfl ?_
            refine E_op0 (v' := (.bool (y_3.Keep != y_4.Keep))) rfl rfl ?_
            refine E_pf rfl rfl ?_
            refine E_mv (v' := (.bool (y_3.Keep != y_4.Keep))) rfl ?_
            refine E_gsT (b := (y_3.Keep != y_4.Keep)) rfl rfl rfl (fun hb => ?_) (fun hb => ?_)
            · rw [ite_f hb] at h
              refine E_op0 (v' := (.ptr 0 0 1)) rfl rfl ?_
              refine E_gh rfl ?_
              refine E_op (v' := (.sl false 1 (List.map (avI .u8) y_3.Locals))) (S' := [.arr 0 [(.int .i64 y_3.Params), (.sl false 1 (List.map (avI .u8) y_3.Locals)), (.bool y_3.Result), (.int .i64 y_3.Keep), (.sl false 3 (List.map Instr.av y_3.Code))], .arr 0 [(.int .i64 y_4.Params), (.sl false 1 (List.map (avI .u8) y_4.Locals)), (.bool y_4.Result), (.int .i64 y_4.Keep), (.sl false 3 (List.map Instr.av y_4.Code))]]) rfl rfl rfl ?_
              refine E_gh rfl ?_
              refine E_len rfl ?_
              refine E_gh rfl ?_
              refine E_op0 (v' := (.ptr 1 0 1)) rfl rfl ?_
              refine E_gh rfl ?_
              refine E_op (v' := (.sl false 1 (List.map (avI .u8) y_4.Locals))) (S' := [.arr 0 [(.int .i64 y_3.Params), (.sl false 1 (List.map (avI .u8) y_3.Locals)), (.bool y_3.Result), (.int .i64 y_3.Keep), (.sl false 3 (List.map Instr.av y_3.Code))], .arr 0 [(.int .i64 y_4.Params), (.sl false 1 (List.map (avI .u8) y_4.Locals)), (.bool y_4.Result), (.int .i64 y_4.Keep), (.sl false 3 (List.map Instr.av y_4.Code))]]) rfl rfl rfl ?_
              refine E_gh rfl ?_
              refine E_len rfl ?_
              refine E_gh rfl ?_
              refine E_op0 (v' := (.bool ((List.length y_3.Locals : Int) != (List.length y_4.Locals : Int)))) rfl rfl ?_
              refine E_pf rfl rfl ?_
              refine E_mv (v' := (.bool ((List.length y_3.Locals : Int) != (List.length y_4.Locals : Int)))) rfl ?_
              refine E_gsT (b := ((List.length y_3.Locals : Int) != (List.length y_4.Locals : Int))) rfl rfl rfl (fun hb => ?_) (fun hb => ?_)
              · rw [ite_f hb] at h
                refine E_op0 (v' := (.ptr 0 0 4)) rfl rfl ?_
                refine E_gh rfl ?_
                refine E_op (v' := (.sl false 3 (List.map Instr.av y_3.Code))) (S' := [.arr 0 [(.int .i64 y_3.Params), (.sl false 1 (List.map (avI .u8) y_3.Locals)), (.bool y_3.Result), (.int .i64 y_3.Keep), (.sl false 3 (List.map Instr.av y_3.Code))], .arr 0 [(.int .i64 y_4.Params), (.sl false 1 (List.map (avI .u8) y_4.Locals)), (.bool y_4.Result), (.int .i64 y_4.Keep), (.sl false 3 (List.map Instr.av y_4.Code))]]) rfl rfl rfl ?_
                refine E_gh rfl ?_
                refine E_len rfl ?_
                refine E_gh rfl ?_
                refine E_op0 (v' := (.ptr 1 0 4)) rfl rfl ?_
                refine E_gh rfl ?_
                refine E_op (v' := (.sl false 3 (List.map Instr.av y_4.Code))) (S' := [.arr 0 [(.int .i64 y_3.Params), (.sl false 1 (List.map (avI .u8) y_3.Locals)), (.bool y_3.Result), (.int .i64 y_3.Keep), (.sl false 3 (List.map Instr.av y_3.Code))], .arr 0 [(.int .i64 y_4.Params), (.sl false 1 (List.map (avI .u8) y_4.Locals)), (.bool y_4.Result), (.int .i64 y_4.Keep), (.sl false 3 (List.map Instr.av y_4.Code))]]) rfl rfl rfl ?_
                refine E_gh rfl ?_
                refine E_len rfl ?_
                refine E_gh rfl ?_
                refine E_op0 (v' := (.bool ((List.length y_3.Code : Int) != (List.length y_4.Code : Int)))) rfl rfl ?_
                refine E_pf rfl rfl ?_
                refine E_nil ?_
                exact E_jx _ h (wk_rn [some (0, 0), some (1, 0)] rfl (Nat.le_of_ble_eq_true rfl) ⟨(rn_ob rfl rfl (.cons (rn_b rfl) (.cons (rn_b ((encI .u8).blws 0)) (.cons (rn_b rfl) (.cons (rn_b rfl) (.cons (rn_b (Instr.enc.blws 0)) (.nil (Nat.zero_le _))))))) rfl), (rn_ob rfl rfl (.cons (rn_b rfl) (.cons (rn_b ((encI .u8).blws 0)) (.cons (rn_b rfl) (.cons (rn_b rfl) (.cons (rn_b (Instr.enc.blws 0)) (.nil (Nat.zero_le _))))))) rfl), trivial⟩ ⟨(rn_b (cp_blw (Program.enc.blw _ 0))), (rn_b (cp_blw (Program.enc.blw _ 0))), (rn_ptr rfl rfl rfl rfl), (rn_ptr rfl rfl rfl rfl), (rn_b rfl), (rn_b rfl), (rn_b rfl), trivial⟩)
              · rw [ite_t hb] at h
                refine E_gm rfl ?_
                refine E_gm rfl ?_
                refine E_gm rfl ?_
                refine E_gm rfl ?_
                refine E_gm rfl ?_
                refine E_gm rfl ?_
                refine E_pt rfl rfl ?_
                refine E_nil ?_
                exact E_jx _ h (wk_rn [some (0, 0), some (1, 0)] rfl (Nat.le_of_ble_eq_true rfl) ⟨(rn_ob rfl rfl (.cons (rn_b rfl) (.cons (rn_b ((encI .u8).blws 0)) (.cons (rn_b rfl) (.cons (rn_b rfl) (.cons (rn_b (Instr.enc.blws 0)) (.nil (Nat.zero_le _))))))) rfl), (rn_ob rfl rfl (.cons (rn_b rfl) (.cons (rn_b ((encI .u8).blws 0)) (.cons (rn_b rfl) (.cons (rn_b rfl) (.cons (rn_b (Instr.enc.blws 0)) (.nil (Nat.zero_le _))))))) rfl), trivial⟩ ⟨(rn_b (cp_blw (Program.enc.blw _ 0))), (rn_b (cp_blw (Program.enc.blw _ 0))), (rn_ptr rfl rfl rfl rfl), (rn_ptr rfl rfl rfl rfl), (rn_b rfl), (rn_b rfl), (rn_b rfl), trivial⟩)
            · rw [ite_t hb] at h
              refine E_gm rfl ?_
              refine E_gm rfl ?_
              refine E_gm rfl ?_
              refine E_gm rfl ?_
              refine E_gm rfl ?_
              refine E_gm rfl ?_
              refine E_pt rfl rfl ?_
              refine E_mv (v' := (.bool true)) rfl ?_
              refine E_gm rfl ?_
              refine E_gm rfl ?_
              refine E_gm rfl ?_
              refine E_gm rfl ?_
              refine E_gm rfl ?_
              refine E_gm rfl ?_
              refine E_gm rfl ?_
              refine E_pt rfl rfl ?_
              refine E_nil ?_
              exact E_jx _ h (wk_rn [some (0, 0), some (1, 0)] rfl (Nat.le_of_ble_eq_true rfl) ⟨(rn_ob rfl rfl (.cons (rn_b rfl) (.cons (rn_b ((encI .u8).blws 0)) (.cons (rn_b rfl) (.cons (rn_b rfl) (.cons (rn_b (Instr.enc.blws 0)) (.nil (Nat.zero_le _))))))) rfl), (rn_ob rfl rfl (.cons (rn_b rfl) (.cons (rn_b ((encI .u8).blws 0)) (.cons (rn_b rfl) (.cons (rn_b rfl) (.cons (rn_b (Instr.enc.blws 0)) (.nil (Nat.zero_le _))))))) rfl), trivial⟩ ⟨(rn_b (cp_blw (Program.enc.blw _ 0))), (rn_b (cp_blw (Program.enc.blw _ 0))), (rn_ptr rfl rfl rfl rfl), (rn_ptr rfl rfl rfl rfl), (rn_b rfl), (rn_b rfl), (rn_b rfl), trivial⟩)
          · rw [ite_t hb] at h
            refine E_gm rfl ?_
            refine E_gm rfl ?_
            refine E_gm rfl ?_
            refine E_gm rfl ?_
            refine E_pt rfl rfl ?_
            refine E_mv (v' := (.bool true)) rfl ?_
            refine E_gm rfl ?_
            refine E_gm rfl ?_
            refine E_gm rfl ?_
            refine E_gm rfl ?_
            refine E_gm rfl ?_
            refine E_gm rfl ?_
            refine E_gm rfl ?_
            refine E_pt rfl rfl ?_
            refine E_mv (v' := (.bool true)) rfl ?_
            refine E_gm rfl ?_
            refine E_gm rfl ?_
            refine E_gm rfl ?_
            refine E_gm rfl ?_
            refine E_gm rfl ?_
            refine E_gm rfl ?_
            refine E_gm rfl ?_
            refine E_pt rfl rfl ?_
            refine E_nil ?_
            exact E_jx _ h (wk_rn [some (0, 0), some (1, 0)] rfl (Nat.le_of_ble_eq_true rfl) ⟨(rn_ob rfl rfl (.cons (rn_b rfl) (.cons (rn_b ((encI .u8).blws 0)) (.cons (rn_b rfl) (.cons (rn_b rfl) (.cons (rn_b (Instr.enc.blws 0)) (.nil (Nat.zero_le _))))))) rfl), (rn_ob rfl rfl (.cons (rn_b rfl) (.cons (rn_b ((encI .u8).blws 0)) (.cons (rn_b rfl) (.cons (rn_b rfl) (.cons (rn_b (Instr.enc.blws 0)) (.nil (Nat.zero_le _))))))) rfl), trivial⟩ ⟨(rn_b (cp_blw (Program.enc.blw _ 0))), (rn_b (cp_blw (Program.enc.blw _ 0))), (rn_ptr rfl rfl rfl rfl), (rn_ptr rfl rfl rfl rfl), (rn_b rfl), (rn_b rfl), (rn_b rfl), trivial⟩)
        · rw [ite_t hb] at h
          refine E_gm rfl ?_
          refine E_gm rfl ?_
          refine E_gm rfl ?_
          refine E_gm rfl ?_
          refine E_pt rfl rfl ?_
          refine E_mv (v' := (.bool true)) rfl ?_
          refine E_gm rfl ?_
          refine E_gm rfl ?_
          refine E_gm rfl ?_
          refine E_gm rfl ?_
          refine E_gm rfl ?_
          refine E_pt rfl rfl ?_
          refine E_mv (v' := (.bool true)) rfl ?_
          refine E_gm rfl ?_
          refine E_gm rfl ?_
          refine E_gm rfl ?_
          refine E_gm rfl ?_
          refine E_gm rfl ?_
          refine E_gm rfl ?_
          refine E_gm rfl ?_
          refine E_pt rfl rfl ?_
          refine E_mv (v' := (.bool true)) rfl ?_
          refine E_gm rfl ?_
          refine E_gm rfl ?_
          refine E_gm rfl ?_
          refine E_gm rfl ?_
          refine E_gm rfl ?_
          refine E_gm rfl ?_
          refine E_gm rfl ?_
          refine E_pt rfl rfl ?_
          refine E_nil ?_
          exact E_jx _ h (wk_rn [some (0, 0), some (1, 0)] rfl (Nat.le_of_ble_eq_true rfl) ⟨(rn_ob rfl rfl (.cons (rn_b rfl) (.cons (rn_b ((encI .u8).blws 0)) (.cons (rn_b rfl) (.cons (rn_b rfl) (.cons (rn_b (Instr.enc.blws 0)) (.nil (Nat.zero_le _))))))) rfl), (rn_ob rfl rfl (.cons (rn_b rfl) (.cons (rn_b ((encI .u8).blws 0)) (.cons (rn_b rfl) (.cons (rn_b rfl) (.cons (rn_b (Instr.enc.blws 0)) (.nil (Nat.zero_le _))))))) rfl), trivial⟩ ⟨(rn_b (cp_blw (Program.enc.blw _ 0))), (rn_b (cp_blw (Program.enc.blw _ 0))), (rn_ptr rfl rfl rfl rfl), (rn_ptr rfl rfl rfl rfl), (rn_b rfl), (rn_b rfl), (rn_b rfl), trivial⟩)
      · refine E_sq ?_
        refine E_cs (t := s_6) rfl (fun hb => ?_) (fun hb => ?_)
        · rw [ite_t hb] at h
          refine E_sq ?_
          refine E_reg ?_
          refine E_mv (v' := (.bool false)) rfl ?_
          refine E_nil ?_
          refine E_nx ?_
          refine E_ret ?_
          refine E_thr ?_
          cases h
          refine L_rrO rfl (fun h => ?_)
          refine E_thr ?_
          cases h
          exact ⟨trivial, _, rfl, (fz_b rfl (.refl _))⟩
        · rw [ite_f hb] at h
          refine E_skip ?_
          refine E_nx ?_
          refine E_as ?_
          refine E_sq ?_
          refine E_reg ?_
          refine E_op0 (v' := (.ptr 0 0 1)) rfl rfl ?_
          refine E_op (v' := (.sl false 1 (List.map (avI .u8) y_3.Locals))) (S' := [.arr 0 [(.int .i64 y_3.Params), (.sl false 1 (List.map (avI .u8) y_3.Locals)), (.bool y_3.Result), (.int .i64 y_3.Keep), (.sl false 3 (List.map Instr.av y_3.Code))], .arr 0 [(.int .i64 y_4.Params), (.sl false 1 (List.map (avI .u8) y_4.Locals)), (.bool y_4.Result), (.int .i64 y_4.Keep), (.sl false 3 (List.map Instr.av y_4.Code))]]) rfl rfl rfl ?_
          refine E_len rfl ?_
          refine E_mv (v' := (.int .i64 0)) rfl ?_
          refine E_nil ?_
          refine E_nx ?_
          refine E_sq ?_
          refine E_rniO (fun s_7 => [(2, (.cptr (Program.av a_00).cells 0)), (3, (.cptr (Program.av s_1).cells 0)), (6, (.ptr 0 0 0)), (7, (.ptr 1 0 0)), (19, (.int .i64 (List.length a_00.Funcs : Int))), (20, (.int .i64 (i_2 : Int)))]) (fun s_7 => [.arr 0 [(.int .i64 y_3.Params), (.sl false 1 (List.map (avI .u8) y_3.Locals)), (.bool y_3.Result), (.int .i64 y_3.Keep), (.sl false 3 (List.map Instr.av y_3.Code))], .arr 0 [(.int .i64 y_4.Params), (.sl false 1 (List.map (avI .u8) y_4.Locals)), (.bool y_4.Result), (.int .i64 y_4.Keep), (.sl false 3 (List.map Instr.av y_4.Code))]]) h (by decide) (by decide) (fun _ => ⟨rfl, rfl, rfl, rfl⟩) (wk_rn [some (0, 0), some (1, 0)] rfl (Nat.le_of_ble_eq_true rfl) ⟨(rn_ob rfl rfl (.cons (rn_b rfl) (.cons (rn_b ((encI .u8).blws 0)) (.cons (rn_b rfl) (.cons (rn_b rfl) (.cons (rn_b (Instr.enc.blws 0)) (.nil (Nat.zero_le _))))))) rfl), (rn_ob rfl rfl (.cons (rn_b rfl) (.cons (rn_b ((encI .u8).blws 0)) (.cons (rn_b rfl) (.cons (rn_b rfl) (.cons (rn_b (Instr.enc.blws 0)) (.nil (Nat.zero_le _))))))) rfl), trivial⟩ ⟨(rn_b rfl), (rn_b rfl), (rn_b (cp_blw (Program.enc.blw _ 0))), (rn_b (cp_blw (Program.enc.blw _ 0))), (rn_ptr rfl rfl rfl rfl), (rn_ptr rfl rfl rfl rfl), (rn_b rfl), (rn_b rfl), trivial⟩) (fun i_8 s_7 c hlt h => ?_) (fun s_7 fr' S' h hw => ?_)
          · refine E_sq ?_
            refine E_reg ?_
            refine E_mv (v' := (.int .i64 (i_8 : Int))) rfl ?_
            refine E_mv (v' := (.int .i64 (i_8 : Int))) rfl ?_
            refine E_nil ?_
            refine E_nx ?_
            refine E_sq ?_
            refine E_reg ?_
            refine E_op0 (v' := (.ptr 0 0 1)) rfl rfl ?_
            refine E_op (v' := (.sl false 1 (List.map (avI .u8) y_3.Locals))) (S' := [.arr 0 [(.int .i64 y_3.Params), (.sl false 1 (List.map (avI .u8) y_3.Locals)), (.bool y_3.Result), (.int .i64 y_3.Keep), (.sl false 3 (List.map Instr.av y_3.Code))], .arr 0 [(.int .i64 y_4.Params), (.sl false 1 (List.map (avI .u8) y_4.Locals)), (.bool y_4.Result), (.int .i64 y_4.Keep), (.sl false 3 (List.map Instr.av y_4.Code))]]) rfl rfl rfl ?_
            refine E_mv (v' := (.int .i64 (i_8 : Int))) rfl ?_
            obtain ⟨y_9, hy_9, h⟩ := bd_some h
            refine E_iadF rfl rfl hy_9 ?_
            refine E_op0 (v' := (.int .u8 y_9)) rfl rfl ?_
            refine E_op0 (v' := (.ptr 1 0 1)) rfl rfl ?_
            refine E_op (v' := (.sl false 1 (List.map (avI .u8) y_4.Locals))) (S' := [.arr 0 [(.int .i64 y_3.Params), (.sl false 1 (List.map (avI .u8) y_3.Locals)), (.bool y_3.Result), (.int .i64 y_3.Keep), (.sl false 3 (List.map Instr.av y_3.Code))], .arr 0 [(.int .i64 y_4.Params), (.sl false 1 (List.map (avI .u8) y_4.Locals)), (.bool y_4.Result), (.int .i64 y_4.Keep), (.sl false 3 (List.map Instr.av y_4.Code))]]) rfl rfl rfl ?_
            refine E_mv (v' := (.int .i64 (i_8 : Int))) rfl ?_
            obtain ⟨y_10, hy_10, h⟩ := bd_some h
            refine E_iadF rfl rfl hy_10 ?_
            refine E_op0 (v' := (.int .u8 y_10)) rfl rfl ?_
            refine E_op0 (v' := (.bool (y_9 != y_10))) rfl rfl ?_
            refine E_nil ?_
            refine E_nx ?_
            refine E_cs (t := (y_9 != y_10)) rfl (fun hb => ?_) (fun hb => ?_)
            · rw [ite_t hb] at h
              refine E_sq ?_
              refine E_reg ?_
              refine E_mv (v' := (.bool false)) rfl ?_
              refine E_nil ?_
              refine E_nx ?_
              refine E_ret ?_
              cases h
              refine L_rrO rfl (fun h => ?_)
              refine E_thr ?_
              cases h
              refine L_rrO rfl (fun h => ?_)
              refine E_thr ?_
              cases h
              exact ⟨trivial, _, rfl, (fz_b rfl (.refl _))⟩
            · rw [ite_f hb] at h
              refine E_skip ?_
              cases h
              exact L_nn rfl (wk_rn [some (0, 0), some (1, 0)] rfl (Nat.le_of_ble_eq_true rfl) ⟨(rn_ob rfl rfl (.cons (rn_b rfl) (.cons (rn_b ((encI .u8).blws 0)) (.cons (rn_b rfl) (.cons (rn_b rfl) (.cons (rn_b (Instr.enc.blws 0)) (.nil (Nat.zero_le _))))))) rfl), (rn_ob rfl rfl (.cons (rn_b rfl) (.cons (rn_b ((encI .u8).blws 0)) (.cons (rn_b rfl) (.cons (rn_b rfl) (.cons (rn_b (Instr.enc.blws 0)) (.nil (Nat.zero_le _))))))) rfl), trivial⟩ ⟨(rn_b rfl), (rn_b rfl), (rn_b (cp_blw (Program.enc.blw _ 0))), (rn_b (cp_blw (Program.enc.blw _ 0))), (rn_ptr rfl rfl rfl rfl), (rn_ptr rfl rfl rfl rfl), (rn_b rfl), (rn_b rfl), trivial⟩)
          · refine X_nx hw ?_
            refine E_sq ?_
            refine E_reg ?_
            refine E_op0 (v' := (.ptr 0 0 4)) rfl rfl ?_
            refine E_op (v' := (.sl false 3 (List.map Instr.av y_3.Code))) (S' := [.arr 0 [(.int .i64 y_3.Params), (.sl false 1 (List.map (avI .u8) y_3.Locals)), (.bool y_3.Result), (.int .i64 y_3.Keep), (.sl false 3 (List.map Instr.av y_3.Code))], .arr 0 [(.int .i64 y_4.Params), (.sl false 1 (List.map (avI .u8) y_4.Locals)), (.bool y_4.Result), (.int .i64 y_4.Keep), (.sl false 3 (List.map Instr.av y_4.Code))]]) rfl rfl rfl ?_
            refine E_len rfl ?_
            refine E_mv (v' := (.int .i64 0)) rfl ?_
            refine E_nil ?_
            refine E_nx ?_
            refine E_rniO (fun s_11 => [(2, (.cptr (Program.av a_00).cells 0)), (3, (.cptr (Program.av s_1).cells 0)), (6, (.ptr 0 0 0)), (7, (.ptr 1 0 0)), (19, (.int .i64 (List.length a_00.Funcs : Int))), (20, (.int .i64 (i_2 : Int)))]) (fun s_11 => [.arr 0 [(.int .i64 y_3.Params), (.sl false 1 (List.map (avI .u8) y_3.Locals)), (.bool y_3.Result), (.int .i64 y_3.Keep), (.sl false 3 (List.map Instr.av y_3.Code))], .arr 0 [(.int .i64 y_4.Params), (.sl false 1 (List.map (avI .u8) y_4.Locals)), (.bool y_4.Result), (.int .i64 y_4.Keep), (.sl false 3 (List.map Instr.av y_4.Code))]]) h (by decide) (by decide) (fun _ => ⟨rfl, rfl, rfl, rfl⟩) (wk_rn [some (0, 0), some (1, 0)] rfl (Nat.le_of_ble_eq_true rfl) ⟨(rn_ob rfl rfl (.cons (rn_b rfl) (.cons (rn_b ((encI .u8).blws 0)) (.cons (rn_b rfl) (.cons (rn_b rfl) (.cons (rn_b (Instr.enc.blws 0)) (.nil (Nat.zero_le _))))))) rfl), (rn_ob rfl rfl (.cons (rn_b rfl) (.cons (rn_b ((encI .u8).blws 0)) (.cons (rn_b rfl) (.cons (rn_b rfl) (.cons (rn_b (Instr.enc.blws 0)) (.nil (Nat.zero_le _))))))) rfl), trivial⟩ ⟨(rn_b rfl), (rn_b rfl), (rn_b (cp_blw (Program.enc.blw _ 0))), (rn_b (cp_blw (Program.enc.blw _ 0))), (rn_ptr rfl rfl rfl rfl), (rn_ptr rfl rfl rfl rfl), (rn_b rfl), (rn_b rfl), trivial⟩) (fun i_12 s_11 c hlt h => ?_) (fun s_11 fr' S' h hw => ?_)
            · refine E_sq ?_
              refine E_reg ?_
              refine E_mv (v' := (.int .i64 (i_12 : Int))) rfl ?_
              refine E_mv (v' := (.int .i64 (i_12 : Int))) rfl ?_
              refine E_nil ?_
              refine E_nx ?_
              refine E_sq ?_
              refine E_reg ?_
              refine E_op0 (v' := (.ptr 0 0 4)) rfl rfl ?_
              refine E_op (v' := (.sl false 3 (List.map Instr.av y_3.Code))) (S' := [.arr 0 [(.int .i64 y_3.Params), (.sl false 1 (List.map (avI .u8) y_3.Locals)), (.bool y_3.Result), (.int .i64 y_3.Keep), (.sl false 3 (List.map Instr.av y_3.Code))], .arr 0 [(.int .i64 y_4.Params), (.sl false 1 (List.map (avI .u8) y_4.Locals)), (.bool y_4.Result), (.int .i64 y_4.Keep), (.sl false 3 (List.map Instr.av y_4.Code))]]) rfl rfl rfl ?_
              refine E_mv (v' := (.int .i64 (i_12 : Int))) rfl ?_
              obtain ⟨y_13, hy_13, h⟩ := bd_some h
              refine E_iadF rfl rfl hy_13 ?_
              refine E_op0 (v' := (Instr.av y_13)) rfl rfl ?_
              refine E_op0 (v' := (.ptr 1 0 4)) rfl rfl ?_
              refine E_op (v' := (.sl false 3 (List.map Instr.av y_4.Code))) (S' := [.arr 0 [(.int .i64 y_3.Params), (.sl false 1 (List.map (avI .u8) y_3.Locals)), (.bool y_3.Result), (.int .i64 y_3.Keep), (.sl false 3 (List.map Instr.av y_3.Code))], .arr 0 [(.int .i64 y_4.Params), (.sl false 1 (List.map (avI .u8) y_4.Locals)), (.bool y_4.Result), (.int .i64 y_4.Keep), (.sl false 3 (List.map Instr.av y_4.Code))]]) rfl rfl rfl ?_
              refine E_mv (v' := (.int .i64 (i_12 : Int))) rfl ?_
              obtain ⟨y_14, hy_14, h⟩ := bd_some h
              refine E_iadF rfl rfl hy_14 ?_
              refine E_op0 (v' := (Instr.av y_14)) rfl rfl ?_
              refine E_op0 (v' := (.bool (!((y_13.Op == y_14.Op) && ((y_13.Arg == y_14.Arg) && ((y_13.Imm == y_14.Imm) && true)))))) rfl rfl ?_
              refine E_nil ?_
              refine E_nx ?_
              refine E_cs (t := (!((y_13.Op == y_14.Op) && ((y_13.Arg == y_14.Arg) && ((y_13.Imm == y_14.Imm) && true))))) rfl (fun hb => ?_) (fun hb => ?_)
              · rw [ite_t hb] at h
                refine E_sq ?_
                refine E_reg ?_
                refine E_mv (v' := (.bool false)) rfl ?_
                refine E_nil ?_
                refine E_nx ?_
                refine E_ret ?_
                cases h
                refine L_rrO rfl (fun h => ?_)
                cases h
                refine L_rrO rfl (fun h => ?_)
                refine E_thr ?_
                cases h
                exact ⟨trivial, _, rfl, (fz_b rfl (.refl _))⟩
              · rw [ite_f hb] at h
                refine E_skip ?_
                cases h
                exact L_nn rfl (wk_rn [some (0, 0), some (1, 0)] rfl (Nat.le_of_ble_eq_true rfl) ⟨(rn_ob rfl rfl (.cons (rn_b rfl) (.cons (rn_b ((encI .u8).blws 0)) (.cons (rn_b rfl) (.cons (rn_b rfl) (.cons (rn_b (Instr.enc.blws 0)) (.nil (Nat.zero_le _))))))) rfl), (rn_ob rfl rfl (.cons (rn_b rfl) (.cons (rn_b ((encI .u8).blws 0)) (.cons (rn_b rfl) (.cons (rn_b rfl) (.cons (rn_b (Instr.enc.blws 0)) (.nil (Nat.zero_le _))))))) rfl), trivial⟩ ⟨(rn_b rfl), (rn_b rfl), (rn_b (cp_blw (Program.enc.blw _ 0))), (rn_b (cp_blw (Program.enc.blw _ 0))), (rn_ptr rfl rfl rfl rfl), (rn_ptr rfl rfl rfl rfl), (rn_b rfl), (rn_b rfl), trivial⟩)
            · cases h
              exact X_nn rfl hw (wk_rn [] rfl (Nat.le_of_ble_eq_true rfl) trivial ⟨(rn_b rfl), (rn_b rfl), (rn_b (cp_blw (Program.enc.blw _ 0))), (rn_b (cp_blw (Program.enc.blw _ 0))), trivial⟩)
    · refine X_nx hw ?_
      refine E_sq ?_
      refine E_reg ?_
      refine E_mv (v' := (.bool true)) rfl ?_
      refine E_nil ?_
      refine E_nx ?_
      refine E_ret ?_
      cases h
      exact ⟨trivial, _, rfl, (fz_b rfl (.refl _))⟩
/- windlass/windlassref05.Told -/
def fc13 : FC := (.seq (.reg [⟨(some 4), none, .op (.mv (.v (.bool false)))⟩] [])
  (.seq (.reg [⟨(some 5), none, .op (.mv (.t 0))⟩,
  ⟨(some 6), none, .call 22 [(.t 5)]⟩,
  ⟨(some 7), none, .op (.mv (.t 1))⟩,
  ⟨(some 8), none, .op (.bin .none .eql (.t 6) (.t 7))⟩,
  ⟨(some 4), none, .op (.mv (.t 8))⟩] [])
  .ret))
theorem fn13 : Fn3 Try.prog 13 9 [(4, none)] fc13 := ⟨_, _, Try.func13, rfl, rfl, rfl, by kernel_rfl⟩
def windlassref05_Told_s (l_00 : (List Int)) (s_01 : ByteArray) : Option Bool :=
  ((windlassref05_letters_s l_00).bind fun vlet_1 => (some (ByteArray.toList vlet_1 == ByteArray.toList s_01)))
theorem windlassref05_Told_ev {l_00 : (List Int)} {s_01 : ByteArray} {r : Bool} (h : windlassref05_Told_s l_00 s_01 = some r) : PureEv Try.prog 13 [(.sl false 1 (List.map (avI .u8) l_00)), (.str s_01)] (.bool r) := by
  unfold windlassref05_Told_s at h
  refine PureEv_end mixed fn13 (by simp) [] 6 ?_
  unfold fc13
  refine E_sq ?_
  refine E_reg ?_
  refine E_mv (v' := (.bool false)) rfl ?_
  refine E_nil ?_
  refine E_nx ?_
  refine E_sq ?_
  refine E_reg ?_
  refine E_mv (v' := (.sl false 1 (List.map (avI .u8) l_00))) rfl ?_
  obtain ⟨vlet_1, hvlet_1, h⟩ := bd_some h
  refine E_callW (windlassref05_letters_ev  hvlet_1) rfl ⟨(.refl _), trivial⟩ (blwL_of ⟨((encI .u8).blws 0), trivial⟩) rfl ?_
  refine E_mv (v' := (.str s_01)) rfl ?_
  refine E_op0 (v' := (.bool (ByteArray.toList vlet_1 == ByteArray.toList s_01))) rfl rfl ?_
  refine E_mv (v' := (.bool (ByteArray.toList vlet_1 == ByteArray.toList s_01))) rfl ?_
  refine E_nil ?_
  refine E_nx ?_
  refine E_ret ?_
  cases h
  exact ⟨trivial, _, rfl, (fz_b rfl (.refl _))⟩
/- windlass/windlasslaw05.KindsChecks -/
def fc3 : FC := (.seq (.reg [⟨(some 1), none, .op (.box (.t 0))⟩,
  ⟨(some 2), none, .op (.mv (.v (.bool false)))⟩] [])
  (.seq (.seq (.reg [⟨(some 11), none, .call 8 []⟩,
  ⟨(some 12), none, .op (.un .not (.t 11))⟩] [])
  (.cond (.t 12)
  (.seq (.reg [⟨(some 2), none, .op (.mv (.v (.bool false)))⟩] [])
  .ret)
  .skip))
  (.seq (.reg [⟨(some 13), none, .op (.load (some 1) (.t 1))⟩,
  ⟨(some 14), none, .call 9 [(.t 13)]⟩,
  ⟨(some 3), none, .op (.new [.nils])⟩,
  ⟨none, none, .op (.store 1 (.t 3) (.t 14))⟩] [])
  (.seq (.reg [⟨(some 16), none, .op (.load (some 1) (.t 1))⟩,
  ⟨(some 17), none, .call 10 [(.t 16)]⟩,
  ⟨(some 15), none, .op (.mv (.t 17))⟩,
  ⟨(some 18), none, .op (.ext 0 (.t 15))⟩,
  ⟨(some 19), none, .op (.ext 1 (.t 15))⟩,
  ⟨(some 4), none, .op (.mv (.t 18))⟩,
  ⟨(some 5), none, .op (.mv (.t 19))⟩] [])
  (.seq (.reg [⟨(some 21), none, .op (.load (some 1) (.t 3))⟩,
  ⟨(some 22), none, .call 11 [(.t 21)]⟩,
  ⟨(some 20), none, .op (.mv (.t 22))⟩,
  ⟨(some 23), none, .op (.ext 0 (.t 20))⟩,
  ⟨(some 24), none, .op (.ext 1 (.t 20))⟩,
  ⟨(some 6), none, .op (.mv (.t 23))⟩,
  ⟨(some 7), none, .op (.mv (.t 24))⟩] [])
  (.seq (.seq (.reg [⟨(some 25), none, .op (.load (some 1) (.t 1))⟩,
  ⟨(some 26), none, .op (.load (some 1) (.t 3))⟩,
  ⟨(some 27), none, .call 12 [(.t 25), (.t 26)]⟩,
  ⟨(some 28), none, .op (.un .not (.t 27))⟩] [])
  (.cond (.t 28)
  (.seq (.reg [⟨(some 2), none, .op (.mv (.v (.bool false)))⟩] [])
  .ret)
  .skip))
  (.seq (.seq (.reg [⟨(some 29), none, .op (.mv (.t 7))⟩,
  ⟨(some 30), none, .op (.bin .none .neq (.t 29) (.v (.int .i64 0)))⟩] [])
  (.cond (.t 30)
  (.seq (.reg [⟨(some 31), none, .op (.mv (.t 4))⟩,
  ⟨(some 32), none, .op (.bin .ptr .eql (.t 31) (.v .nilp))⟩,
  ⟨(some 33), none, .op (.mv (.t 32))⟩,
  ⟨(some 34), some (33, true), .op (.mv (.t 5))⟩,
  ⟨(some 35), some (33, true), .op (.mv (.t 7))⟩,
  ⟨(some 36), some (33, true), .op (.bin .none .eql (.t 34) (.t 35))⟩,
  ⟨(some 37), none, .op (.pick (.t 33) (.t 36) (.v (.bool false)))⟩,
  ⟨(some 2), none, .op (.mv (.t 37))⟩] [])
  .ret)
  .skip))
  (.seq (.seq (.reg [⟨(some 38), none, .op (.mv (.t 4))⟩,
  ⟨(some 39), none, .op (.bin .ptr .eql (.t 38) (.v .nilp))⟩,
  ⟨(some 40), none, .op (.mv (.t 39))⟩,
  ⟨(some 41), some (40, false), .op (.mv (.t 5))⟩,
  ⟨(some 42), some (40, false), .op (.bin .none .neq (.t 41) (.v (.int .i64 0)))⟩,
  ⟨(some 43), none, .op (.pick (.t 40) (.v (.bool true)) (.t 42))⟩,
  ⟨(some 44), none, .op (.mv (.t 43))⟩,
  ⟨(some 45), some (44, false), .op (.mv (.t 4))⟩,
  ⟨(some 46), some (44, false), .op (.nchk (.t 45))⟩,
  ⟨(some 47), some (44, false), .op (.fad 0 (.t 46))⟩,
  ⟨(some 48), some (44, false), .op (.load none (.t 47))⟩,
  ⟨(some 49), some (44, false), .op (.len .sl (.t 48))⟩,
  ⟨(some 50), some (44, false), .op (.mv (.t 6))⟩,
  ⟨(some 51), some (44, false), .op (.len .sl (.t 50))⟩,
  ⟨(some 52), some (44, false), .op (.bin .none .neq (.t 49) (.t 51))⟩,
  ⟨(some 53), none, .op (.pick (.t 44) (.v (.bool true)) (.t 52))⟩,
  ⟨(some 54), none, .op (.mv (.t 53))⟩,
  ⟨(some 55), some (54, false), .op (.mv (.t 4))⟩,
  ⟨(some 56), some (54, false), .op (.nchk (.t 55))⟩,
  ⟨(some 57), some (54, false), .op (.fad 1 (.t 56))⟩,
  ⟨(some 58), some (54, false), .op (.load none (.t 57))⟩,
  ⟨(some 59), some (54, false), .op (.len .sl (.t 58))⟩,
  ⟨(some 60), some (54, false), .op (.mv (.t 6))⟩,
  ⟨(some 61), some (54, false), .op (.len .sl (.t 60))⟩,
  ⟨(some 62), some (54, false), .op (.bin .none .neq (.t 59) (.t 61))⟩,
  ⟨(some 63), none, .op (.pick (.t 54) (.v (.bool true)) (.t 62))⟩] [])
  (.cond (.t 63)
  (.seq (.reg [⟨(some 2), none, .op (.mv (.v (.bool false)))⟩] [])
  .ret)
  .skip))
  (.seq (.seq (.reg [⟨(some 64), none, .op (.mv (.t 6))⟩,
  ⟨(some 65), none, .op (.len .sl (.t 64))⟩,
  ⟨(some 66), none, .op (.mv (.v (.int .i64 0)))⟩] [])
  (.block 0 (.loop (.seq (.reg [⟨(some 67), none, .op (.bin .none .lss (.t 66) (.t 65))⟩] [])
  (.seq (.cond (.t 67)
  .skip
  (.exit 0))
  (.seq (.block 1 (.seq (.reg [⟨(some 68), none, .op (.mv (.t 66))⟩,
  ⟨(some 8), none, .op (.mv (.t 68))⟩] [])
  (.seq (.seq (.reg [⟨(some 69), none, .op (.mv (.t 4))⟩,
  ⟨(some 70), none, .op (.nchk (.t 69))⟩,
  ⟨(some 71), none, .op (.fad 0 (.t 70))⟩,
  ⟨(some 72), none, .op (.load none (.t 71))⟩,
  ⟨(some 73), none, .op (.mv (.t 8))⟩,
  ⟨(some 74), none, .op (.iad none none (.t 72) (.t 73))⟩,
  ⟨(some 75), none, .op (.load none (.t 74))⟩,
  ⟨(some 76), none, .op (.len .sl (.t 75))⟩,
  ⟨(some 77), none, .op (.mv (.t 6))⟩,
  ⟨(some 78), none, .op (.mv (.t 8))⟩,
  ⟨(some 79), none, .op (.iad none none (.t 77) (.t 78))⟩,
  ⟨(some 80), none, .op (.load none (.t 79))⟩,
  ⟨(some 81), none, .op (.len .sl (.t 80))⟩,
  ⟨(some 82), none, .op (.bin .none .neq (.t 76) (.t 81))⟩,
  ⟨(some 83), none, .op (.mv (.t 82))⟩,
  ⟨(some 84), some (83, false), .op (.mv (.t 4))⟩,
  ⟨(some 85), some (83, false), .op (.nchk (.t 84))⟩,
  ⟨(some 86), some (83, false), .op (.fad 1 (.t 85))⟩,
  ⟨(some 87), some (83, false), .op (.load none (.t 86))⟩,
  ⟨(some 88), some (83, false), .op (.mv (.t 8))⟩,
  ⟨(some 89), some (83, false), .op (.iad none none (.t 87) (.t 88))⟩,
  ⟨(some 90), some (83, false), .op (.load none (.t 89))⟩,
  ⟨(some 91), some (83, false), .op (.len .sl (.t 90))⟩,
  ⟨(some 92), some (83, false), .op (.mv (.t 6))⟩,
  ⟨(some 93), some (83, false), .op (.mv (.t 8))⟩,
  ⟨(some 94), some (83, false), .op (.iad none none (.t 92) (.t 93))⟩,
  ⟨(some 95), some (83, false), .op (.load none (.t 94))⟩,
  ⟨(some 96), some (83, false), .op (.len .sl (.t 95))⟩,
  ⟨(some 97), some (83, false), .op (.bin .none .neq (.t 91) (.t 96))⟩,
  ⟨(some 98), none, .op (.pick (.t 83) (.v (.bool true)) (.t 97))⟩] [])
  (.cond (.t 98)
  (.seq (.reg [⟨(some 2), none, .op (.mv (.v (.bool false)))⟩] [])
  .ret)
  .skip))
  (.seq (.reg [⟨(some 99), none, .op (.mv (.t 6))⟩,
  ⟨(some 100), none, .op (.mv (.t 8))⟩,
  ⟨(some 101), none, .op (.iad none none (.t 99) (.t 100))⟩,
  ⟨(some 102), none, .op (.load none (.t 101))⟩,
  ⟨(some 103), none, .op (.len .sl (.t 102))⟩,
  ⟨(some 104), none, .op (.mv (.v (.int .i64 0)))⟩] [])
  (.block 2 (.loop (.seq (.reg [⟨(some 105), none, .op (.bin .none .lss (.t 104) (.t 103))⟩] [])
  (.seq (.cond (.t 105)
  .skip
  (.exit 2))
  (.seq (.block 3 (.seq (.reg [⟨(some 106), none, .op (.mv (.t 104))⟩,
  ⟨(some 107), none, .op (.iad none none (.t 102) (.t 104))⟩,
  ⟨(some 108), none, .op (.load none (.t 107))⟩,
  ⟨(some 9), none, .op (.mv (.t 106))⟩,
  ⟨(some 10), none, .op (.mv (.t 108))⟩] [])
  (.seq (.reg [⟨(some 109), none, .op (.mv (.t 4))⟩,
  ⟨(some 110), none, .op (.nchk (.t 109))⟩,
  ⟨(some 111), none, .op (.fad 0 (.t 110))⟩,
  ⟨(some 112), none, .op (.load none (.t 111))⟩,
  ⟨(some 113), none, .op (.mv (.t 8))⟩,
  ⟨(some 114), none, .op (.iad none none (.t 112) (.t 113))⟩,
  ⟨(some 115), none, .op (.load none (.t 114))⟩,
  ⟨(some 116), none, .op (.mv (.t 9))⟩,
  ⟨(some 117), none, .op (.iad none none (.t 115) (.t 116))⟩,
  ⟨(some 118), none, .op (.load none (.t 117))⟩,
  ⟨(some 119), none, .op (.mv (.t 10))⟩,
  ⟨(some 120), none, .op (.bin .none .neq (.t 119) (.v (.str (ByteArray.mk #[63]))))⟩,
  ⟨(some 121), none, .op (.bin .bool .neq (.t 118) (.t 120))⟩,
  ⟨(some 122), none, .op (.mv (.t 121))⟩,
  ⟨(some 123), some (122, false), .op (.mv (.t 10))⟩,
  ⟨(some 124), some (122, false), .op (.bin .none .neq (.t 123) (.v (.str (ByteArray.mk #[63]))))⟩,
  ⟨(some 125), some (122, false), .op (.mv (.t 124))⟩,
  ⟨(some 126), some (125, true), .op (.mv (.t 4))⟩,
  ⟨(some 127), some (125, true), .op (.nchk (.t 126))⟩,
  ⟨(some 128), some (125, true), .op (.fad 1 (.t 127))⟩,
  ⟨(some 129), some (125, true), .op (.load none (.t 128))⟩,
  ⟨(some 130), some (125, true), .op (.mv (.t 8))⟩,
  ⟨(some 131), some (125, true), .op (.iad none none (.t 129) (.t 130))⟩,
  ⟨(some 132), some (125, true), .op (.load none (.t 131))⟩,
  ⟨(some 133), some (125, true), .op (.mv (.t 9))⟩,
  ⟨(some 134), some (125, true), .op (.iad none none (.t 132) (.t 133))⟩,
  ⟨(some 135), some (125, true), .op (.load none (.t 134))⟩,
  ⟨(some 136), some (125, true), .op (.mv (.t 10))⟩,
  ⟨(some 137), some (125, true), .call 13 [(.t 135), (.t 136)]⟩,
  ⟨(some 138), some (125, true), .op (.un .not (.t 137))⟩,
  ⟨(some 139), some (122, false), .op (.pick (.t 125) (.t 138) (.v (.bool false)))⟩,
  ⟨(some 140), none, .op (.pick (.t 122) (.v (.bool true)) (.t 139))⟩,
  ⟨(some 141), none, .op (.mv (.t 140))⟩,
  ⟨(some 142), some (141, false), .op (.mv (.t 10))⟩,
  ⟨(some 143), some (141, false), .op (.bin .none .eql (.t 142) (.v (.str (ByteArray.mk #[63]))))⟩,
  ⟨(some 144), some (141, false), .op (.mv (.t 143))⟩,
  ⟨(some 145), some (144, true), .op (.mv (.t 4))⟩,
  ⟨(some 146), some (144, true), .op (.nchk (.t 145))⟩,
  ⟨(some 147), some (144, true), .op (.fad 1 (.t 146))⟩,
  ⟨(some 148), some (144, true), .op (.load none (.t 147))⟩,
  ⟨(some 149), some (144, true), .op (.mv (.t 8))⟩,
  ⟨(some 150), some (144, true), .op (.iad none none (.t 148) (.t 149))⟩,
  ⟨(some 151), some (144, true), .op (.load none (.t 150))⟩,
  ⟨(some 152), some (144, true), .op (.mv (.t 9))⟩,
  ⟨(some 153), some (144, true), .op (.iad none none (.t 151) (.t 152))⟩,
  ⟨(some 154), some (144, true), .op (.load none (.t 153))⟩,
  ⟨(some 155), some (144, true), .op (.len .sl (.t 154))⟩,
  ⟨(some 156), some (144, true), .op (.bin .none .neq (.t 155) (.v (.int .i64 0)))⟩,
  ⟨(some 157), some (141, false), .op (.pick (.t 144) (.t 156) (.v (.bool false)))⟩,
  ⟨(some 158), none, .op (.pick (.t 141) (.v (.bool true)) (.t 157))⟩] [])
  (.cond (.t 158)
  (.seq (.reg [⟨(some 2), none, .op (.mv (.v (.bool false)))⟩] [])
  .ret)
  .skip))))
  (.reg [⟨(some 159), none, .op (.bin .none .add (.t 104) (.v (.int .i64 1)))⟩,
  ⟨(some 104), none, .op (.mv (.t 159))⟩] []))))))))))
  (.reg [⟨(some 160), none, .op (.bin .none .add (.t 66) (.v (.int .i64 1)))⟩,
  ⟨(some 66), none, .op (.mv (.t 160))⟩] [])))))))
  (.seq (.reg [⟨(some 2), none, .op (.mv (.v (.bool true)))⟩] [])
  .ret))))))))))
theorem fn3 : Fn3 Try.prog 3 161 [(2, none)] fc3 := ⟨_, _, Try.func3, rfl, rfl, rfl, by kernel_rfl⟩
end Go.Proofs.Ytiocagilhbomgaa
