/- What the functions compute, and that they do (printed by wip/gen/gen.py), part 2. -/
import Derived.Test.YtnmicfhdpnabcaaGenTa
namespace Go.Proofs.Ytnmicfhdpnabcaa
open Go Go.Ab
set_option maxRecDepth 20000
set_option linter.unusedVariables false
set_option linter.unusedSimpArgs false
def windlassref19_Right_s (t_00 : Tables) : Option Bool :=
  (jp (fun (s_2 : Bool) => (if s_2 then (some false) else ((rng (fun (i_4 : Nat) (r_5 : FuncRow) (s_3 : Unit) => ((jp (fun (s_8 : Bool) => (if s_8 then (some (.ret (some false))) else (jp (fun (s_11 : Bool) => (if s_11 then (some (.ret (some false))) else ((rng (fun (i_13 : Nat) (k_14 : Int) (s_12 : Unit) => ((if (decide (k_14 > 1)) then (some (.ret (some (.ret (some false))))) else (some (.nxt ()))) : Option (Stp Unit (Option (Stp Unit (Option Bool)))))) r_5.Params ()).bind (oc (fun (s_12 : Unit) => ((rng (fun (i_17 : Nat) (s_18 : Save) (s_16 : Unit) => ((jp (fun (s_21 : Bool) => (if s_21 then (some (.ret (some (.ret (some false))))) else (some (.nxt ())))) (fun k_20 => (if (decide (s_18.Reg < 6)) then (k_20 true) else (if (decide (s_18.Reg > 11)) then (k_20 true) else (if (decide ((i_17 : Int) > 0)) then ((getI r_5.Saves (I64 ((i_17 : Int) - 1))).bind fun y_22 => (if (decide (s_18.Reg ≤ y_22.Reg)) then (k_20 true) else ((windlassref19_word_s s_18.Off r_5.Size).bind fun wor_23 => (k_20 (!wor_23))))) else ((windlassref19_word_s s_18.Off r_5.Size).bind fun wor_24 => (k_20 (!wor_24)))))))) : Option (Stp Unit (Option (Stp Unit (Option Bool)))))) r_5.Saves ()).bind (oc (fun (s_16 : Unit) => (jp (fun (s_26 : Bool) => (if s_26 then (some (.ret (some false))) else (some (.nxt ())))) (fun k_25 => (if (r_5.Resume != (-1)) then (if (decide (r_5.Resume < r_5.Start)) then (k_25 true) else (k_25 (decide (r_5.Resume > (I64 (r_5.Stop - 1)))))) else (k_25 false)))))))))))) (fun k_10 => (if (decide (r_5.Size < 0)) then (k_10 true) else (if (decide (r_5.Size > 65536)) then (k_10 true) else (if ((Int.tmod r_5.Size 8) != 0) then (k_10 true) else (k_10 (decide ((List.length r_5.Params : Int) > 4)))))))))) (fun k_7 => (if (decide (r_5.Start < 0)) then (k_7 true) else (if (decide (r_5.Stop ≤ r_5.Start)) then (k_7 true) else (if (decide (r_5.Stop > 1048576)) then (k_7 true) else (if (decide ((i_4 : Int) > 0)) then ((getI t_00.Funcs (I64 ((i_4 : Int) - 1))).bind fun y_9 => (k_7 (decide (r_5.Start < y_9.Stop)))) else (k_7 false))))))) : Option (Stp Unit (Option Bool)))) t_00.Funcs ()).bind (oc (fun (s_3 : Unit) => ((rng (fun (i_28 : Nat) (s_29 : Site) (s_27 : Unit) => (((windlassref19_Owner_s t_00 s_29.At).bind fun own_31 => (jp (fun (s_33 : Bool) => (if s_33 then (some (.ret (some false))) else ((rng (fun (i_36 : Nat) (o_37 : Int) (s_35 : Unit) => ((jp (fun (s_40 : Bool) => (if s_40 then (some (.ret (some (.ret (some false))))) else (some (.nxt ())))) (fun k_39 => ((getI t_00.Funcs own_31).bind fun y_41 => ((windlassref19_word_s o_37 y_41.Size).bind fun wor_42 => (if (!wor_42) then (k_39 true) else (if (decide ((i_36 : Int) > 0)) then ((getI s_29.Live (I64 ((i_36 : Int) - 1))).bind fun y_43 => (k_39 (decide (o_37 ≤ y_43)))) else (k_39 false))))))) : Option (Stp Unit (Option (Stp Unit (Option Bool)))))) s_29.Live ()).bind (oc (fun (s_35 : Unit) => (some (.nxt ()))))))) (fun k_32 => (if (decide (own_31 < 0)) then (k_32 true) else (if (decide ((i_28 : Int) > 0)) then ((getI t_00.Sites (I64 ((i_28 : Int) - 1))).bind fun y_34 => (k_32 (decide (s_29.At ≤ y_34.At)))) else (k_32 false)))))) : Option (Stp Unit (Option Bool)))) t_00.Sites ()).bind (oc (fun (s_27 : Unit) => (some true))))))))) (fun k_1 => (if (decide ((List.length t_00.Funcs : Int) > 16)) then (k_1 true) else (k_1 (decide ((List.length t_00.Sites : Int) > 65536))))))
theorem windlassref19_Right_ev {t_00 : Tables} {r : Bool} (h : windlassref19_Right_s t_00 = some r) : PureEv Try.prog 11 [(Tables.av t_00)] (.bool r) := by
  unfold windlassref19_Right_s at h
  refine PureEv_end mixed fn11 (by simp) [4, 8, 10] 6 ?_
  unfold fc11
  refine E_sq ?_
  refine E_reg ?_
  refine E_op0 (v' := (.cptr (Tables.av t_00).cells 0)) rfl rfl ?_
  refine E_mv (v' := (.bool false)) rfl ?_
  refine E_nil ?_
  refine E_nx ?_
  refine E_as ?_
  refine E_jp h (fun s_2 => [(1, (.cptr (Tables.av t_00).cells 0)), (23, (.bool s_2))]) (fun s_2 => []) (fun k_1 h => ?_) (fun s_2 h => ?_)
  · refine E_reg ?_
    refine E_op0 (v' := (.cptr (Tables.av t_00).cells 0)) rfl rfl ?_
    refine E_op0 (v' := (.sl false 6 (List.map FuncRow.av t_00.Funcs))) rfl rfl ?_
    refine E_len rfl ?_
    refine E_op0 (v' := (.bool (decide ((List.length t_00.Funcs : Int) > 16)))) rfl rfl ?_
    refine E_mv (v' := (.bool (decide ((List.length t_00.Funcs : Int) > 16)))) rfl ?_
    refine E_gsT (b := (decide ((List.length t_00.Funcs : Int) > 16))) rfl rfl rfl (fun hb => ?_) (fun hb => ?_)
    · rw [ite_f hb] at h
      refine E_op0 (v' := (.cptr (Tables.av t_00).cells 1)) rfl rfl ?_
      refine E_gh rfl ?_
      refine E_op0 (v' := (.sl false 2 (List.map Site.av t_00.Sites))) rfl rfl ?_
      refine E_gh rfl ?_
      refine E_len rfl ?_
      refine E_gh rfl ?_
      refine E_op0 (v' := (.bool (decide ((List.length t_00.Sites : Int) > 65536)))) rfl rfl ?_
      refine E_pf rfl rfl ?_
      refine E_nil ?_
      exact E_jx _ h (wk_aw ⟨(.refl _), (.refl _), trivial⟩)
    · rw [ite_t hb] at h
      refine E_gm rfl ?_
      refine E_gm rfl ?_
      refine E_gm rfl ?_
      refine E_pt rfl rfl ?_
      refine E_nil ?_
      exact E_jx _ h (wk_aw ⟨(.refl _), (.refl _), trivial⟩)
  · refine E_sq ?_
    refine E_cs (t := s_2) rfl (fun hb => ?_) (fun hb => ?_)
    · rw [ite_t hb] at h
      refine E_sq ?_
      refine E_reg ?_
      refine E_mv (v' := (.bool false)) rfl ?_
      refine E_nil ?_
      refine E_nx ?_
      refine E_ret ?_
      refine E_thr ?_
      cases h
      exact ⟨trivial, _, rfl, (fz_b rfl (.refl _))⟩
    · rw [ite_f hb] at h
      refine E_skip ?_
      refine E_nx ?_
      refine E_as ?_
      refine E_sq ?_
      refine E_reg ?_
      refine E_op0 (v' := (.cptr (Tables.av t_00).cells 0)) rfl rfl ?_
      refine E_op0 (v' := (.sl false 6 (List.map FuncRow.av t_00.Funcs))) rfl rfl ?_
      refine E_len rfl ?_
      refine E_mv (v' := (.int .i64 0)) rfl ?_
      refine E_nil ?_
      refine E_nx ?_
      refine E_sq ?_
      refine E_rngO (fun s_3 => [(1, (.cptr (Tables.av t_00).cells 0)), (25, (.sl false 6 (List.map FuncRow.av t_00.Funcs)))]) (fun s_3 => []) h (by decide) (by decide) (fun _ => ⟨rfl, rfl, rfl, rfl⟩) (wk_aw ⟨(.refl _), (.refl _), (.refl _), (.refl _), trivial⟩) (fun i_4 r_5 s_3 c hx_6 hlt h => ?_) (fun s_3 fr' S' h hw => ?_)
      · refine E_sq ?_
        refine E_reg ?_
        refine E_mv (v' := (.int .i64 (i_4 : Int))) rfl ?_
        refine E_iadF rfl rfl (getI_of hx_6) ?_
        refine E_op0 (v' := (FuncRow.av r_5)) rfl rfl ?_
        refine E_op (v' := .ptr 0 0 0) (S' := [.arr 0 [(.int .i64 0), (.int .i64 0), (.int .i64 0), .nils, .nils, (.int .i64 0)]]) rfl rfl rfl ?_
        refine E_mv (v' := (.int .i64 (i_4 : Int))) rfl ?_
        refine E_do (S' := [.arr 0 [(.int .i64 r_5.Start), (.int .i64 r_5.Stop), (.int .i64 r_5.Size), (.sl false 1 (List.map (avI .u8) r_5.Params)), (.sl false 2 (List.map Save.av r_5.Saves)), (.int .i64 r_5.Resume)]]) rfl rfl ?_
        refine E_nil ?_
        refine E_nx ?_
        refine E_as ?_
        refine E_jp h (fun s_8 => [(1, (.cptr (Tables.av t_00).cells 0)), (4, (.ptr 0 0 0)), (25, (.sl false 6 (List.map FuncRow.av t_00.Funcs))), (26, (.int .i64 (List.length t_00.Funcs : Int))), (27, (.int .i64 (i_4 : Int))), (62, (.bool s_8))]) (fun s_8 => [.arr 0 [(.int .i64 r_5.Start), (.int .i64 r_5.Stop), (.int .i64 r_5.Size), (.sl false 1 (List.map (avI .u8) r_5.Params)), (.sl false 2 (List.map Save.av r_5.Saves)), (.int .i64 r_5.Resume)]]) (fun k_7 h => ?_) (fun s_8 h => ?_)
        · refine E_reg ?_
          refine E_op0 (v' := (.ptr 0 0 0)) rfl rfl ?_
          refine E_op (v' := (.int .i64 r_5.Start)) (S' := [.arr 0 [(.int .i64 r_5.Start), (.int .i64 r_5.Stop), (.int .i64 r_5.Size), (.sl false 1 (List.map (avI .u8) r_5.Params)), (.sl false 2 (List.map Save.av r_5.Saves)), (.int .i64 r_5.Resume)]]) rfl rfl rfl ?_
          refine E_op0 (v' := (.bool (decide (r_5.Start < 0)))) rfl rfl ?_
          refine E_mv (v' := (.bool (decide (r_5.Start < 0)))) rfl ?_
          refine E_gsT (b := (decide (r_5.Start < 0))) rfl rfl rfl (fun hb => ?_) (fun hb => ?_)
          · rw [ite_f hb] at h
            refine E_op0 (v' := (.ptr 0 0 1)) rfl rfl ?_
            refine E_gh rfl ?_
            refine E_op (v' := (.int .i64 r_5.Stop)) (S' := [.arr 0 [(.int .i64 r_5.Start), (.int .i64 r_5.Stop), (.int .i64 r_5.Size), (.sl false 1 (List.map (avI .u8) r_5.Params)), (.sl false 2 (List.map Save.av r_5.Saves)), (.int .i64 r_5.Resume)]]) rfl rfl rfl ?_
            refine E_gh rfl ?_
            refine E_op0 (v' := (.ptr 0 0 0)) rfl rfl ?_
            refine E_gh rfl ?_
            refine E_op (v' := (.int .i64 r_5.Start)) (S' := [.arr 0 [(.int .i64 r_5.Start), (.int .i64 r_5.Stop), (.int .i64 r_5.Size), (.sl false 1 (List.map (avI .u8) r_5.Params)), (.sl false 2 (List.map Save.av r_5.Saves)), (.int .i64 r_5.Resume)]]) rfl rfl rfl ?_
            refine E_gh rfl ?_
            refine E_op0 (v' := (.bool (decide (r_5.Stop ≤ r_5.Start)))) rfl rfl ?_
            refine E_pf rfl rfl ?_
            refine E_mv (v' := (.bool (decide (r_5.Stop ≤ r_5.Start)))) rfl ?_
            refine E_gsT (b := (decide (r_5.Stop ≤ r_5.Start))) rfl rfl rfl (fun hb => ?_) (fun hb => ?_)
            · rw [ite_f hb] at h
              refine E_op0 (v' := (.ptr 0 0 1)) rfl rfl ?_
              refine E_gh rfl ?_
              refine E_op (v' := (.int .i64 r_5.Stop)) (S' := [.arr 0 [(.int .i64 r_5.Start), (.int .i64 r_5.Stop), (.int .i64 r_5.Size), (.sl false 1 (List.map (avI .u8) r_5.Params)), (.sl false 2 (List.map Save.av r_5.Saves)), (.int .i64 r_5.Resume)]]) rfl rfl rfl ?_
              refine E_gh rfl ?_
              refine E_op0 (v' := (.bool (decide (r_5.Stop > 1048576)))) rfl rfl ?_
              refine E_pf rfl rfl ?_
              refine E_mv (v' := (.bool (decide (r_5.Stop > 1048576)))) rfl ?_
              refine E_gsT (b := (decide (r_5.Stop > 1048576))) rfl rfl rfl (fun hb => ?_) (fun hb => ?_)
              · rw [ite_f hb] at h
                refine E_mv (v' := (.int .i64 (i_4 : Int))) rfl ?_
                refine E_gh rfl ?_
                refine E_op0 (v' := (.bool (decide ((i_4 : Int) > 0)))) rfl rfl ?_
                refine E_gh rfl ?_
                refine E_mv (v' := (.bool (decide ((i_4 : Int) > 0)))) rfl ?_
                refine E_gsT (b := (decide ((i_4 : Int) > 0))) rfl rfl rfl (fun hb => ?_) (fun hb => ?_)
                · rw [ite_t hb] at h
                  refine E_op0 (v' := (.ptr 0 0 0)) rfl rfl ?_
                  refine E_gh rfl ?_
                  refine E_op (v' := (.int .i64 r_5.Start)) (S' := [.arr 0 [(.int .i64 r_5.Start), (.int .i64 r_5.Stop), (.int .i64 r_5.Size), (.sl false 1 (List.map (avI .u8) r_5.Params)), (.sl false 2 (List.map Save.av r_5.Saves)), (.int .i64 r_5.Resume)]]) rfl rfl rfl ?_
                  refine E_gh rfl ?_
                  refine E_op0 (v' := (.cptr (Tables.av t_00).cells 0)) rfl rfl ?_
                  refine E_gh rfl ?_
                  refine E_op0 (v' := (.sl false 6 (List.map FuncRow.av t_00.Funcs))) rfl rfl ?_
                  refine E_gh rfl ?_
                  refine E_mv (v' := (.int .i64 (i_4 : Int))) rfl ?_
                  refine E_gh rfl ?_
                  refine E_op0 (v' := (.int .i64 (I64 ((i_4 : Int) - 1)))) rfl rfl ?_
                  refine E_gh rfl ?_
                  obtain ⟨y_9, hy_9, h⟩ := bd_some h
                  refine E_iadF rfl rfl hy_9 ?_
                  refine E_gh rfl ?_
                  refine E_op0 (v' := (.cptr (FuncRow.av y_9).cells 1)) rfl rfl ?_
                  refine E_gh rfl ?_
                  refine E_op0 (v' := (.int .i64 y_9.Stop)) rfl rfl ?_
                  refine E_gh rfl ?_
                  refine E_op0 (v' := (.bool (decide (r_5.Start < y_9.Stop)))) rfl rfl ?_
                  refine E_gh rfl ?_
                  refine E_pt rfl rfl ?_
                  refine E_pf rfl rfl ?_
                  refine E_nil ?_
                  exact E_jx _ h (wk_rn [some (0, 0)] rfl (Nat.le_of_ble_eq_true rfl) ⟨(rn_ob rfl rfl (.cons (rn_b rfl) (.cons (rn_b rfl) (.cons (rn_b rfl) (.cons (rn_b ((encI .u8).blws 0)) (.cons (rn_b (Save.enc.blws 0)) (.cons (rn_b rfl) (.nil (Nat.zero_le _)))))))) rfl), trivial⟩ ⟨(rn_b (cp_blw (Tables.enc.blw _ 0))), (rn_ptr rfl rfl rfl rfl), (rn_b (FuncRow.enc.blws 0)), (rn_b rfl), (rn_b rfl), (rn_b rfl), trivial⟩)
                · rw [ite_f hb] at h
                  refine E_gm rfl ?_
                  refine E_gm rfl ?_
                  refine E_gm rfl ?_
                  refine E_gm rfl ?_
                  refine E_gm rfl ?_
                  refine E_gm rfl ?_
                  refine E_gm rfl ?_
                  refine E_gm rfl ?_
                  refine E_gm rfl ?_
                  refine E_gh rfl ?_
                  refine E_pf rfl rfl ?_
                  refine E_pf rfl rfl ?_
                  refine E_nil ?_
                  exact E_jx _ h (wk_rn [some (0, 0)] rfl (Nat.le_of_ble_eq_true rfl) ⟨(rn_ob rfl rfl (.cons (rn_b rfl) (.cons (rn_b rfl) (.cons (rn_b rfl) (.cons (rn_b ((encI .u8).blws 0)) (.cons (rn_b (Save.enc.blws 0)) (.cons (rn_b rfl) (.nil (Nat.zero_le _)))))))) rfl), trivial⟩ ⟨(rn_b (cp_blw (Tables.enc.blw _ 0))), (rn_ptr rfl rfl rfl rfl), (rn_b (FuncRow.enc.blws 0)), (rn_b rfl), (rn_b rfl), (rn_b rfl), trivial⟩)
              · rw [ite_t hb] at h
                refine E_gm rfl ?_
                refine E_gm rfl ?_
                refine E_gz rfl ?_
                refine E_gz rfl ?_
                refine E_gz rfl ?_
                refine E_gz rfl ?_
                refine E_gz rfl ?_
                refine E_gz rfl ?_
                refine E_gz rfl ?_
                refine E_gz rfl ?_
                refine E_gz rfl ?_
                refine E_gz rfl ?_
                refine E_gm rfl ?_
                refine E_pt rfl rfl ?_
                refine E_nil ?_
                exact E_jx _ h (wk_rn [some (0, 0)] rfl (Nat.le_of_ble_eq_true rfl) ⟨(rn_ob rfl rfl (.cons (rn_b rfl) (.cons (rn_b rfl) (.cons (rn_b rfl) (.cons (rn_b ((encI .u8).blws 0)) (.cons (rn_b (Save.enc.blws 0)) (.cons (rn_b rfl) (.nil (Nat.zero_le _)))))))) rfl), trivial⟩ ⟨(rn_b (cp_blw (Tables.enc.blw _ 0))), (rn_ptr rfl rfl rfl rfl), (rn_b (FuncRow.enc.blws 0)), (rn_b rfl), (rn_b rfl), (rn_b rfl), trivial⟩)
            · rw [ite_t hb] at h
              refine E_gm rfl ?_
              refine E_gm rfl ?_
              refine E_pt rfl rfl ?_
              refine E_mv (v' := (.bool true)) rfl ?_
              refine E_gm rfl ?_
              refine E_gm rfl ?_
              refine E_gm rfl ?_
              refine E_gz rfl ?_
              refine E_gz rfl ?_
              refine E_gz rfl ?_
              refine E_gz rfl ?_
              refine E_gz rfl ?_
              refine E_gz rfl ?_
              refine E_gz rfl ?_
              refine E_gz rfl ?_
              refine E_gz rfl ?_
              refine E_gz rfl ?_
              refine E_gm rfl ?_
              refine E_pt rfl rfl ?_
              refine E_nil ?_
              exact E_jx _ h (wk_rn [some (0, 0)] rfl (Nat.le_of_ble_eq_true rfl) ⟨(rn_ob rfl rfl (.cons (rn_b rfl) (.cons (rn_b rfl) (.cons (rn_b rfl) (.cons (rn_b ((encI .u8).blws 0)) (.cons (rn_b (Save.enc.blws 0)) (.cons (rn_b rfl) (.nil (Nat.zero_le _)))))))) rfl), trivial⟩ ⟨(rn_b (cp_blw (Tables.enc.blw _ 0))), (rn_ptr rfl rfl rfl rfl), (rn_b (FuncRow.enc.blws 0)), (rn_b rfl), (rn_b rfl), (rn_b rfl), trivial⟩)
          · rw [ite_t hb] at h
            refine E_gm rfl ?_
            refine E_gm rfl ?_
            refine E_gm rfl ?_
            refine E_gm rfl ?_
            refine E_pt rfl rfl ?_
            refine E_mv (v' := (.bool true)) rfl ?_
            refine E_gm rfl ?_
            refine E_gm rfl ?_
            refine E_gm rfl ?_
            refine E_pt rfl rfl ?_
            refine E_mv (v' := (.bool true)) rfl ?_
            refine E_gm rfl ?_
            refine E_gm rfl ?_
            refine E_gm rfl ?_
            refine E_gz rfl ?_
            refine E_gz rfl ?_
            refine E_gz rfl ?_
            refine E_gz rfl ?_
            refine E_gz rfl ?_
            refine E_gz rfl ?_
            refine E_gz rfl ?_
            refine E_gz rfl ?_
            refine E_gz rfl ?_
            refine E_gz rfl ?_
            refine E_gm rfl ?_
            refine E_pt rfl rfl ?_
            refine E_nil ?_
            exact E_jx _ h (wk_rn [some (0, 0)] rfl (Nat.le_of_ble_eq_true rfl) ⟨(rn_ob rfl rfl (.cons (rn_b rfl) (.cons (rn_b rfl) (.cons (rn_b rfl) (.cons (rn_b ((encI .u8).blws 0)) (.cons (rn_b (Save.enc.blws 0)) (.cons (rn_b rfl) (.nil (Nat.zero_le _)))))))) rfl), trivial⟩ ⟨(rn_b (cp_blw (Tables.enc.blw _ 0))), (rn_ptr rfl rfl rfl rfl), (rn_b (FuncRow.enc.blws 0)), (rn_b rfl), (rn_b rfl), (rn_b rfl), trivial⟩)
        · refine E_sq ?_
          refine E_cs (t := s_8) rfl (fun hb => ?_) (fun hb => ?_)
          · rw [ite_t hb] at h
            refine E_sq ?_
            refine E_reg ?_
            refine E_mv (v' := (.bool false)) rfl ?_
            refine E_nil ?_
            refine E_nx ?_
            refine E_ret ?_
            refine E_thr ?_
            cases h
            refine L_rrO rfl (fun h => ?_)
            refine E_thr ?_
            cases h
            exact ⟨trivial, _, rfl, (fz_b rfl (.refl _))⟩
          · rw [ite_f hb] at h
            refine E_skip ?_
            refine E_nx ?_
            refine E_as ?_
            refine E_jp h (fun s_11 => [(1, (.cptr (Tables.av t_00).cells 0)), (4, (.ptr 0 0 0)), (25, (.sl false 6 (List.map FuncRow.av t_00.Funcs))), (26, (.int .i64 (List.length t_00.Funcs : Int))), (27, (.int .i64 (i_4 : Int))), (82, (.bool s_11))]) (fun s_11 => [.arr 0 [(.int .i64 r_5.Start), (.int .i64 r_5.Stop), (.int .i64 r_5.Size), (.sl false 1 (List.map (avI .u8) r_5.Params)), (.sl false 2 (List.map Save.av r_5.Saves)), (.int .i64 r_5.Resume)]]) (fun k_10 h => ?_) (fun s_11 h => ?_)
            · refine E_reg ?_
              refine E_op0 (v' := (.ptr 0 0 2)) rfl rfl ?_
              refine E_op (v' := (.int .i64 r_5.Size)) (S' := [.arr 0 [(.int .i64 r_5.Start), (.int .i64 r_5.Stop), (.int .i64 r_5.Size), (.sl false 1 (List.map (avI .u8) r_5.Params)), (.sl false 2 (List.map Save.av r_5.Saves)), (.int .i64 r_5.Resume)]]) rfl rfl rfl ?_
              refine E_op0 (v' := (.bool (decide (r_5.Size < 0)))) rfl rfl ?_
              refine E_mv (v' := (.bool (decide (r_5.Size < 0)))) rfl ?_
              refine E_gsT (b := (decide (r_5.Size < 0))) rfl rfl rfl (fun hb => ?_) (fun hb => ?_)
              · rw [ite_f hb] at h
                refine E_op0 (v' := (.ptr 0 0 2)) rfl rfl ?_
                refine E_gh rfl ?_
                refine E_op (v' := (.int .i64 r_5.Size)) (S' := [.arr 0 [(.int .i64 r_5.Start), (.int .i64 r_5.Stop), (.int .i64 r_5.Size), (.sl false 1 (List.map (avI .u8) r_5.Params)), (.sl false 2 (List.map Save.av r_5.Saves)), (.int .i64 r_5.Resume)]]) rfl rfl rfl ?_
                refine E_gh rfl ?_
                refine E_op0 (v' := (.bool (decide (r_5.Size > 65536)))) rfl rfl ?_
                refine E_pf rfl rfl ?_
                refine E_mv (v' := (.bool (decide (r_5.Size > 65536)))) rfl ?_
                refine E_gsT (b := (decide (r_5.Size > 65536))) rfl rfl rfl (fun hb => ?_) (fun hb => ?_)
                · rw [ite_f hb] at h
                  refine E_op0 (v' := (.ptr 0 0 2)) rfl rfl ?_
                  refine E_gh rfl ?_
                  refine E_op (v' := (.int .i64 r_5.Size)) (S' := [.arr 0 [(.int .i64 r_5.Start), (.int .i64 r_5.Stop), (.int .i64 r_5.Size), (.sl false 1 (List.map (avI .u8) r_5.Params)), (.sl false 2 (List.map Save.av r_5.Saves)), (.int .i64 r_5.Resume)]]) rfl rfl rfl ?_
                  refine E_gh rfl ?_
                  refine E_op0 (v' := (.int .i64 (Int.tmod r_5.Size 8))) rfl rfl ?_
                  refine E_gh rfl ?_
                  refine E_op0 (v' := (.bool ((Int.tmod r_5.Size 8) != 0))) rfl rfl ?_
                  refine E_pf rfl rfl ?_
                  refine E_mv (v' := (.bool ((Int.tmod r_5.Size 8) != 0))) rfl ?_
                  refine E_gsT (b := ((Int.tmod r_5.Size 8) != 0)) rfl rfl rfl (fun hb => ?_) (fun hb => ?_)
                  · rw [ite_f hb] at h
                    refine E_op0 (v' := (.ptr 0 0 3)) rfl rfl ?_
                    refine E_gh rfl ?_
                    refine E_op (v' := (.sl false 1 (List.map (avI .u8) r_5.Params))) (S' := [.arr 0 [(.int .i64 r_5.Start), (.int .i64 r_5.Stop), (.int .i64 r_5.Size), (.sl false 1 (List.map (avI .u8) r_5.Params)), (.sl false 2 (List.map Save.av r_5.Saves)), (.int .i64 r_5.Resume)]]) rfl rfl rfl ?_
                    refine E_gh rfl ?_
                    refine E_len rfl ?_
                    refine E_gh rfl ?_
                    refine E_op0 (v' := (.bool (decide ((List.length r_5.Params : Int) > 4)))) rfl rfl ?_
                    refine E_pf rfl rfl ?_
                    refine E_nil ?_
                    exact E_jx _ h (wk_rn [some (0, 0)] rfl (Nat.le_of_ble_eq_true rfl) ⟨(rn_ob rfl rfl (.cons (rn_b rfl) (.cons (rn_b rfl) (.cons (rn_b rfl) (.cons (rn_b ((encI .u8).blws 0)) (.cons (rn_b (Save.enc.blws 0)) (.cons (rn_b rfl) (.nil (Nat.zero_le _)))))))) rfl), trivial⟩ ⟨(rn_b (cp_blw (Tables.enc.blw _ 0))), (rn_ptr rfl rfl rfl rfl), (rn_b (FuncRow.enc.blws 0)), (rn_b rfl), (rn_b rfl), (rn_b rfl), trivial⟩)
                  · rw [ite_t hb] at h
                    refine E_gm rfl ?_
                    refine E_gm rfl ?_
                    refine E_gm rfl ?_
                    refine E_pt rfl rfl ?_
                    refine E_nil ?_
                    exact E_jx _ h (wk_rn [some (0, 0)] rfl (Nat.le_of_ble_eq_true rfl) ⟨(rn_ob rfl rfl (.cons (rn_b rfl) (.cons (rn_b rfl) (.cons (rn_b rfl) (.cons (rn_b ((encI .u8).blws 0)) (.cons (rn_b (Save.enc.blws 0)) (.cons (rn_b rfl) (.nil (Nat.zero_le _)))))))) rfl), trivial⟩ ⟨(rn_b (cp_blw (Tables.enc.blw _ 0))), (rn_ptr rfl rfl rfl rfl), (rn_b (FuncRow.enc.blws 0)), (rn_b rfl), (rn_b rfl), (rn_b rfl), trivial⟩)
                · rw [ite_t hb] at h
                  refine E_gm rfl ?_
                  refine E_gm rfl ?_
                  refine E_gm rfl ?_
                  refine E_pt rfl rfl ?_
                  refine E_mv (v' := (.bool true)) rfl ?_
                  refine E_gm rfl ?_
                  refine E_gm rfl ?_
                  refine E_gm rfl ?_
                  refine E_gm rfl ?_
                  refine E_pt rfl rfl ?_
                  refine E_nil ?_
                  exact E_jx _ h (wk_rn [some (0, 0)] rfl (Nat.le_of_ble_eq_true rfl) ⟨(rn_ob rfl rfl (.cons (rn_b rfl) (.cons (rn_b rfl) (.cons (rn_b rfl) (.cons (rn_b ((encI .u8).blws 0)) (.cons (rn_b (Save.enc.blws 0)) (.cons (rn_b rfl) (.nil (Nat.zero_le _)))))))) rfl), trivial⟩ ⟨(rn_b (cp_blw (Tables.enc.blw _ 0))), (rn_ptr rfl rfl rfl rfl), (rn_b (FuncRow.enc.blws 0)), (rn_b rfl), (rn_b rfl), (rn_b rfl), trivial⟩)
              · rw [ite_t hb] at h
                refine E_gm rfl ?_
                refine E_gm rfl ?_
                refine E_pt rfl rfl ?_
                refine E_mv (v' := (.bool true)) rfl ?_
                refine E_gm rfl ?_
                refine E_gm rfl ?_
                refine E_gm rfl ?_
                refine E_gm rfl ?_
                refine E_pt rfl rfl ?_
                refine E_mv (v' := (.bool true)) rfl ?_
                refine E_gm rfl ?_
                refine E_gm rfl ?_
                refine E_gm rfl ?_
                refine E_gm rfl ?_
                refine E_pt rfl rfl ?_
                refine E_nil ?_
                exact E_jx _ h (wk_rn [some (0, 0)] rfl (Nat.le_of_ble_eq_true rfl) ⟨(rn_ob rfl rfl (.cons (rn_b rfl) (.cons (rn_b rfl) (.cons (rn_b rfl) (.cons (rn_b ((encI .u8).blws 0)) (.cons (rn_b (Save.enc.blws 0)) (.cons (rn_b rfl) (.nil (Nat.zero_le _)))))))) rfl), trivial⟩ ⟨(rn_b (cp_blw (Tables.enc.blw _ 0))), (rn_ptr rfl rfl rfl rfl), (rn_b (FuncRow.enc.blws 0)), (rn_b rfl), (rn_b rfl), (rn_b rfl), trivial⟩)
            · refine E_sq ?_
              refine E_cs (t := s_11) rfl (fun hb => ?_) (fun hb => ?_)
              · rw [ite_t hb] at h
                refine E_sq ?_
                refine E_reg ?_
                refine E_mv (v' := (.bool false)) rfl ?_
                refine E_nil ?_
                refine E_nx ?_
                refine E_ret ?_
                refine E_thr ?_
                cases h
                refine L_rrO rfl (fun h => ?_)
                refine E_thr ?_
                cases h
                exact ⟨trivial, _, rfl, (fz_b rfl (.refl _))⟩
              · rw [ite_f hb] at h
                refine E_skip ?_
                refine E_nx ?_
                refine E_as ?_
                refine E_sq ?_
                refine E_reg ?_
                refine E_op0 (v' := (.ptr 0 0 3)) rfl rfl ?_
                refine E_op (v' := (.sl false 1 (List.map (avI .u8) r_5.Params))) (S' := [.arr 0 [(.int .i64 r_5.Start), (.int .i64 r_5.Stop), (.int .i64 r_5.Size), (.sl false 1 (List.map (avI .u8) r_5.Params)), (.sl false 2 (List.map Save.av r_5.Saves)), (.int .i64 r_5.Resume)]]) rfl rfl rfl ?_
                refine E_len rfl ?_
                refine E_mv (v' := (.int .i64 0)) rfl ?_
                refine E_nil ?_
                refine E_nx ?_
                refine E_sq ?_
                refine E_rngO (fun s_12 => [(1, (.cptr (Tables.av t_00).cells 0)), (4, (.ptr 0 0 0)), (25, (.sl false 6 (List.map FuncRow.av t_00.Funcs))), (26, (.int .i64 (List.length t_00.Funcs : Int))), (27, (.int .i64 (i_4 : Int))), (84, (.sl false 1 (List.map (avI .u8) r_5.Params)))]) (fun s_12 => [.arr 0 [(.int .i64 r_5.Start), (.int .i64 r_5.Stop), (.int .i64 r_5.Size), (.sl false 1 (List.map (avI .u8) r_5.Params)), (.sl false 2 (List.map Save.av r_5.Saves)), (.int .i64 r_5.Resume)]]) h (by decide) (by decide) (fun _ => ⟨rfl, rfl, rfl, rfl⟩) (wk_rn [some (0, 0)] rfl (Nat.le_of_ble_eq_true rfl) ⟨(rn_ob rfl rfl (.cons (rn_b rfl) (.cons (rn_b rfl) (.cons (rn_b rfl) (.cons (rn_b ((encI .u8).blws 0)) (.cons (rn_b (Save.enc.blws 0)) (.cons (rn_b rfl) (.nil (Nat.zero_le _)))))))) rfl), trivial⟩ ⟨(rn_b rfl), (rn_b rfl), (rn_b (cp_blw (Tables.enc.blw _ 0))), (rn_ptr rfl rfl rfl rfl), (rn_b (FuncRow.enc.blws 0)), (rn_b rfl), (rn_b rfl), (rn_b ((encI .u8).blws 0)), trivial⟩) (fun i_13 k_14 s_12 c hx_15 hlt h => ?_) (fun s_12 fr' S' h hw => ?_)
                · refine E_sq ?_
                  refine E_reg ?_
                  refine E_iadF rfl rfl (getI_of hx_15) ?_
                  refine E_op0 (v' := (.int .u8 k_14)) rfl rfl ?_
                  refine E_mv (v' := (.int .u8 k_14)) rfl ?_
                  refine E_nil ?_
                  refine E_nx ?_
                  refine E_sq ?_
                  refine E_reg ?_
                  refine E_mv (v' := (.int .u8 k_14)) rfl ?_
                  refine E_op0 (v' := (.bool (decide (k_14 > 1)))) rfl rfl ?_
                  refine E_nil ?_
                  refine E_nx ?_
                  refine E_cs (t := (decide (k_14 > 1))) rfl (fun hb => ?_) (fun hb => ?_)
                  · rw [ite_t hb] at h
                    refine E_sq ?_
                    refine E_reg ?_
                    refine E_mv (v' := (.bool false)) rfl ?_
                    refine E_nil ?_
                    refine E_nx ?_
                    refine E_ret ?_
                    cases h
                    refine L_rrO rfl (fun h => ?_)
                    refine E_thr ?_
                    cases h
                    refine L_rrO rfl (fun h => ?_)
                    refine E_thr ?_
                    cases h
                    exact ⟨trivial, _, rfl, (fz_b rfl (.refl _))⟩
                  · rw [ite_f hb] at h
                    refine E_skip ?_
                    cases h
                    exact L_nn rfl (wk_rn [some (0, 0)] rfl (Nat.le_of_ble_eq_true rfl) ⟨(rn_ob rfl rfl (.cons (rn_b rfl) (.cons (rn_b rfl) (.cons (rn_b rfl) (.cons (rn_b ((encI .u8).blws 0)) (.cons (rn_b (Save.enc.blws 0)) (.cons (rn_b rfl) (.nil (Nat.zero_le _)))))))) rfl), trivial⟩ ⟨(rn_b rfl), (rn_b rfl), (rn_b (cp_blw (Tables.enc.blw _ 0))), (rn_ptr rfl rfl rfl rfl), (rn_b (FuncRow.enc.blws 0)), (rn_b rfl), (rn_b rfl), (rn_b ((encI .u8).blws 0)), trivial⟩)
                · refine X_nx hw ?_
                  refine E_as ?_
                  refine E_sq ?_
                  refine E_reg ?_
                  refine E_op0 (v' := (.ptr 0 0 4)) rfl rfl ?_
                  refine E_op (v' := (.sl false 2 (List.map Save.av r_5.Saves))) (S' := [.arr 0 [(.int .i64 r_5.Start), (.int .i64 r_5.Stop), (.int .i64 r_5.Size), (.sl false 1 (List.map (avI .u8) r_5.Params)), (.sl false 2 (List.map Save.av r_5.Saves)), (.int .i64 r_5.Resume)]]) rfl rfl rfl ?_
                  refine E_len rfl ?_
                  refine E_mv (v' := (.int .i64 0)) rfl ?_
                  refine E_nil ?_
                  refine E_nx ?_
                  refine E_sq ?_
                  refine E_rngO (fun s_16 => [(1, (.cptr (Tables.av t_00).cells 0)), (4, (.ptr 0 0 0)), (25, (.sl false 6 (List.map FuncRow.av t_00.Funcs))), (26, (.int .i64 (List.length t_00.Funcs : Int))), (27, (.int .i64 (i_4 : Int))), (94, (.sl false 2 (List.map Save.av r_5.Saves)))]) (fun s_16 => [.arr 0 [(.int .i64 r_5.Start), (.int .i64 r_5.Stop), (.int .i64 r_5.Size), (.sl false 1 (List.map (avI .u8) r_5.Params)), (.sl false 2 (List.map Save.av r_5.Saves)), (.int .i64 r_5.Resume)]]) h (by decide) (by decide) (fun _ => ⟨rfl, rfl, rfl, rfl⟩) (wk_rn [some (0, 0)] rfl (Nat.le_of_ble_eq_true rfl) ⟨(rn_ob rfl rfl (.cons (rn_b rfl) (.cons (rn_b rfl) (.cons (rn_b rfl) (.cons (rn_b ((encI .u8).blws 0)) (.cons (rn_b (Save.enc.blws 0)) (.cons (rn_b rfl) (.nil (Nat.zero_le _)))))))) rfl), trivial⟩ ⟨(rn_b rfl), (rn_b rfl), (rn_b (cp_blw (Tables.enc.blw _ 0))), (rn_ptr rfl rfl rfl rfl), (rn_b (FuncRow.enc.blws 0)), (rn_b rfl), (rn_b rfl), (rn_b (Save.enc.blws 0)), trivial⟩) (fun i_17 s_18 s_16 c hx_19 hlt h => ?_) (fun s_16 fr' S' h hw => ?_)
                  · refine E_sq ?_
                    refine E_reg ?_
                    refine E_mv (v' := (.int .i64 (i_17 : Int))) rfl ?_
                    refine E_iadF rfl rfl (getI_of hx_19) ?_
                    refine E_op0 (v' := (Save.av s_18)) rfl rfl ?_
                    refine E_op (v' := .ptr 1 0 0) (S' := [.arr 0 [(.int .i64 r_5.Start), (.int .i64 r_5.Stop), (.int .i64 r_5.Size), (.sl false 1 (List.map (avI .u8) r_5.Params)), (.sl false 2 (List.map Save.av r_5.Saves)), (.int .i64 r_5.Resume)], .arr 0 [(.int .i64 0), (.int .i64 0)]]) rfl rfl rfl ?_
                    refine E_mv (v' := (.int .i64 (i_17 : Int))) rfl ?_
                    refine E_do (S' := [.arr 0 [(.int .i64 r_5.Start), (.int .i64 r_5.Stop), (.int .i64 r_5.Size), (.sl false 1 (List.map (avI .u8) r_5.Params)), (.sl false 2 (List.map Save.av r_5.Saves)), (.int .i64 r_5.Resume)], .arr 0 [(.int .i64 s_18.Reg), (.int .i64 s_18.Off)]]) rfl rfl ?_
                    refine E_nil ?_
                    refine E_nx ?_
                    refine E_jp h (fun s_21 => [(1, (.cptr (Tables.av t_00).cells 0)), (4, (.ptr 0 0 0)), (25, (.sl false 6 (List.map FuncRow.av t_00.Funcs))), (26, (.int .i64 (List.length t_00.Funcs : Int))), (27, (.int .i64 (i_4 : Int))), (94, (.sl false 2 (List.map Save.av r_5.Saves))), (95, (.int .i64 (List.length r_5.Saves : Int))), (96, (.int .i64 (i_17 : Int))), (132, (.bool s_21))]) (fun s_21 => [.arr 0 [(.int .i64 r_5.Start), (.int .i64 r_5.Stop), (.int .i64 r_5.Size), (.sl false 1 (List.map (avI .u8) r_5.Params)), (.sl false 2 (List.map Save.av r_5.Saves)), (.int .i64 r_5.Resume)]]) (fun k_20 h => ?_) (fun s_21 h => ?_)
                    · refine E_reg ?_
                      refine E_op0 (v' := (.ptr 1 0 0)) rfl rfl ?_
                      refine E_op (v' := (.int .i64 s_18.Reg)) (S' := [.arr 0 [(.int .i64 r_5.Start), (.int .i64 r_5.Stop), (.int .i64 r_5.Size), (.sl false 1 (List.map (avI .u8) r_5.Params)), (.sl false 2 (List.map Save.av r_5.Saves)), (.int .i64 r_5.Resume)], .arr 0 [(.int .i64 s_18.Reg), (.int .i64 s_18.Off)]]) rfl rfl rfl ?_
                      refine E_op0 (v' := (.bool (decide (s_18.Reg < 6)))) rfl rfl ?_
                      refine E_mv (v' := (.bool (decide (s_18.Reg < 6)))) rfl ?_
                      refine E_gsT (b := (decide (s_18.Reg < 6))) rfl rfl rfl (fun hb => ?_) (fun hb => ?_)
                      · rw [ite_f hb] at h
                        refine E_op0 (v' := (.ptr 1 0 0)) rfl rfl ?_
                        refine E_gh rfl ?_
                        refine E_op (v' := (.int .i64 s_18.Reg)) (S' := [.arr 0 [(.int .i64 r_5.Start), (.int .i64 r_5.Stop), (.int .i64 r_5.Size), (.sl false 1 (List.map (avI .u8) r_5.Params)), (.sl false 2 (List.map Save.av r_5.Saves)), (.int .i64 r_5.Resume)], .arr 0 [(.int .i64 s_18.Reg), (.int .i64 s_18.Off)]]) rfl rfl rfl ?_
                        refine E_gh rfl ?_
                        refine E_op0 (v' := (.bool (decide (s_18.Reg > 11)))) rfl rfl ?_
                        refine E_pf rfl rfl ?_
                        refine E_mv (v' := (.bool (decide (s_18.Reg > 11)))) rfl ?_
                        refine E_gsT (b := (decide (s_18.Reg > 11))) rfl rfl rfl (fun hb => ?_) (fun hb => ?_)
                        · rw [ite_f hb] at h
                          refine E_mv (v' := (.int .i64 (i_17 : Int))) rfl ?_
                          refine E_gh rfl ?_
                          refine E_op0 (v' := (.bool (decide ((i_17 : Int) > 0)))) rfl rfl ?_
                          refine E_gh rfl ?_
                          refine E_mv (v' := (.bool (decide ((i_17 : Int) > 0)))) rfl ?_
                          refine E_gsT (b := (decide ((i_17 : Int) > 0))) rfl rfl rfl (fun hb => ?_) (fun hb => ?_)
                          · rw [ite_t hb] at h
                            refine E_op0 (v' := (.ptr 1 0 0)) rfl rfl ?_
                            refine E_gh rfl ?_
                            refine E_op (v' := (.int .i64 s_18.Reg)) (S' := [.arr 0 [(.int .i64 r_5.Start), (.int .i64 r_5.Stop), (.int .i64 r_5.Size), (.sl false 1 (List.map (avI .u8) r_5.Params)), (.sl false 2 (List.map Save.av r_5.Saves)), (.int .i64 r_5.Resume)], .arr 0 [(.int .i64 s_18.Reg), (.int .i64 s_18.Off)]]) rfl rfl rfl ?_
                            refine E_gh rfl ?_
                            refine E_op0 (v' := (.ptr 0 0 4)) rfl rfl ?_
                            refine E_gh rfl ?_
                            refine E_op (v' := (.sl false 2 (List.map Save.av r_5.Saves))) (S' := [.arr 0 [(.int .i64 r_5.Start), (.int .i64 r_5.Stop), (.int .i64 r_5.Size), (.sl false 1 (List.map (avI .u8) r_5.Params)), (.sl false 2 (List.map Save.av r_5.Saves)), (.int .i64 r_5.Resume)], .arr 0 [(.int .i64 s_18.Reg), (.int .i64 s_18.Off)]]) rfl rfl rfl ?_
                            refine E_gh rfl ?_
                            refine E_mv (v' := (.int .i64 (i_17 : Int))) rfl ?_
                            refine E_gh rfl ?_
                            refine E_op0 (v' := (.int .i64 (I64 ((i_17 : Int) - 1)))) rfl rfl ?_
                            refine E_gh rfl ?_
                            obtain ⟨y_22, hy_22, h⟩ := bd_some h
                            refine E_iadF rfl rfl hy_22 ?_
                            refine E_gh rfl ?_
                            refine E_op0 (v' := (.cptr (Save.av y_22).cells 0)) rfl rfl ?_
                            refine E_gh rfl ?_
                            refine E_op0 (v' := (.int .i64 y_22.Reg)) rfl rfl ?_
                            refine E_gh rfl ?_
                            refine E_op0 (v' := (.bool (decide (s_18.Reg ≤ y_22.Reg)))) rfl rfl ?_
                            refine E_gh rfl ?_
                            refine E_pt rfl rfl ?_
                            refine E_pf rfl rfl ?_
                            refine E_mv (v' := (.bool (decide (s_18.Reg ≤ y_22.Reg)))) rfl ?_
                            refine E_gsT (b := (decide (s_18.Reg ≤ y_22.Reg))) rfl rfl rfl (fun hb => ?_) (fun hb => ?_)
                            · rw [ite_f hb] at h
                              refine E_op0 (v' := (.ptr 1 0 1)) rfl rfl ?_
                              refine E_gh rfl ?_
                              refine E_op (v' := (.int .i64 s_18.Off)) (S' := [.arr 0 [(.int .i64 r_5.Start), (.int .i64 r_5.Stop), (.int .i64 r_5.Size), (.sl false 1 (List.map (avI .u8) r_5.Params)), (.sl false 2 (List.map Save.av r_5.Saves)), (.int .i64 r_5.Resume)], .arr 0 [(.int .i64 s_18.Reg), (.int .i64 s_18.Off)]]) rfl rfl rfl ?_
                              refine E_gh rfl ?_
                              refine E_op0 (v' := (.ptr 0 0 2)) rfl rfl ?_
                              refine E_gh rfl ?_
                              refine E_op (v' := (.int .i64 r_5.Size)) (S' := [.arr 0 [(.int .i64 r_5.Start), (.int .i64 r_5.Stop), (.int .i64 r_5.Size), (.sl false 1 (List.map (avI .u8) r_5.Params)), (.sl false 2 (List.map Save.av r_5.Saves)), (.int .i64 r_5.Resume)], .arr 0 [(.int .i64 s_18.Reg), (.int .i64 s_18.Off)]]) rfl rfl rfl ?_
                              refine E_gh rfl ?_
                              obtain ⟨wor_23, hwor_23, h⟩ := bd_some h
                              refine E_callW (windlassref19_word_ev  hwor_23) rfl ⟨(.refl _), (.refl _), trivial⟩ (blwL_of ⟨rfl, rfl, trivial⟩) rfl ?_
                              refine E_gh rfl ?_
                              refine E_op0 (v' := (.bool (!wor_23))) rfl rfl ?_
                              refine E_pf rfl rfl ?_
                              refine E_nil ?_
                              exact E_jx _ h (wk_rn [some (0, 0)] rfl (Nat.le_of_ble_eq_true rfl) ⟨(rn_ob rfl rfl (.cons (rn_b rfl) (.cons (rn_b rfl) (.cons (rn_b rfl) (.cons (rn_b ((encI .u8).blws 0)) (.cons (rn_b (Save.enc.blws 0)) (.cons (rn_b rfl) (.nil (Nat.zero_le _)))))))) rfl), trivial⟩ ⟨(rn_b (cp_blw (Tables.enc.blw _ 0))), (rn_ptr rfl rfl rfl rfl), (rn_b (FuncRow.enc.blws 0)), (rn_b rfl), (rn_b rfl), (rn_b (Save.enc.blws 0)), (rn_b rfl), (rn_b rfl), (rn_b rfl), trivial⟩)
                            · rw [ite_t hb] at h
                              refine E_gm rfl ?_
                              refine E_gm rfl ?_
                              refine E_gm rfl ?_
                              refine E_gm rfl ?_
                              refine E_gm rfl ?_
                              refine E_pt rfl rfl ?_
                              refine E_nil ?_
                              exact E_jx _ h (wk_rn [some (0, 0)] rfl (Nat.le_of_ble_eq_true rfl) ⟨(rn_ob rfl rfl (.cons (rn_b rfl) (.cons (rn_b rfl) (.cons (rn_b rfl) (.cons (rn_b ((encI .u8).blws 0)) (.cons (rn_b (Save.enc.blws 0)) (.cons (rn_b rfl) (.nil (Nat.zero_le _)))))))) rfl), trivial⟩ ⟨(rn_b (cp_blw (Tables.enc.blw _ 0))), (rn_ptr rfl rfl rfl rfl), (rn_b (FuncRow.enc.blws 0)), (rn_b rfl), (rn_b rfl), (rn_b (Save.enc.blws 0)), (rn_b rfl), (rn_b rfl), (rn_b rfl), trivial⟩)
                          · rw [ite_f hb] at h
                            refine E_gm rfl ?_
                            refine E_gm rfl ?_
                            refine E_gm rfl ?_
                            refine E_gm rfl ?_
                            refine E_gm rfl ?_
                            refine E_gm rfl ?_
                            refine E_gm rfl ?_
                            refine E_gm rfl ?_
                            refine E_gm rfl ?_
                            refine E_gh rfl ?_
                            refine E_pf rfl rfl ?_
                            refine E_pf rfl rfl ?_
                            refine E_mv (v' := (.bool false)) rfl ?_
                            refine E_gh rfl ?_
                            refine E_op0 (v' := (.ptr 1 0 1)) rfl rfl ?_
                            refine E_gh rfl ?_
                            refine E_op (v' := (.int .i64 s_18.Off)) (S' := [.arr 0 [(.int .i64 r_5.Start), (.int .i64 r_5.Stop), (.int .i64 r_5.Size), (.sl false 1 (List.map (avI .u8) r_5.Params)), (.sl false 2 (List.map Save.av r_5.Saves)), (.int .i64 r_5.Resume)], .arr 0 [(.int .i64 s_18.Reg), (.int .i64 s_18.Off)]]) rfl rfl rfl ?_
                            refine E_gh rfl ?_
                            refine E_op0 (v' := (.ptr 0 0 2)) rfl rfl ?_
                            refine E_gh rfl ?_
                            refine E_op (v' := (.int .i64 r_5.Size)) (S' := [.arr 0 [(.int .i64 r_5.Start), (.int .i64 r_5.Stop), (.int .i64 r_5.Size), (.sl false 1 (List.map (avI .u8) r_5.Params)), (.sl false 2 (List.map Save.av r_5.Saves)), (.int .i64 r_5.Resume)], .arr 0 [(.int .i64 s_18.Reg), (.int .i64 s_18.Off)]]) rfl rfl rfl ?_
                            refine E_gh rfl ?_
                            obtain ⟨wor_24, hwor_24, h⟩ := bd_some h
                            refine E_callW (windlassref19_word_ev  hwor_24) rfl ⟨(.refl _), (.refl _), trivial⟩ (blwL_of ⟨rfl, rfl, trivial⟩) rfl ?_
                            refine E_gh rfl ?_
                            refine E_op0 (v' := (.bool (!wor_24))) rfl rfl ?_
                            refine E_pf rfl rfl ?_
                            refine E_nil ?_
                            exact E_jx _ h (wk_rn [some (0, 0)] rfl (Nat.le_of_ble_eq_true rfl) ⟨(rn_ob rfl rfl (.cons (rn_b rfl) (.cons (rn_b rfl) (.cons (rn_b rfl) (.cons (rn_b ((encI .u8).blws 0)) (.cons (rn_b (Save.enc.blws 0)) (.cons (rn_b rfl) (.nil (Nat.zero_le _)))))))) rfl), trivial⟩ ⟨(rn_b (cp_blw (Tables.enc.blw _ 0))), (rn_ptr rfl rfl rfl rfl), (rn_b (FuncRow.enc.blws 0)), (rn_b rfl), (rn_b rfl), (rn_b (Save.enc.blws 0)), (rn_b rfl), (rn_b rfl), (rn_b rfl), trivial⟩)
                        · rw [ite_t hb] at h
                          refine E_gm rfl ?_
                          refine E_gm rfl ?_
                          refine E_gz rfl ?_
                          refine E_gz rfl ?_
                          refine E_gz rfl ?_
                          refine E_gz rfl ?_
                          refine E_gz rfl ?_
                          refine E_gz rfl ?_
                          refine E_gz rfl ?_
                          refine E_gz rfl ?_
                          refine E_gz rfl ?_
                          refine E_gz rfl ?_
                          refine E_gm rfl ?_
                          refine E_pt rfl rfl ?_
                          refine E_mv (v' := (.bool true)) rfl ?_
                          refine E_gm rfl ?_
                          refine E_gm rfl ?_
                          refine E_gm rfl ?_
                          refine E_gm rfl ?_
                          refine E_gm rfl ?_
                          refine E_gm rfl ?_
                          refine E_pt rfl rfl ?_
                          refine E_nil ?_
                          exact E_jx _ h (wk_rn [some (0, 0)] rfl (Nat.le_of_ble_eq_true rfl) ⟨(rn_ob rfl rfl (.cons (rn_b rfl) (.cons (rn_b rfl) (.cons (rn_b rfl) (.cons (rn_b ((encI .u8).blws 0)) (.cons (rn_b (Save.enc.blws 0)) (.cons (rn_b rfl) (.nil (Nat.zero_le _)))))))) rfl), trivial⟩ ⟨(rn_b (cp_blw (Tables.enc.blw _ 0))), (rn_ptr rfl rfl rfl rfl), (rn_b (FuncRow.enc.blws 0)), (rn_b rfl), (rn_b rfl), (rn_b (Save.enc.blws 0)), (rn_b rfl), (rn_b rfl), (rn_b rfl), trivial⟩)
                      · rw [ite_t hb] at h
                        refine E_gm rfl ?_
                        refine E_gm rfl ?_
                        refine E_pt rfl rfl ?_
                        refine E_mv (v' := (.bool true)) rfl ?_
                        refine E_gm rfl ?_
                        refine E_gm rfl ?_
                        refine E_gm rfl ?_
                        refine E_gz rfl ?_
                        refine E_gz rfl ?_
                        refine E_gz rfl ?_
                        refine E_gz rfl ?_
                        refine E_gz rfl ?_
                        refine E_gz rfl ?_
                        refine E_gz rfl ?_
                        refine E_gz rfl ?_
                        refine E_gz rfl ?_
                        refine E_gz rfl ?_
                        refine E_gm rfl ?_
                        refine E_pt rfl rfl ?_
                        refine E_mv (v' := (.bool true)) rfl ?_
                        refine E_gm rfl ?_
                        refine E_gm rfl ?_
                        refine E_gm rfl ?_
                        refine E_gm rfl ?_
                        refine E_gm rfl ?_
                        refine E_gm rfl ?_
                        refine E_pt rfl rfl ?_
                        refine E_nil ?_
                        exact E_jx _ h (wk_rn [some (0, 0)] rfl (Nat.le_of_ble_eq_true rfl) ⟨(rn_ob rfl rfl (.cons (rn_b rfl) (.cons (rn_b rfl) (.cons (rn_b rfl) (.cons (rn_b ((encI .u8).blws 0)) (.cons (rn_b (Save.enc.blws 0)) (.cons (rn_b rfl) (.nil (Nat.zero_le _)))))))) rfl), trivial⟩ ⟨(rn_b (cp_blw (Tables.enc.blw _ 0))), (rn_ptr rfl rfl rfl rfl), (rn_b (FuncRow.enc.blws 0)), (rn_b rfl), (rn_b rfl), (rn_b (Save.enc.blws 0)), (rn_b rfl), (rn_b rfl), (rn_b rfl), trivial⟩)
                    · refine E_cs (t := s_21) rfl (fun hb => ?_) (fun hb => ?_)
                      · rw [ite_t hb] at h
                        refine E_sq ?_
                        refine E_reg ?_
                        refine E_mv (v' := (.bool false)) rfl ?_
                        refine E_nil ?_
                        refine E_nx ?_
                        refine E_ret ?_
                        cases h
                        refine L_rrO rfl (fun h => ?_)
                        refine E_thr ?_
                        cases h
                        refine L_rrO rfl (fun h => ?_)
                        refine E_thr ?_
                        cases h
                        exact ⟨trivial, _, rfl, (fz_b rfl (.refl _))⟩
                      · rw [ite_f hb] at h
                        refine E_skip ?_
                        cases h
                        exact L_nn rfl (wk_rn [some (0, 0)] rfl (Nat.le_of_ble_eq_true rfl) ⟨(rn_ob rfl rfl (.cons (rn_b rfl) (.cons (rn_b rfl) (.cons (rn_b rfl) (.cons (rn_b ((encI .u8).blws 0)) (.cons (rn_b (Save.enc.blws 0)) (.cons (rn_b rfl) (.nil (Nat.zero_le _)))))))) rfl), trivial⟩ ⟨(rn_b rfl), (rn_b rfl), (rn_b (cp_blw (Tables.enc.blw _ 0))), (rn_ptr rfl rfl rfl rfl), (rn_b (FuncRow.enc.blws 0)), (rn_b rfl), (rn_b rfl), (rn_b (Save.enc.blws 0)), trivial⟩)
                  · refine X_nx hw ?_
                    refine E_jp h (fun s_26 => [(1, (.cptr (Tables.av t_00).cells 0)), (25, (.sl false 6 (List.map FuncRow.av t_00.Funcs))), (26, (.int .i64 (List.length t_00.Funcs : Int))), (27, (.int .i64 (i_4 : Int))), (151, (.bool s_26))]) (fun s_26 => []) (fun k_25 h => ?_) (fun s_26 h => ?_)
                    · refine E_reg ?_
                      refine E_op0 (v' := (.ptr 0 0 5)) rfl rfl ?_
                      refine E_op (v' := (.int .i64 r_5.Resume)) (S' := [.arr 0 [(.int .i64 r_5.Start), (.int .i64 r_5.Stop), (.int .i64 r_5.Size), (.sl false 1 (List.map (avI .u8) r_5.Params)), (.sl false 2 (List.map Save.av r_5.Saves)), (.int .i64 r_5.Resume)]]) rfl rfl rfl ?_
                      refine E_op0 (v' := (.bool (r_5.Resume != (-1)))) rfl rfl ?_
                      refine E_mv (v' := (.bool (r_5.Resume != (-1)))) rfl ?_
                      refine E_gsT (b := (r_5.Resume != (-1))) rfl rfl rfl (fun hb => ?_) (fun hb => ?_)
                      · rw [ite_t hb] at h
                        refine E_op0 (v' := (.ptr 0 0 5)) rfl rfl ?_
                        refine E_gh rfl ?_
                        refine E_op (v' := (.int .i64 r_5.Resume)) (S' := [.arr 0 [(.int .i64 r_5.Start), (.int .i64 r_5.Stop), (.int .i64 r_5.Size), (.sl false 1 (List.map (avI .u8) r_5.Params)), (.sl false 2 (List.map Save.av r_5.Saves)), (.int .i64 r_5.Resume)]]) rfl rfl rfl ?_
                        refine E_gh rfl ?_
                        refine E_op0 (v' := (.ptr 0 0 0)) rfl rfl ?_
                        refine E_gh rfl ?_
                        refine E_op (v' := (.int .i64 r_5.Start)) (S' := [.arr 0 [(.int .i64 r_5.Start), (.int .i64 r_5.Stop), (.int .i64 r_5.Size), (.sl false 1 (List.map (avI .u8) r_5.Params)), (.sl false 2 (List.map Save.av r_5.Saves)), (.int .i64 r_5.Resume)]]) rfl rfl rfl ?_
                        refine E_gh rfl ?_
                        refine E_op0 (v' := (.bool (decide (r_5.Resume < r_5.Start)))) rfl rfl ?_
                        refine E_gh rfl ?_
                        refine E_mv (v' := (.bool (decide (r_5.Resume < r_5.Start)))) rfl ?_
                        refine E_gsT (b := (decide (r_5.Resume < r_5.Start))) rfl rfl rfl (fun hb => ?_) (fun hb => ?_)
                        · rw [ite_f hb] at h
                          refine E_op0 (v' := (.ptr 0 0 5)) rfl rfl ?_
                          refine E_gh rfl ?_
                          refine E_op (v' := (.int .i64 r_5.Resume)) (S' := [.arr 0 [(.int .i64 r_5.Start), (.int .i64 r_5.Stop), (.int .i64 r_5.Size), (.sl false 1 (List.map (avI .u8) r_5.Params)), (.sl false 2 (List.map Save.av r_5.Saves)), (.int .i64 r_5.Resume)]]) rfl rfl rfl ?_
                          refine E_gh rfl ?_
                          refine E_op0 (v' := (.ptr 0 0 1)) rfl rfl ?_
                          refine E_gh rfl ?_
                          refine E_op (v' := (.int .i64 r_5.Stop)) (S' := [.arr 0 [(.int .i64 r_5.Start), (.int .i64 r_5.Stop), (.int .i64 r_5.Size), (.sl false 1 (List.map (avI .u8) r_5.Params)), (.sl false 2 (List.map Save.av r_5.Saves)), (.int .i64 r_5.Resume)]]) rfl rfl rfl ?_
                          refine E_gh rfl ?_
                          refine E_op0 (v' := (.int .i64 (I64 (r_5.Stop - 1)))) rfl rfl ?_
                          refine E_gh rfl ?_
                          refine E_op0 (v' := (.bool (decide (r_5.Resume > (I64 (r_5.Stop - 1)))))) rfl rfl ?_
                          refine E_gh rfl ?_
                          refine E_pf rfl rfl ?_
                          refine E_pt rfl rfl ?_
                          refine E_nil ?_
                          exact E_jx _ h (wk_rn [] rfl (Nat.le_of_ble_eq_true rfl) trivial ⟨(rn_b (cp_blw (Tables.enc.blw _ 0))), (rn_b (FuncRow.enc.blws 0)), (rn_b rfl), (rn_b rfl), (rn_b rfl), trivial⟩)
                        · rw [ite_t hb] at h
                          refine E_gm rfl ?_
                          refine E_gm rfl ?_
                          refine E_gm rfl ?_
                          refine E_gm rfl ?_
                          refine E_gm rfl ?_
                          refine E_gh rfl ?_
                          refine E_pt rfl rfl ?_
                          refine E_pt rfl rfl ?_
                          refine E_nil ?_
                          exact E_jx _ h (wk_rn [] rfl (Nat.le_of_ble_eq_true rfl) trivial ⟨(rn_b (cp_blw (Tables.enc.blw _ 0))), (rn_b (FuncRow.enc.blws 0)), (rn_b rfl), (rn_b rfl), (rn_b rfl), trivial⟩)
                      · rw [ite_f hb] at h
                        refine E_gm rfl ?_
                        refine E_gm rfl ?_
                        refine E_gm rfl ?_
                        refine E_gm rfl ?_
                        refine E_gm rfl ?_
                        refine E_gz rfl ?_
                        refine E_gz rfl ?_
                        refine E_gz rfl ?_
                        refine E_gz rfl ?_
                        refine E_gz rfl ?_
                        refine E_gz rfl ?_
                        refine E_gm rfl ?_
                        refine E_pf rfl rfl ?_
                        refine E_nil ?_
                        exact E_jx _ h (wk_rn [] rfl (Nat.le_of_ble_eq_true rfl) trivial ⟨(rn_b (cp_blw (Tables.enc.blw _ 0))), (rn_b (FuncRow.enc.blws 0)), (rn_b rfl), (rn_b rfl), (rn_b rfl), trivial⟩)
                    · refine E_cs (t := s_26) rfl (fun hb => ?_) (fun hb => ?_)
                      · rw [ite_t hb] at h
                        refine E_sq ?_
                        refine E_reg ?_
                        refine E_mv (v' := (.bool false)) rfl ?_
                        refine E_nil ?_
                        refine E_nx ?_
                        refine E_ret ?_
                        cases h
                        refine L_rrO rfl (fun h => ?_)
                        refine E_thr ?_
                        cases h
                        exact ⟨trivial, _, rfl, (fz_b rfl (.refl _))⟩
                      · rw [ite_f hb] at h
                        refine E_skip ?_
                        cases h
                        exact L_nn rfl (wk_aw ⟨(.refl _), (.refl _), (.refl _), (.refl _), trivial⟩)
      · refine X_nx hw ?_
        refine E_as ?_
        refine E_sq ?_
        refine E_reg ?_
        refine E_op0 (v' := (.cptr (Tables.av t_00).cells 1)) rfl rfl ?_
        refine E_op0 (v' := (.sl false 2 (List.map Site.av t_00.Sites))) rfl rfl ?_
        refine E_len rfl ?_
        refine E_mv (v' := (.int .i64 0)) rfl ?_
        refine E_nil ?_
        refine E_nx ?_
        refine E_sq ?_
        refine E_rngO (fun s_27 => [(1, (.cptr (Tables.av t_00).cells 0)), (154, (.sl false 2 (List.map Site.av t_00.Sites)))]) (fun s_27 => []) h (by decide) (by decide) (fun _ => ⟨rfl, rfl, rfl, rfl⟩) (wk_aw ⟨(.refl _), (.refl _), (.refl _), (.refl _), trivial⟩) (fun i_28 s_29 s_27 c hx_30 hlt h => ?_) (fun s_27 fr' S' h hw => ?_)
        · refine E_sq ?_
          refine E_reg ?_
          refine E_mv (v' := (.int .i64 (i_28 : Int))) rfl ?_
          refine E_iadF rfl rfl (getI_of hx_30) ?_
          refine E_op0 (v' := (Site.av s_29)) rfl rfl ?_
          refine E_op (v' := .ptr 0 0 0) (S' := [.arr 0 [(.int .i64 0), .nils]]) rfl rfl rfl ?_
          refine E_mv (v' := (.int .i64 (i_28 : Int))) rfl ?_
          refine E_do (S' := [.arr 0 [(.int .i64 s_29.At), (.sl false 1 (List.map (avI .i64) s_29.Live))]]) rfl rfl ?_
          refine E_nil ?_
          refine E_nx ?_
          refine E_sq ?_
          refine E_reg ?_
          refine E_op0 (v' := (Tables.av t_00)) rfl rfl ?_
          refine E_op0 (v' := (.ptr 0 0 0)) rfl rfl ?_
          refine E_op (v' := (.int .i64 s_29.At)) (S' := [.arr 0 [(.int .i64 s_29.At), (.sl false 1 (List.map (avI .i64) s_29.Live))]]) rfl rfl rfl ?_
          obtain ⟨own_31, hown_31, h⟩ := bd_some h
          refine E_callW (windlassref19_Owner_ev  hown_31) rfl ⟨(.refl _), (.refl _), trivial⟩ (blwL_of ⟨(Tables.enc.blw _ 0), rfl, trivial⟩) rfl ?_
          refine E_mv (v' := (.int .i64 own_31)) rfl ?_
          refine E_nil ?_
          refine E_nx ?_
          refine E_as ?_
          refine E_jp h (fun s_33 => [(1, (.cptr (Tables.av t_00).cells 0)), (10, (.ptr 0 0 0)), (11, (.int .i64 own_31)), (154, (.sl false 2 (List.map Site.av t_00.Sites))), (155, (.int .i64 (List.length t_00.Sites : Int))), (156, (.int .i64 (i_28 : Int))), (182, (.bool s_33))]) (fun s_33 => [.arr 0 [(.int .i64 s_29.At), (.sl false 1 (List.map (avI .i64) s_29.Live))]]) (fun k_32 h => ?_) (fun s_33 h => ?_)
          · refine E_reg ?_
            refine E_mv (v' := (.int .i64 own_31)) rfl ?_
            refine E_op0 (v' := (.bool (decide (own_31 < 0)))) rfl rfl ?_
            refine E_mv (v' := (.bool (decide (own_31 < 0)))) rfl ?_
            refine E_gsT (b := (decide (own_31 < 0))) rfl rfl rfl (fun hb => ?_) (fun hb => ?_)
            · rw [ite_f hb] at h
              refine E_mv (v' := (.int .i64 (i_28 : Int))) rfl ?_
              refine E_gh rfl ?_
              refine E_op0 (v' := (.bool (decide ((i_28 : Int) > 0)))) rfl rfl ?_
              refine E_gh rfl ?_
              refine E_mv (v' := (.bool (decide ((i_28 : Int) > 0)))) rfl ?_
              refine E_gsT (b := (decide ((i_28 : Int) > 0))) rfl rfl rfl (fun hb => ?_) (fun hb => ?_)
              · rw [ite_t hb] at h
                refine E_op0 (v' := (.ptr 0 0 0)) rfl rfl ?_
                refine E_gh rfl ?_
                refine E_op (v' := (.int .i64 s_29.At)) (S' := [.arr 0 [(.int .i64 s_29.At), (.sl false 1 (List.map (avI .i64) s_29.Live))]]) rfl rfl rfl ?_
                refine E_gh rfl ?_
                refine E_op0 (v' := (.cptr (Tables.av t_00).cells 1)) rfl rfl ?_
                refine E_gh rfl ?_
                refine E_op0 (v' := (.sl false 2 (List.map Site.av t_00.Sites))) rfl rfl ?_
                refine E_gh rfl ?_
                refine E_mv (v' := (.int .i64 (i_28 : Int))) rfl ?_
                refine E_gh rfl ?_
                refine E_op0 (v' := (.int .i64 (I64 ((i_28 : Int) - 1)))) rfl rfl ?_
                refine E_gh rfl ?_
                obtain ⟨y_34, hy_34, h⟩ := bd_some h
                refine E_iadF rfl rfl hy_34 ?_
                refine E_gh rfl ?_
                refine E_op0 (v' := (.cptr (Site.av y_34).cells 0)) rfl rfl ?_
                refine E_gh rfl ?_
                refine E_op0 (v' := (.int .i64 y_34.At)) rfl rfl ?_
                refine E_gh rfl ?_
                refine E_op0 (v' := (.bool (decide (s_29.At ≤ y_34.At)))) rfl rfl ?_
                refine E_gh rfl ?_
                refine E_pt rfl rfl ?_
                refine E_pf rfl rfl ?_
                refine E_nil ?_
                exact E_jx _ h (wk_rn [some (0, 0)] rfl (Nat.le_of_ble_eq_true rfl) ⟨(rn_ob rfl rfl (.cons (rn_b rfl) (.cons (rn_b ((encI .i64).blws 0)) (.nil (Nat.zero_le _)))) rfl), trivial⟩ ⟨(rn_b (cp_blw (Tables.enc.blw _ 0))), (rn_ptr rfl rfl rfl rfl), (rn_b rfl), (rn_b (Site.enc.blws 0)), (rn_b rfl), (rn_b rfl), (rn_b rfl), trivial⟩)
              · rw [ite_f hb] at h
                refine E_gm rfl ?_
                refine E_gm rfl ?_
                refine E_gm rfl ?_
                refine E_gm rfl ?_
                refine E_gm rfl ?_
                refine E_gm rfl ?_
                refine E_gm rfl ?_
                refine E_gm rfl ?_
                refine E_gm rfl ?_
                refine E_gh rfl ?_
                refine E_pf rfl rfl ?_
                refine E_pf rfl rfl ?_
                refine E_nil ?_
                exact E_jx _ h (wk_rn [some (0, 0)] rfl (Nat.le_of_ble_eq_true rfl) ⟨(rn_ob rfl rfl (.cons (rn_b rfl) (.cons (rn_b ((encI .i64).blws 0)) (.nil (Nat.zero_le _)))) rfl), trivial⟩ ⟨(rn_b (cp_blw (Tables.enc.blw _ 0))), (rn_ptr rfl rfl rfl rfl), (rn_b rfl), (rn_b (Site.enc.blws 0)), (rn_b rfl), (rn_b rfl), (rn_b rfl), trivial⟩)
            · rw [ite_t hb] at h
              refine E_gm rfl ?_
              refine E_gm rfl ?_
              refine E_gz rfl ?_
              refine E_gz rfl ?_
              refine E_gz rfl ?_
              refine E_gz rfl ?_
              refine E_gz rfl ?_
              refine E_gz rfl ?_
              refine E_gz rfl ?_
              refine E_gz rfl ?_
              refine E_gz rfl ?_
              refine E_gz rfl ?_
              refine E_gm rfl ?_
              refine E_pt rfl rfl ?_
              refine E_nil ?_
              exact E_jx _ h (wk_rn [some (0, 0)] rfl (Nat.le_of_ble_eq_true rfl) ⟨(rn_ob rfl rfl (.cons (rn_b rfl) (.cons (rn_b ((encI .i64).blws 0)) (.nil (Nat.zero_le _)))) rfl), trivial⟩ ⟨(rn_b (cp_blw (Tables.enc.blw _ 0))), (rn_ptr rfl rfl rfl rfl), (rn_b rfl), (rn_b (Site.enc.blws 0)), (rn_b rfl), (rn_b rfl), (rn_b rfl), trivial⟩)
          · refine E_sq ?_
            refine E_cs (t := s_33) rfl (fun hb => ?_) (fun hb => ?_)
            · rw [ite_t hb] at h
              refine E_sq ?_
              refine E_reg ?_
              refine E_mv (v' := (.bool false)) rfl ?_
              refine E_nil ?_
              refine E_nx ?_
              refine E_ret ?_
              refine E_thr ?_
              cases h
              refine L_rrO rfl (fun h => ?_)
              refine E_thr ?_
              cases h
              exact ⟨trivial, _, rfl, (fz_b rfl (.refl _))⟩
            · rw [ite_f hb] at h
              refine E_skip ?_
              refine E_nx ?_
              refine E_sq ?_
              refine E_reg ?_
              refine E_op0 (v' := (.ptr 0 0 1)) rfl rfl ?_
              refine E_op (v' := (.sl false 1 (List.map (avI .i64) s_29.Live))) (S' := [.arr 0 [(.int .i64 s_29.At), (.sl false 1 (List.map (avI .i64) s_29.Live))]]) rfl rfl rfl ?_
              refine E_len rfl ?_
              refine E_mv (v' := (.int .i64 0)) rfl ?_
              refine E_nil ?_
              refine E_nx ?_
              refine E_rngO (fun s_35 => [(1, (.cptr (Tables.av t_00).cells 0)), (10, (.ptr 0 0 0)), (11, (.int .i64 own_31)), (154, (.sl false 2 (List.map Site.av t_00.Sites))), (155, (.int .i64 (List.length t_00.Sites : Int))), (156, (.int .i64 (i_28 : Int))), (184, (.sl false 1 (List.map (avI .i64) s_29.Live)))]) (fun s_35 => [.arr 0 [(.int .i64 s_29.At), (.sl false 1 (List.map (avI .i64) s_29.Live))]]) h (by decide) (by decide) (fun _ => ⟨rfl, rfl, rfl, rfl⟩) (wk_rn [some (0, 0)] rfl (Nat.le_of_ble_eq_true rfl) ⟨(rn_ob rfl rfl (.cons (rn_b rfl) (.cons (rn_b ((encI .i64).blws 0)) (.nil (Nat.zero_le _)))) rfl), trivial⟩ ⟨(rn_b rfl), (rn_b rfl), (rn_b (cp_blw (Tables.enc.blw _ 0))), (rn_ptr rfl rfl rfl rfl), (rn_b rfl), (rn_b (Site.enc.blws 0)), (rn_b rfl), (rn_b rfl), (rn_b ((encI .i64).blws 0)), trivial⟩) (fun i_36 o_37 s_35 c hx_38 hlt h => ?_) (fun s_35 fr' S' h hw => ?_)
              · refine E_sq ?_
                refine E_reg ?_
                refine E_mv (v' := (.int .i64 (i_36 : Int))) rfl ?_
                refine E_iadF rfl rfl (getI_of hx_38) ?_
                refine E_op0 (v' := (.int .i64 o_37)) rfl rfl ?_
                refine E_mv (v' := (.int .i64 (i_36 : Int))) rfl ?_
                refine E_mv (v' := (.int .i64 o_37)) rfl ?_
                refine E_nil ?_
                refine E_nx ?_
                refine E_jp h (fun s_40 => [(1, (.cptr (Tables.av t_00).cells 0)), (10, (.ptr 0 0 0)), (11, (.int .i64 own_31)), (154, (.sl false 2 (List.map Site.av t_00.Sites))), (155, (.int .i64 (List.length t_00.Sites : Int))), (156, (.int .i64 (i_28 : Int))), (184, (.sl false 1 (List.map (avI .i64) s_29.Live))), (185, (.int .i64 (List.length s_29.Live : Int))), (186, (.int .i64 (i_36 : Int))), (213, (.bool s_40))]) (fun s_40 => [.arr 0 [(.int .i64 s_29.At), (.sl false 1 (List.map (avI .i64) s_29.Live))]]) (fun k_39 h => ?_) (fun s_40 h => ?_)
                · refine E_reg ?_
                  refine E_mv (v' := (.int .i64 o_37)) rfl ?_
                  refine E_op0 (v' := (.cptr (Tables.av t_00).cells 0)) rfl rfl ?_
                  refine E_op0 (v' := (.sl false 6 (List.map FuncRow.av t_00.Funcs))) rfl rfl ?_
                  refine E_mv (v' := (.int .i64 own_31)) rfl ?_
                  obtain ⟨y_41, hy_41, h⟩ := bd_some h
                  refine E_iadF rfl rfl hy_41 ?_
                  refine E_op0 (v' := (.cptr (FuncRow.av y_41).cells 2)) rfl rfl ?_
                  refine E_op0 (v' := (.int .i64 y_41.Size)) rfl rfl ?_
                  obtain ⟨wor_42, hwor_42, h⟩ := bd_some h
                  refine E_callW (windlassref19_word_ev  hwor_42) rfl ⟨(.refl _), (.refl _), trivial⟩ (blwL_of ⟨rfl, rfl, trivial⟩) rfl ?_
                  refine E_op0 (v' := (.bool (!wor_42))) rfl rfl ?_
                  refine E_mv (v' := (.bool (!wor_42))) rfl ?_
                  refine E_gsT (b := (!wor_42)) rfl rfl rfl (fun hb => ?_) (fun hb => ?_)
                  · rw [ite_f hb] at h
                    refine E_mv (v' := (.int .i64 (i_36 : Int))) rfl ?_
                    refine E_gh rfl ?_
                    refine E_op0 (v' := (.bool (decide ((i_36 : Int) > 0)))) rfl rfl ?_
                    refine E_gh rfl ?_
                    refine E_mv (v' := (.bool (decide ((i_36 : Int) > 0)))) rfl ?_
                    refine E_gsT (b := (decide ((i_36 : Int) > 0))) rfl rfl rfl (fun hb => ?_) (fun hb => ?_)
                    · rw [ite_t hb] at h
                      refine E_mv (v' := (.int .i64 o_37)) rfl ?_
                      refine E_gh rfl ?_
                      refine E_op0 (v' := (.ptr 0 0 1)) rfl rfl ?_
                      refine E_gh rfl ?_
                      refine E_op (v' := (.sl false 1 (List.map (avI .i64) s_29.Live))) (S' := [.arr 0 [(.int .i64 s_29.At), (.sl false 1 (List.map (avI .i64) s_29.Live))]]) rfl rfl rfl ?_
                      refine E_gh rfl ?_
                      refine E_mv (v' := (.int .i64 (i_36 : Int))) rfl ?_
                      refine E_gh rfl ?_
                      refine E_op0 (v' := (.int .i64 (I64 ((i_36 : Int) - 1)))) rfl rfl ?_
                      refine E_gh rfl ?_
                      obtain ⟨y_43, hy_43, h⟩ := bd_some h
                      refine E_iadF rfl rfl hy_43 ?_
                      refine E_gh rfl ?_
                      refine E_op0 (v' := (.int .i64 y_43)) rfl rfl ?_
                      refine E_gh rfl ?_
                      refine E_op0 (v' := (.bool (decide (o_37 ≤ y_43)))) rfl rfl ?_
                      refine E_gh rfl ?_
                      refine E_pt rfl rfl ?_
                      refine E_pf rfl rfl ?_
                      refine E_nil ?_
                      exact E_jx _ h (wk_rn [some (0, 0)] rfl (Nat.le_of_ble_eq_true rfl) ⟨(rn_ob rfl rfl (.cons (rn_b rfl) (.cons (rn_b ((encI .i64).blws 0)) (.nil (Nat.zero_le _)))) rfl), trivial⟩ ⟨(rn_b (cp_blw (Tables.enc.blw _ 0))), (rn_ptr rfl rfl rfl rfl), (rn_b rfl), (rn_b (Site.enc.blws 0)), (rn_b rfl), (rn_b rfl), (rn_b ((encI .i64).blws 0)), (rn_b rfl), (rn_b rfl), (rn_b rfl), trivial⟩)
                    · rw [ite_f hb] at h
                      refine E_gm rfl ?_
                      refine E_gm rfl ?_
                      refine E_gm rfl ?_
                      refine E_gm rfl ?_
                      refine E_gm rfl ?_
                      refine E_gm rfl ?_
                      refine E_gm rfl ?_
                      refine E_gh rfl ?_
                      refine E_pf rfl rfl ?_
                      refine E_pf rfl rfl ?_
                      refine E_nil ?_
                      exact E_jx _ h (wk_rn [some (0, 0)] rfl (Nat.le_of_ble_eq_true rfl) ⟨(rn_ob rfl rfl (.cons (rn_b rfl) (.cons (rn_b ((encI .i64).blws 0)) (.nil (Nat.zero_le _)))) rfl), trivial⟩ ⟨(rn_b (cp_blw (Tables.enc.blw _ 0))), (rn_ptr rfl rfl rfl rfl), (rn_b rfl), (rn_b (Site.enc.blws 0)), (rn_b rfl), (rn_b rfl), (rn_b ((encI .i64).blws 0)), (rn_b rfl), (rn_b rfl), (rn_b rfl), trivial⟩)
                  · rw [ite_t hb] at h
                    refine E_gm rfl ?_
                    refine E_gm rfl ?_
                    refine E_gz rfl ?_
                    refine E_gz rfl ?_
                    refine E_gz rfl ?_
                    refine E_gz rfl ?_
                    refine E_gz rfl ?_
                    refine E_gz rfl ?_
                    refine E_gz rfl ?_
                    refine E_gz rfl ?_
                    refine E_gm rfl ?_
                    refine E_pt rfl rfl ?_
                    refine E_nil ?_
                    exact E_jx _ h (wk_rn [some (0, 0)] rfl (Nat.le_of_ble_eq_true rfl) ⟨(rn_ob rfl rfl (.cons (rn_b rfl) (.cons (rn_b ((encI .i64).blws 0)) (.nil (Nat.zero_le _)))) rfl), trivial⟩ ⟨(rn_b (cp_blw (Tables.enc.blw _ 0))), (rn_ptr rfl rfl rfl rfl), (rn_b rfl), (rn_b (Site.enc.blws 0)), (rn_b rfl), (rn_b rfl), (rn_b ((encI .i64).blws 0)), (rn_b rfl), (rn_b rfl), (rn_b rfl), trivial⟩)
                · refine E_cs (t := s_40) rfl (fun hb => ?_) (fun hb => ?_)
                  · rw [ite_t hb] at h
                    refine E_sq ?_
                    refine E_reg ?_
                    refine E_mv (v' := (.bool false)) rfl ?_
                    refine E_nil ?_
                    refine E_nx ?_
                    refine E_ret ?_
                    cases h
                    refine L_rrO rfl (fun h => ?_)
                    cases h
                    refine L_rrO rfl (fun h => ?_)
                    refine E_thr ?_
                    cases h
                    exact ⟨trivial, _, rfl, (fz_b rfl (.refl _))⟩
                  · rw [ite_f hb] at h
                    refine E_skip ?_
                    cases h
                    exact L_nn rfl (wk_rn [some (0, 0)] rfl (Nat.le_of_ble_eq_true rfl) ⟨(rn_ob rfl rfl (.cons (rn_b rfl) (.cons (rn_b ((encI .i64).blws 0)) (.nil (Nat.zero_le _)))) rfl), trivial⟩ ⟨(rn_b rfl), (rn_b rfl), (rn_b (cp_blw (Tables.enc.blw _ 0))), (rn_ptr rfl rfl rfl rfl), (rn_b rfl), (rn_b (Site.enc.blws 0)), (rn_b rfl), (rn_b rfl), (rn_b ((encI .i64).blws 0)), trivial⟩)
              · cases h
                exact X_nn rfl hw (wk_rn [] rfl (Nat.le_of_ble_eq_true rfl) trivial ⟨(rn_b rfl), (rn_b rfl), (rn_b (cp_blw (Tables.enc.blw _ 0))), (rn_b (Site.enc.blws 0)), trivial⟩)
        · refine X_nx hw ?_
          refine E_sq ?_
          refine E_reg ?_
          refine E_mv (v' := (.bool true)) rfl ?_
          refine E_nil ?_
          refine E_nx ?_
          refine E_ret ?_
          cases h
          exact ⟨trivial, _, rfl, (fz_b rfl (.refl _))⟩
/- windlass/windlassref19.Func -/
def fc12 : FC := (.seq (.reg [⟨(some 2), none, .op (.box (.t 0))⟩,
  ⟨(some 4), none, .op (.mv (.v (.int .i64 0)))⟩,
  ⟨(some 5), none, .op (.mv (.v (.bool false)))⟩] [])
  (.seq (.seq (.reg [⟨(some 8), none, .op (.fad 0 (.t 2))⟩,
  ⟨(some 9), none, .op (.load none (.t 8))⟩,
  ⟨(some 10), none, .op (.len .sl (.t 9))⟩,
  ⟨(some 11), none, .op (.mv (.v (.int .i64 0)))⟩] [])
  (.block 0 (.loop (.seq (.reg [⟨(some 12), none, .op (.bin .none .lss (.t 11) (.t 10))⟩] [])
  (.seq (.cond (.t 12)
  .skip
  (.exit 0))
  (.seq (.block 1 (.seq (.reg [⟨(some 13), none, .op (.mv (.t 11))⟩,
  ⟨(some 14), none, .op (.iad none (some 6) (.t 9) (.t 11))⟩,
  ⟨(some 15), none, .op (.load (some 6) (.t 14))⟩,
  ⟨(some 7), none, .op (.new [(.int .i64 0), (.int .i64 0), (.int .i64 0), .nils, .nils, (.int .i64 0)])⟩,
  ⟨(some 6), none, .op (.mv (.t 13))⟩,
  ⟨none, none, .op (.store 6 (.t 7) (.t 15))⟩] [])
  (.seq (.reg [⟨(some 16), none, .op (.fad 0 (.t 7))⟩,
  ⟨(some 17), none, .op (.load none (.t 16))⟩,
  ⟨(some 18), none, .op (.mv (.t 1))⟩,
  ⟨(some 19), none, .op (.bin .none .leq (.t 17) (.t 18))⟩,
  ⟨(some 20), none, .op (.mv (.t 19))⟩,
  ⟨(some 21), some (20, true), .op (.mv (.t 1))⟩,
  ⟨(some 22), some (20, true), .op (.fad 1 (.t 7))⟩,
  ⟨(some 23), some (20, true), .op (.load none (.t 22))⟩,
  ⟨(some 24), some (20, true), .op (.bin .none .lss (.t 21) (.t 23))⟩,
  ⟨(some 25), none, .op (.pick (.t 20) (.t 24) (.v (.bool false)))⟩] [])
  (.cond (.t 25)
  (.seq (.reg [⟨(some 26), none, .op (.mv (.t 6))⟩,
  ⟨(some 4), none, .op (.mv (.t 26))⟩,
  ⟨(some 5), none, .op (.mv (.v (.bool true)))⟩] [])
  .ret)
  .skip))))
  (.reg [⟨(some 27), none, .op (.bin .none .add (.t 11) (.v (.int .i64 1)))⟩,
  ⟨(some 11), none, .op (.mv (.t 27))⟩] [])))))))
  (.seq (.reg [⟨(some 4), none, .op (.mv (.v (.int .i64 0)))⟩,
  ⟨(some 5), none, .op (.mv (.v (.bool false)))⟩] [])
  .ret)))
theorem fn12 : Fn3 Try.prog 12 28 [(4, none), (5, none)] fc12 := ⟨_, _, Try.func12, rfl, rfl, rfl, by kernel_rfl⟩
def windlassref19_Func_s (t_00 : Tables) (vat_01 : Int) : Option (Int × Bool) :=
  ((rng (fun (i_2 : Nat) (r_3 : FuncRow) (s_1 : Int) => ((jp (fun (s_6 : Bool) => (if s_6 then (some (.ret (some ((i_2 : Int), true)))) else (some (.nxt s_1)))) (fun k_5 => (if (decide (r_3.Start ≤ s_1)) then (k_5 (decide (s_1 < r_3.Stop))) else (k_5 false)))) : Option (Stp Int (Option (Int × Bool))))) t_00.Funcs vat_01).bind (oc (fun (s_1 : Int) => (some (0, false)))))
theorem windlassref19_Func_ev {t_00 : Tables} {vat_01 : Int} {r : (Int × Bool)} (h : windlassref19_Func_s t_00 vat_01 = some r) : PureEv Try.prog 12 [(Tables.av t_00), (.int .i64 vat_01)] (.tup [(.int .i64 r.1), (.bool r.2)]) := by
  unfold windlassref19_Func_s at h
  refine PureEv_end mixed fn12 (by simp) [7] 6 ?_
  unfold fc12
  refine E_sq ?_
  refine E_reg ?_
  refine E_op0 (v' := (.cptr (Tables.av t_00).cells 0)) rfl rfl ?_
  refine E_mv (v' := (.int .i64 0)) rfl ?_
  refine E_mv (v' := (.bool false)) rfl ?_
  refine E_nil ?_
  refine E_nx ?_
  refine E_as ?_
  refine E_sq ?_
  refine E_reg ?_
  refine E_op0 (v' := (.cptr (Tables.av t_00).cells 0)) rfl rfl ?_
  refine E_op0 (v' := (.sl false 6 (List.map FuncRow.av t_00.Funcs))) rfl rfl ?_
  refine E_len rfl ?_
  refine E_mv (v' := (.int .i64 0)) rfl ?_
  refine E_nil ?_
  refine E_nx ?_
  refine E_sq ?_
  refine E_rngO (fun s_1 => [(1, (.int .i64 s_1)), (9, (.sl false 6 (List.map FuncRow.av t_00.Funcs)))]) (fun s_1 => []) h (by decide) (by decide) (fun _ => ⟨rfl, rfl, rfl, rfl⟩) (wk_aw ⟨(.refl _), (.refl _), (.refl _), (.refl _), trivial⟩) (fun i_2 r_3 s_1 c hx_4 hlt h => ?_) (fun s_1 fr' S' h hw => ?_)
  · refine E_sq ?_
    refine E_reg ?_
    refine E_mv (v' := (.int .i64 (i_2 : Int))) rfl ?_
    refine E_iadF rfl rfl (getI_of hx_4) ?_
    refine E_op0 (v' := (FuncRow.av r_3)) rfl rfl ?_
    refine E_op (v' := .ptr 0 0 0) (S' := [.arr 0 [(.int .i64 0), (.int .i64 0), (.int .i64 0), .nils, .nils, (.int .i64 0)]]) rfl rfl rfl ?_
    refine E_mv (v' := (.int .i64 (i_2 : Int))) rfl ?_
    refine E_do (S' := [.arr 0 [(.int .i64 r_3.Start), (.int .i64 r_3.Stop), (.int .i64 r_3.Size), (.sl false 1 (List.map (avI .u8) r_3.Params)), (.sl false 2 (List.map Save.av r_3.Saves)), (.int .i64 r_3.Resume)]]) rfl rfl ?_
    refine E_nil ?_
    refine E_nx ?_
    refine E_jp h (fun s_6 => [(1, (.int .i64 s_1)), (6, (.int .i64 (i_2 : Int))), (9, (.sl false 6 (List.map FuncRow.av t_00.Funcs))), (10, (.int .i64 (List.length t_00.Funcs : Int))), (11, (.int .i64 (i_2 : Int))), (25, (.bool s_6))]) (fun s_6 => []) (fun k_5 h => ?_) (fun s_6 h => ?_)
    · refine E_reg ?_
      refine E_op0 (v' := (.ptr 0 0 0)) rfl rfl ?_
      refine E_op (v' := (.int .i64 r_3.Start)) (S' := [.arr 0 [(.int .i64 r_3.Start), (.int .i64 r_3.Stop), (.int .i64 r_3.Size), (.sl false 1 (List.map (avI .u8) r_3.Params)), (.sl false 2 (List.map Save.av r_3.Saves)), (.int .i64 r_3.Resume)]]) rfl rfl rfl ?_
      refine E_mv (v' := (.int .i64 s_1)) rfl ?_
      refine E_op0 (v' := (.bool (decide (r_3.Start ≤ s_1)))) rfl rfl ?_
      refine E_mv (v' := (.bool (decide (r_3.Start ≤ s_1)))) rfl ?_
      refine E_gsT (b := (decide (r_3.Start ≤ s_1))) rfl rfl rfl (fun hb => ?_) (fun hb => ?_)
      · rw [ite_t hb] at h
        refine E_mv (v' := (.int .i64 s_1)) rfl ?_
        refine E_gh rfl ?_
        refine E_op0 (v' := (.ptr 0 0 1)) rfl rfl ?_
        refine E_gh rfl ?_
        refine E_op (v' := (.int .i64 r_3.Stop)) (S' := [.arr 0 [(.int .i64 r_3.Start), (.int .i64 r_3.Stop), (.int .i64 r_3.Size), (.sl false 1 (List.map (avI .u8) r_3.Params)), (.sl false 2 (List.map Save.av r_3.Saves)), (.int .i64 r_3.Resume)]]) rfl rfl rfl ?_
        refine E_gh rfl ?_
        refine E_op0 (v' := (.bool (decide (s_1 < r_3.Stop)))) rfl rfl ?_
        refine E_pt rfl rfl ?_
        refine E_nil ?_
        exact E_jx _ h (wk_rn [] rfl (Nat.le_of_ble_eq_true rfl) trivial ⟨(rn_b rfl), (rn_b rfl), (rn_b (FuncRow.enc.blws 0)), (rn_b rfl), (rn_b rfl), (rn_b rfl), trivial⟩)
      · rw [ite_f hb] at h
        refine E_gm rfl ?_
        refine E_gm rfl ?_
        refine E_gm rfl ?_
        refine E_pf rfl rfl ?_
        refine E_nil ?_
        exact E_jx _ h (wk_rn [] rfl (Nat.le_of_ble_eq_true rfl) trivial ⟨(rn_b rfl), (rn_b rfl), (rn_b (FuncRow.enc.blws 0)), (rn_b rfl), (rn_b rfl), (rn_b rfl), trivial⟩)
    · refine E_cs (t := s_6) rfl (fun hb => ?_) (fun hb => ?_)
      · rw [ite_t hb] at h
        refine E_sq ?_
        refine E_reg ?_
        refine E_mv (v' := (.int .i64 (i_2 : Int))) rfl ?_
        refine E_mv (v' := (.int .i64 (i_2 : Int))) rfl ?_
        refine E_mv (v' := (.bool true)) rfl ?_
        refine E_nil ?_
        refine E_nx ?_
        refine E_ret ?_
        cases h
        refine L_rrO rfl (fun h => ?_)
        refine E_thr ?_
        cases h
        exact ⟨trivial, _, rfl, (fz_tup ⟨(fz_b rfl (.refl _)), (fz_b rfl (.refl _)), trivial⟩)⟩
      · rw [ite_f hb] at h
        refine E_skip ?_
        cases h
        exact L_nn rfl (wk_aw ⟨(.refl _), (.refl _), (.refl _), (.refl _), trivial⟩)
  · refine X_nx hw ?_
    refine E_sq ?_
    refine E_reg ?_
    refine E_mv (v' := (.int .i64 0)) rfl ?_
    refine E_mv (v' := (.bool false)) rfl ?_
    refine E_nil ?_
    refine E_nx ?_
    refine E_ret ?_
    cases h
    exact ⟨trivial, _, rfl, (fz_tup ⟨(fz_b rfl (.refl _)), (fz_b rfl (.refl _)), trivial⟩)⟩
/- windlass/tables.Site$1 -/
def fc28 : FC := (.seq (.reg [⟨(some 2), none, .op (.box (.t 0))⟩,
  ⟨(some 4), none, .op (.mv (.v (.int .i64 0)))⟩] [])
  (.seq (.reg [⟨(some 5), none, .op (.fad 0 (.t 2))⟩,
  ⟨(some 6), none, .op (.load none (.t 5))⟩,
  ⟨(some 7), none, .op (.mv (.t 1))⟩,
  ⟨(some 8), none, .call 24 [(.t 6), (.t 7)]⟩,
  ⟨(some 4), none, .op (.mv (.t 8))⟩] [])
  .ret))
theorem fn28 : Fn3 Try.prog 28 9 [(4, none)] fc28 := ⟨_, _, Try.func28, rfl, rfl, rfl, by kernel_rfl⟩
def tables_Site_1_s (s_00 : Site) (vat_01 : Int) : Option Int :=
  ((cmp_Compare_s s_00.At vat_01).bind fun com_1 => (some com_1))
theorem tables_Site_1_ev {s_00 : Site} {vat_01 : Int} {r : Int} (h : tables_Site_1_s s_00 vat_01 = some r) : PureEv Try.prog 28 [(Site.av s_00), (.int .i64 vat_01)] (.int .i64 r) := by
  unfold tables_Site_1_s at h
  refine PureEv_end mixed fn28 (by simp) [] 6 ?_
  unfold fc28
  refine E_sq ?_
  refine E_reg ?_
  refine E_op0 (v' := (.cptr (Site.av s_00).cells 0)) rfl rfl ?_
  refine E_mv (v' := (.int .i64 0)) rfl ?_
  refine E_nil ?_
  refine E_nx ?_
  refine E_sq ?_
  refine E_reg ?_
  refine E_op0 (v' := (.cptr (Site.av s_00).cells 0)) rfl rfl ?_
  refine E_op0 (v' := (.int .i64 s_00.At)) rfl rfl ?_
  refine E_mv (v' := (.int .i64 vat_01)) rfl ?_
  obtain ⟨com_1, hcom_1, h⟩ := bd_some h
  refine E_callW (cmp_Compare_ev  hcom_1) rfl ⟨(.refl _), (.refl _), trivial⟩ (blwL_of ⟨rfl, rfl, trivial⟩) rfl ?_
  refine E_mv (v' := (.int .i64 com_1)) rfl ?_
  refine E_nil ?_
  refine E_nx ?_
  refine E_ret ?_
  cases h
  exact ⟨trivial, _, rfl, (fz_b rfl (.refl _))⟩
/- slices.BinarySearchFunc[[]windlass/api.Site,windlass/api.Site,int] -/
def fc27 : FC := (.seq (.reg [⟨(some 6), none, .op (.mv (.v (.int .i64 0)))⟩,
  ⟨(some 7), none, .op (.mv (.v (.bool false)))⟩] [])
  (.seq (.reg [⟨(some 12), none, .op (.mv (.t 0))⟩,
  ⟨(some 13), none, .op (.len .sl (.t 12))⟩,
  ⟨(some 8), none, .op (.mv (.t 13))⟩] [])
  (.seq (.reg [⟨(some 14), none, .op (.mv (.t 8))⟩,
  ⟨(some 9), none, .op (.mv (.v (.int .i64 0)))⟩,
  ⟨(some 10), none, .op (.mv (.t 14))⟩] [])
  (.seq (.block 0 (.loop (.seq (.seq (.reg [⟨(some 15), none, .op (.mv (.t 9))⟩,
  ⟨(some 16), none, .op (.mv (.t 10))⟩,
  ⟨(some 17), none, .op (.bin .none .lss (.t 15) (.t 16))⟩] [])
  (.cond (.t 17)
  .skip
  (.exit 0)))
  (.block 1 (.seq (.reg [⟨(some 18), none, .op (.mv (.t 9))⟩,
  ⟨(some 19), none, .op (.mv (.t 10))⟩,
  ⟨(some 20), none, .op (.bin .none .add (.t 18) (.t 19))⟩,
  ⟨(some 21), none, .op (.cint .u64 (.t 20))⟩,
  ⟨(some 22), none, .op (.bin .none .shr (.t 21) (.v (.int .u64 1)))⟩,
  ⟨(some 23), none, .op (.cint .i64 (.t 22))⟩,
  ⟨(some 11), none, .op (.mv (.t 23))⟩] [])
  (.seq (.reg [⟨(some 24), none, .op (.mv (.t 2))⟩,
  ⟨(some 25), none, .op (.mv (.t 0))⟩,
  ⟨(some 26), none, .op (.mv (.t 11))⟩,
  ⟨(some 27), none, .op (.iad none (some 2) (.t 25) (.t 26))⟩,
  ⟨(some 28), none, .op (.load (some 2) (.t 27))⟩,
  ⟨(some 29), none, .op (.mv (.t 1))⟩,
  ⟨(some 30), none, .callv (.t 24) [(.t 28), (.t 29)]⟩,
  ⟨(some 31), none, .op (.bin .none .lss (.t 30) (.v (.int .i64 0)))⟩] [])
  (.cond (.t 31)
  (.reg [⟨(some 32), none, .op (.mv (.t 11))⟩,
  ⟨(some 33), none, .op (.bin .none .add (.t 32) (.v (.int .i64 1)))⟩,
  ⟨(some 9), none, .op (.mv (.t 33))⟩] [])
  (.reg [⟨(some 34), none, .op (.mv (.t 11))⟩,
  ⟨(some 10), none, .op (.mv (.t 34))⟩] []))))))))
  (.seq (.reg [⟨(some 35), none, .op (.mv (.t 9))⟩,
  ⟨(some 36), none, .op (.mv (.t 9))⟩,
  ⟨(some 37), none, .op (.mv (.t 8))⟩,
  ⟨(some 38), none, .op (.bin .none .lss (.t 36) (.t 37))⟩,
  ⟨(some 39), none, .op (.mv (.t 38))⟩,
  ⟨(some 40), some (39, true), .op (.mv (.t 2))⟩,
  ⟨(some 41), some (39, true), .op (.mv (.t 0))⟩,
  ⟨(some 42), some (39, true), .op (.mv (.t 9))⟩,
  ⟨(some 43), some (39, true), .op (.iad none (some 2) (.t 41) (.t 42))⟩,
  ⟨(some 44), some (39, true), .op (.load (some 2) (.t 43))⟩,
  ⟨(some 45), some (39, true), .op (.mv (.t 1))⟩,
  ⟨(some 46), some (39, true), .callv (.t 40) [(.t 44), (.t 45)]⟩,
  ⟨(some 47), some (39, true), .op (.bin .none .eql (.t 46) (.v (.int .i64 0)))⟩,
  ⟨(some 48), none, .op (.pick (.t 39) (.t 47) (.v (.bool false)))⟩,
  ⟨(some 6), none, .op (.mv (.t 35))⟩,
  ⟨(some 7), none, .op (.mv (.t 48))⟩] [])
  .ret)))))
theorem fn27 : Fn3 Try.prog 27 49 [(6, none), (7, none)] fc27 := ⟨_, _, Try.func27, rfl, rfl, rfl, by kernel_rfl⟩
def slices_BinarySearchFunc_1_f28_s (fuel : Nat) (x_00 : (List Site)) (target_01 : Int) : Option (Int × Bool) :=
  ((whileN (fun (s_1 : (Int × Int × Int)) => ((if (decide (s_1.2.1 < s_1.2.2)) then ((getI x_00 (I64 (shR .u64 (U64 (I64 (s_1.2.1 + s_1.2.2))) 1))).bind fun y_2 => ((tables_Site_1_s y_2 s_1.1).bind fun v1_3 => (if (decide (v1_3 < 0)) then (some (.nxt (s_1.1, (I64 ((I64 (shR .u64 (U64 (I64 (s_1.2.1 + s_1.2.2))) 1)) + 1)), s_1.2.2))) else (some (.nxt (s_1.1, s_1.2.1, (I64 (shR .u64 (U64 (I64 (s_1.2.1 + s_1.2.2))) 1)))))))) else (some (.brk (s_1.1, s_1.2.1, s_1.2.2)))) : Option (Stp (Int × Int × Int) (Option (Int × Bool))))) fuel (target_01, 0, (List.length x_00 : Int))).bind (oc (fun (s_1 : (Int × Int × Int)) => (jp (fun (s_5 : Bool) => (some (s_1.2.1, s_5))) (fun k_4 => (if (decide (s_1.2.1 < (List.length x_00 : Int))) then ((getI x_00 s_1.2.1).bind fun y_6 => ((tables_Site_1_s y_6 s_1.1).bind fun v1_7 => (k_4 (v1_7 == 0)))) else (k_4 false)))))))
theorem slices_BinarySearchFunc_1_f28_ev {fuel : Nat} {x_00 : (List Site)} {target_01 : Int} {r : (Int × Bool)} (h : slices_BinarySearchFunc_1_f28_s fuel x_00 target_01 = some r) : PureEv Try.prog 27 [(.sl false 2 (List.map Site.av x_00)), (.int .i64 target_01), (.fn (.func 28) [] [])] (.tup [(.int .i64 r.1), (.bool r.2)]) := by
  unfold slices_BinarySearchFunc_1_f28_s at h
  refine PureEv_end mixed fn27 (by simp) [] 6 ?_
  unfold fc27
  refine E_sq ?_
  refine E_reg ?_
  refine E_mv (v' := (.int .i64 0)) rfl ?_
  refine E_mv (v' := (.bool false)) rfl ?_
  refine E_nil ?_
  refine E_nx ?_
  refine E_sq ?_
  refine E_reg ?_
  refine E_mv (v' := (.sl false 2 (List.map Site.av x_00))) rfl ?_
  refine E_len rfl ?_
  refine E_mv (v' := (.int .i64 (List.length x_00 : Int))) rfl ?_
  refine E_nil ?_
  refine E_nx ?_
  refine E_sq ?_
  refine E_reg ?_
  refine E_mv (v' := (.int .i64 (List.length x_00 : Int))) rfl ?_
  refine E_mv (v' := (.int .i64 0)) rfl ?_
  refine E_mv (v' := (.int .i64 (List.length x_00 : Int))) rfl ?_
  refine E_nil ?_
  refine E_nx ?_
  refine E_sq ?_
  refine E_whileO (fun s_1 => [(0, (.sl false 2 (List.map Site.av x_00))), (1, (.int .i64 s_1.1)), (2, (.fn (.func 28) [] [])), (8, (.int .i64 (List.length x_00 : Int))), (9, (.int .i64 s_1.2.1)), (10, (.int .i64 s_1.2.2))]) (fun s_1 => []) h (wk_aw ⟨(.refl _), (.refl _), (.refl _), (.refl _), (.refl _), (.refl _), trivial⟩) (fun s_1 c h => ?_) (fun s_1 fr' S' h hw => ?_)
  · refine E_as ?_
    refine E_sq ?_
    refine E_reg ?_
    refine E_mv (v' := (.int .i64 s_1.2.1)) rfl ?_
    refine E_mv (v' := (.int .i64 s_1.2.2)) rfl ?_
    refine E_op0 (v' := (.bool (decide (s_1.2.1 < s_1.2.2)))) rfl rfl ?_
    refine E_nil ?_
    refine E_nx ?_
    refine E_sq ?_
    refine E_cs (t := (decide (s_1.2.1 < s_1.2.2))) rfl (fun hb => ?_) (fun hb => ?_)
    · rw [ite_t hb] at h
      refine E_skip ?_
      refine E_nx ?_
      refine E_block ?_
      refine E_sq ?_
      refine E_reg ?_
      refine E_mv (v' := (.int .i64 s_1.2.1)) rfl ?_
      refine E_mv (v' := (.int .i64 s_1.2.2)) rfl ?_
      refine E_op0 (v' := (.int .i64 (I64 (s_1.2.1 + s_1.2.2)))) rfl rfl ?_
      refine E_op0 (v' := (.int .u64 (U64 (I64 (s_1.2.1 + s_1.2.2))))) rfl rfl ?_
      refine E_op0 (v' := (.int .u64 (shR .u64 (U64 (I64 (s_1.2.1 + s_1.2.2))) 1))) rfl rfl ?_
      refine E_op0 (v' := (.int .i64 (I64 (shR .u64 (U64 (I64 (s_1.2.1 + s_1.2.2))) 1)))) rfl rfl ?_
      refine E_mv (v' := (.int .i64 (I64 (shR .u64 (U64 (I64 (s_1.2.1 + s_1.2.2))) 1)))) rfl ?_
      refine E_nil ?_
      refine E_nx ?_
      refine E_sq ?_
      refine E_reg ?_
      refine E_mv (v' := (.fn (.func 28) [] [])) rfl ?_
      refine E_mv (v' := (.sl false 2 (List.map Site.av x_00))) rfl ?_
      refine E_mv (v' := (.int .i64 (I64 (shR .u64 (U64 (I64 (s_1.2.1 + s_1.2.2))) 1)))) rfl ?_
      obtain ⟨y_2, hy_2, h⟩ := bd_some h
      refine E_iadF rfl rfl hy_2 ?_
      refine E_op0 (v' := (Site.av y_2)) rfl rfl ?_
      refine E_mv (v' := (.int .i64 s_1.1)) rfl ?_
      obtain ⟨v1_3, hv1_3, h⟩ := bd_some h
      refine E_callvW (as' := [(Site.av y_2), (.int .i64 s_1.1)]) rfl rfl (tables_Site_1_ev  hv1_3) rfl ⟨(.refl _), (.refl _), trivial⟩ (blwL_of ⟨(Site.enc.blw _ 0), rfl, trivial⟩) rfl ?_
      refine E_op0 (v' := (.bool (decide (v1_3 < 0)))) rfl rfl ?_
      refine E_nil ?_
      refine E_nx ?_
      refine E_cs (t := (decide (v1_3 < 0))) rfl (fun hb => ?_) (fun hb => ?_)
      · rw [ite_t hb] at h
        refine E_reg ?_
        refine E_mv (v' := (.int .i64 (I64 (shR .u64 (U64 (I64 (s_1.2.1 + s_1.2.2))) 1)))) rfl ?_
        refine E_op0 (v' := (.int .i64 (I64 ((I64 (shR .u64 (U64 (I64 (s_1.2.1 + s_1.2.2))) 1)) + 1)))) rfl rfl ?_
        refine E_mv (v' := (.int .i64 (I64 ((I64 (shR .u64 (U64 (I64 (s_1.2.1 + s_1.2.2))) 1)) + 1)))) rfl ?_
        refine E_nil ?_
        refine E_bln ?_
        cases h
        exact L_nn rfl (wk_aw ⟨(.refl _), (.refl _), (.refl _), (.refl _), (.refl _), (.refl _), trivial⟩)
      · rw [ite_f hb] at h
        refine E_reg ?_
        refine E_mv (v' := (.int .i64 (I64 (shR .u64 (U64 (I64 (s_1.2.1 + s_1.2.2))) 1)))) rfl ?_
        refine E_mv (v' := (.int .i64 (I64 (shR .u64 (U64 (I64 (s_1.2.1 + s_1.2.2))) 1)))) rfl ?_
        refine E_nil ?_
        refine E_bln ?_
        cases h
        exact L_nn rfl (wk_aw ⟨(.refl _), (.refl _), (.refl _), (.refl _), (.refl _), (.refl _), trivial⟩)
    · rw [ite_f hb] at h
      refine E_exit ?_
      refine E_the ?_
      cases h
      exact L_bk rfl rfl rfl (wk_aw ⟨(.refl _), (.refl _), (.refl _), (.refl _), (.refl _), (.refl _), trivial⟩)
  · refine X_nx hw ?_
    refine E_jp h (fun s_5 => [(6, (.int .i64 s_1.2.1)), (7, (.bool s_5))]) (fun s_5 => []) (fun k_4 h => ?_) (fun s_5 h => ?_)
    · refine E_reg ?_
      refine E_mv (v' := (.int .i64 s_1.2.1)) rfl ?_
      refine E_mv (v' := (.int .i64 s_1.2.1)) rfl ?_
      refine E_mv (v' := (.int .i64 (List.length x_00 : Int))) rfl ?_
      refine E_op0 (v' := (.bool (decide (s_1.2.1 < (List.length x_00 : Int))))) rfl rfl ?_
      refine E_mv (v' := (.bool (decide (s_1.2.1 < (List.length x_00 : Int))))) rfl ?_
      refine E_gsT (b := (decide (s_1.2.1 < (List.length x_00 : Int)))) rfl rfl rfl (fun hb => ?_) (fun hb => ?_)
      · rw [ite_t hb] at h
        refine E_mv (v' := (.fn (.func 28) [] [])) rfl ?_
        refine E_gh rfl ?_
        refine E_mv (v' := (.sl false 2 (List.map Site.av x_00))) rfl ?_
        refine E_gh rfl ?_
        refine E_mv (v' := (.int .i64 s_1.2.1)) rfl ?_
        refine E_gh rfl ?_
        obtain ⟨y_6, hy_6, h⟩ := bd_some h
        refine E_iadF rfl rfl hy_6 ?_
        refine E_gh rfl ?_
        refine E_op0 (v' := (Site.av y_6)) rfl rfl ?_
        refine E_gh rfl ?_
        refine E_mv (v' := (.int .i64 s_1.1)) rfl ?_
        refine E_gh rfl ?_
        obtain ⟨v1_7, hv1_7, h⟩ := bd_some h
        refine E_callvW (as' := [(Site.av y_6), (.int .i64 s_1.1)]) rfl rfl (tables_Site_1_ev  hv1_7) rfl ⟨(.refl _), (.refl _), trivial⟩ (blwL_of ⟨(Site.enc.blw _ 0), rfl, trivial⟩) rfl ?_
        refine E_gh rfl ?_
        refine E_op0 (v' := (.bool (v1_7 == 0))) rfl rfl ?_
        refine E_pt rfl rfl ?_
        refine E_mv (v' := (.int .i64 s_1.2.1)) rfl ?_
        refine E_mv (v' := (.bool (v1_7 == 0))) rfl ?_
        refine E_nil ?_
        exact E_jx _ h (wk_aw ⟨(.refl _), (.refl _), trivial⟩)
      · rw [ite_f hb] at h
        refine E_gm rfl ?_
        refine E_gm rfl ?_
        refine E_gm rfl ?_
        refine E_gm rfl ?_
        refine E_gm rfl ?_
        refine E_gm rfl ?_
        refine E_gm rfl ?_
        refine E_pf rfl rfl ?_
        refine E_mv (v' := (.int .i64 s_1.2.1)) rfl ?_
        refine E_mv (v' := (.bool false)) rfl ?_
        refine E_nil ?_
        exact E_jx _ h (wk_aw ⟨(.refl _), (.refl _), trivial⟩)
    · refine E_ret ?_
      cases h
      exact ⟨trivial, _, rfl, (fz_tup ⟨(fz_b rfl (.refl _)), (fz_b rfl (.refl _)), trivial⟩)⟩
/- windlass/tables.Site -/
def fc13 : FC := (.seq (.reg [⟨(some 2), none, .op (.box (.t 0))⟩,
  ⟨(some 4), none, .op (.mv (.v (.int .i64 0)))⟩,
  ⟨(some 5), none, .op (.mv (.v (.bool false)))⟩] [])
  (.seq (.reg [⟨(some 9), none, .op (.fad 1 (.t 2))⟩,
  ⟨(some 10), none, .op (.load none (.t 9))⟩,
  ⟨(some 11), none, .op (.mv (.t 1))⟩,
  ⟨(some 12), none, .call 27 [(.t 10), (.t 11), (.v (.fn (.func 28) [] []))]⟩,
  ⟨(some 8), none, .op (.mv (.t 12))⟩,
  ⟨(some 13), none, .op (.ext 0 (.t 8))⟩,
  ⟨(some 14), none, .op (.ext 1 (.t 8))⟩,
  ⟨(some 6), none, .op (.mv (.t 13))⟩,
  ⟨(some 7), none, .op (.mv (.t 14))⟩] [])
  (.seq (.seq (.reg [⟨(some 15), none, .op (.mv (.t 7))⟩,
  ⟨(some 16), none, .op (.un .not (.t 15))⟩] [])
  (.cond (.t 16)
  (.seq (.reg [⟨(some 4), none, .op (.mv (.v (.int .i64 0)))⟩,
  ⟨(some 5), none, .op (.mv (.v (.bool false)))⟩] [])
  .ret)
  .skip))
  (.seq (.reg [⟨(some 17), none, .op (.mv (.t 6))⟩,
  ⟨(some 4), none, .op (.mv (.t 17))⟩,
  ⟨(some 5), none, .op (.mv (.v (.bool true)))⟩] [])
  .ret))))
theorem fn13 : Fn3 Try.prog 13 18 [(4, none), (5, none)] fc13 := ⟨_, _, Try.func13, rfl, rfl, rfl, by kernel_rfl⟩
def tables_Site_s (fuel : Nat) (t_00 : Tables) (vat_01 : Int) : Option (Int × Bool) :=
  ((slices_BinarySearchFunc_1_f28_s fuel t_00.Sites vat_01).bind fun v1_1 => (if (!v1_1.2) then (some (0, false)) else (some (v1_1.1, true))))
theorem tables_Site_ev {fuel : Nat} {t_00 : Tables} {vat_01 : Int} {r : (Int × Bool)} (h : tables_Site_s fuel t_00 vat_01 = some r) : PureEv Try.prog 13 [(Tables.av t_00), (.int .i64 vat_01)] (.tup [(.int .i64 r.1), (.bool r.2)]) := by
  unfold tables_Site_s at h
  refine PureEv_end mixed fn13 (by simp) [] 6 ?_
  unfold fc13
  refine E_sq ?_
  refine E_reg ?_
  refine E_op0 (v' := (.cptr (Tables.av t_00).cells 0)) rfl rfl ?_
  refine E_mv (v' := (.int .i64 0)) rfl ?_
  refine E_mv (v' := (.bool false)) rfl ?_
  refine E_nil ?_
  refine E_nx ?_
  refine E_sq ?_
  refine E_reg ?_
  refine E_op0 (v' := (.cptr (Tables.av t_00).cells 1)) rfl rfl ?_
  refine E_op0 (v' := (.sl false 2 (List.map Site.av t_00.Sites))) rfl rfl ?_
  refine E_mv (v' := (.int .i64 vat_01)) rfl ?_
  obtain ⟨v1_1, hv1_1, h⟩ := bd_some h
  refine E_callW (slices_BinarySearchFunc_1_f28_ev (fuel := fuel)  hv1_1) rfl ⟨(.refl _), (.refl _), (.refl _), trivial⟩ (blwL_of ⟨(Site.enc.blws 0), rfl, rfl, trivial⟩) (tup_blw ⟨rfl, rfl, trivial⟩) ?_
  refine E_mv (v' := (.tup [(.int .i64 v1_1.1), (.bool v1_1.2)])) rfl ?_
  refine E_op0 (v' := (.int .i64 v1_1.1)) rfl rfl ?_
  refine E_op0 (v' := (.bool v1_1.2)) rfl rfl ?_
  refine E_mv (v' := (.int .i64 v1_1.1)) rfl ?_
  refine E_mv (v' := (.bool v1_1.2)) rfl ?_
  refine E_nil ?_
  refine E_nx ?_
  refine E_as ?_
  refine E_sq ?_
  refine E_reg ?_
  refine E_mv (v' := (.bool v1_1.2)) rfl ?_
  refine E_op0 (v' := (.bool (!v1_1.2))) rfl rfl ?_
  refine E_nil ?_
  refine E_nx ?_
  refine E_sq ?_
  refine E_cs (t := (!v1_1.2)) rfl (fun hb => ?_) (fun hb => ?_)
  · rw [ite_t hb] at h
    refine E_sq ?_
    refine E_reg ?_
    refine E_mv (v' := (.int .i64 0)) rfl ?_
    refine E_mv (v' := (.bool false)) rfl ?_
    refine E_nil ?_
    refine E_nx ?_
    refine E_ret ?_
    refine E_thr ?_
    cases h
    exact ⟨trivial, _, rfl, (fz_tup ⟨(fz_b rfl (.refl _)), (fz_b rfl (.refl _)), trivial⟩)⟩
  · rw [ite_f hb] at h
    refine E_skip ?_
    refine E_nx ?_
    refine E_sq ?_
    refine E_reg ?_
    refine E_mv (v' := (.int .i64 v1_1.1)) rfl ?_
    refine E_mv (v' := (.int .i64 v1_1.1)) rfl ?_
    refine E_mv (v' := (.bool true)) rfl ?_
    refine E_nil ?_
    refine E_nx ?_
    refine E_ret ?_
    cases h
    exact ⟨trivial, _, rfl, (fz_tup ⟨(fz_b rfl (.refl _)), (fz_b rfl (.refl _)), trivial⟩)⟩
/- windlass/windlassref19.Site -/
def fc14 : FC := (.seq (.reg [⟨(some 2), none, .op (.box (.t 0))⟩,
  ⟨(some 4), none, .op (.mv (.v (.int .i64 0)))⟩,
  ⟨(some 5), none, .op (.mv (.v (.bool false)))⟩] [])
  (.seq (.seq (.reg [⟨(some 8), none, .op (.fad 1 (.t 2))⟩,
  ⟨(some 9), none, .op (.load none (.t 8))⟩,
  ⟨(some 10), none, .op (.len .sl (.t 9))⟩,
  ⟨(some 11), none, .op (.mv (.v (.int .i64 0)))⟩] [])
  (.block 0 (.loop (.seq (.reg [⟨(some 12), none, .op (.bin .none .lss (.t 11) (.t 10))⟩] [])
  (.seq (.cond (.t 12)
  .skip
  (.exit 0))
  (.seq (.block 1 (.seq (.reg [⟨(some 13), none, .op (.mv (.t 11))⟩,
  ⟨(some 14), none, .op (.iad none (some 2) (.t 9) (.t 11))⟩,
  ⟨(some 15), none, .op (.load (some 2) (.t 14))⟩,
  ⟨(some 7), none, .op (.new [(.int .i64 0), .nils])⟩,
  ⟨(some 6), none, .op (.mv (.t 13))⟩,
  ⟨none, none, .op (.store 2 (.t 7) (.t 15))⟩] [])
  (.seq (.reg [⟨(some 16), none, .op (.fad 0 (.t 7))⟩,
  ⟨(some 17), none, .op (.load none (.t 16))⟩,
  ⟨(some 18), none, .op (.mv (.t 1))⟩,
  ⟨(some 19), none, .op (.bin .none .eql (.t 17) (.t 18))⟩] [])
  (.cond (.t 19)
  (.seq (.reg [⟨(some 20), none, .op (.mv (.t 6))⟩,
  ⟨(some 4), none, .op (.mv (.t 20))⟩,
  ⟨(some 5), none, .op (.mv (.v (.bool true)))⟩] [])
  .ret)
  .skip))))
  (.reg [⟨(some 21), none, .op (.bin .none .add (.t 11) (.v (.int .i64 1)))⟩,
  ⟨(some 11), none, .op (.mv (.t 21))⟩] [])))))))
  (.seq (.reg [⟨(some 4), none, .op (.mv (.v (.int .i64 0)))⟩,
  ⟨(some 5), none, .op (.mv (.v (.bool false)))⟩] [])
  .ret)))
theorem fn14 : Fn3 Try.prog 14 22 [(4, none), (5, none)] fc14 := ⟨_, _, Try.func14, rfl, rfl, rfl, by kernel_rfl⟩
def windlassref19_Site_s (t_00 : Tables) (vat_01 : Int) : Option (Int × Bool) :=
  ((rng (fun (i_2 : Nat) (s_3 : Site) (s_1 : Int) => ((if (s_3.At == s_1) then (some (.ret (some ((i_2 : Int), true)))) else (some (.nxt s_1))) : Option (Stp Int (Option (Int × Bool))))) t_00.Sites vat_01).bind (oc (fun (s_1 : Int) => (some (0, false)))))
theorem windlassref19_Site_ev {t_00 : Tables} {vat_01 : Int} {r : (Int × Bool)} (h : windlassref19_Site_s t_00 vat_01 = some r) : PureEv Try.prog 14 [(Tables.av t_00), (.int .i64 vat_01)] (.tup [(.int .i64 r.1), (.bool r.2)]) := by
  unfold windlassref19_Site_s at h
  refine PureEv_end mixed fn14 (by simp) [7] 6 ?_
  unfold fc14
  refine E_sq ?_
  refine E_reg ?_
  refine E_op0 (v' := (.cptr (Tables.av t_00).cells 0)) rfl rfl ?_
  refine E_mv (v' := (.int .i64 0)) rfl ?_
  refine E_mv (v' := (.bool false)) rfl ?_
  refine E_nil ?_
  refine E_nx ?_
  refine E_as ?_
  refine E_sq ?_
  refine E_reg ?_
  refine E_op0 (v' := (.cptr (Tables.av t_00).cells 1)) rfl rfl ?_
  refine E_op0 (v' := (.sl false 2 (List.map Site.av t_00.Sites))) rfl rfl ?_
  refine E_len rfl ?_
  refine E_mv (v' := (.int .i64 0)) rfl ?_
  refine E_nil ?_
  refine E_nx ?_
  refine E_sq ?_
  refine E_rngO (fun s_1 => [(1, (.int .i64 s_1)), (9, (.sl false 2 (List.map Site.av t_00.Sites)))]) (fun s_1 => []) h (by decide) (by decide) (fun _ => ⟨rfl, rfl, rfl, rfl⟩) (wk_aw ⟨(.refl _), (.refl _), (.refl _), (.refl _), trivial⟩) (fun i_2 s_3 s_1 c hx_4 hlt h => ?_) (fun s_1 fr' S' h hw => ?_)
  · refine E_sq ?_
    refine E_reg ?_
    refine E_mv (v' := (.int .i64 (i_2 : Int))) rfl ?_
    refine E_iadF rfl rfl (getI_of hx_4) ?_
    refine E_op0 (v' := (Site.av s_3)) rfl rfl ?_
    refine E_op (v' := .ptr 0 0 0) (S' := [.arr 0 [(.int .i64 0), .nils]]) rfl rfl rfl ?_
    refine E_mv (v' := (.int .i64 (i_2 : Int))) rfl ?_
    refine E_do (S' := [.arr 0 [(.int .i64 s_3.At), (.sl false 1 (List.map (avI .i64) s_3.Live))]]) rfl rfl ?_
    refine E_nil ?_
    refine E_nx ?_
    refine E_sq ?_
    refine E_reg ?_
    refine E_op0 (v' := (.ptr 0 0 0)) rfl rfl ?_
    refine E_op (v' := (.int .i64 s_3.At)) (S' := [.arr 0 [(.int .i64 s_3.At), (.sl false 1 (List.map (avI .i64) s_3.Live))]]) rfl rfl rfl ?_
    refine E_mv (v' := (.int .i64 s_1)) rfl ?_
    refine E_op0 (v' := (.bool (s_3.At == s_1))) rfl rfl ?_
    refine E_nil ?_
    refine E_nx ?_
    refine E_cs (t := (s_3.At == s_1)) rfl (fun hb => ?_) (fun hb => ?_)
    · rw [ite_t hb] at h
      refine E_sq ?_
      refine E_reg ?_
      refine E_mv (v' := (.int .i64 (i_2 : Int))) rfl ?_
      refine E_mv (v' := (.int .i64 (i_2 : Int))) rfl ?_
      refine E_mv (v' := (.bool true)) rfl ?_
      refine E_nil ?_
      refine E_nx ?_
      refine E_ret ?_
      cases h
      refine L_rrO rfl (fun h => ?_)
      refine E_thr ?_
      cases h
      exact ⟨trivial, _, rfl, (fz_tup ⟨(fz_b rfl (.refl _)), (fz_b rfl (.refl _)), trivial⟩)⟩
    · rw [ite_f hb] at h
      refine E_skip ?_
      cases h
      exact L_nn rfl (wk_rn [] rfl (Nat.le_of_ble_eq_true rfl) trivial ⟨(rn_b rfl), (rn_b rfl), (rn_b rfl), (rn_b (Site.enc.blws 0)), trivial⟩)
  · refine X_nx hw ?_
    refine E_sq ?_
    refine E_reg ?_
    refine E_mv (v' := (.int .i64 0)) rfl ?_
    refine E_mv (v' := (.bool false)) rfl ?_
    refine E_nil ?_
    refine E_nx ?_
    refine E_ret ?_
    cases h
    exact ⟨trivial, _, rfl, (fz_tup ⟨(fz_b rfl (.refl _)), (fz_b rfl (.refl _)), trivial⟩)⟩
/- windlass/windlasslaw19.TablesFinds -/
def fc4 : FC := (.seq (.reg [⟨(some 2), none, .op (.box (.t 0))⟩,
  ⟨(some 4), none, .op (.mv (.v (.bool false)))⟩] [])
  (.seq (.seq (.reg [⟨(some 19), none, .call 8 []⟩,
  ⟨(some 20), none, .op (.un .not (.t 19))⟩] [])
  (.cond (.t 20)
  (.seq (.reg [⟨(some 4), none, .op (.mv (.v (.bool false)))⟩] [])
  .ret)
  .skip))
  (.seq (.seq (.reg [⟨(some 21), none, .op (.load (some 2) (.t 2))⟩,
  ⟨(some 22), none, .call 11 [(.t 21)]⟩,
  ⟨(some 23), none, .op (.un .not (.t 22))⟩] [])
  (.cond (.t 23)
  (.seq (.reg [⟨(some 24), none, .op (.load (some 2) (.t 2))⟩,
  ⟨(some 25), none, .call 9 [(.t 24)]⟩,
  ⟨(some 26), none, .op (.bin .none .eql (.t 25) (.v (.int .i64 190)))⟩,
  ⟨(some 4), none, .op (.mv (.t 26))⟩] [])
  .ret)
  .skip))
  (.seq (.seq (.reg [⟨(some 27), none, .op (.mv (.t 1))⟩,
  ⟨(some 28), none, .op (.bsl none [(.int .i64 0)] 4 [(0, 1, (.t 27)), (1, 1, (.v (.int .i64 0))), (2, 1, (.v (.int .i64 (-1)))), (3, 1, (.v (.int .i64 1048576)))])⟩,
  ⟨(some 29), none, .op (.len .sl (.t 28))⟩,
  ⟨(some 30), none, .op (.mv (.v (.int .i64 0)))⟩] [])
  (.block 0 (.loop (.seq (.reg [⟨(some 31), none, .op (.bin .none .lss (.t 30) (.t 29))⟩] [])
  (.seq (.cond (.t 31)
  .skip
  (.exit 0))
  (.seq (.block 1 (.seq (.reg [⟨(some 32), none, .op (.iad none none (.t 28) (.t 30))⟩,
  ⟨(some 33), none, .op (.load none (.t 32))⟩,
  ⟨(some 6), none, .op (.mv (.t 33))⟩] [])
  (.seq (.reg [⟨(some 35), none, .op (.load (some 2) (.t 2))⟩,
  ⟨(some 36), none, .op (.mv (.t 6))⟩,
  ⟨(some 37), none, .call 10 [(.t 35), (.t 36)]⟩,
  ⟨(some 34), none, .op (.mv (.t 37))⟩,
  ⟨(some 38), none, .op (.ext 0 (.t 34))⟩,
  ⟨(some 39), none, .op (.ext 1 (.t 34))⟩,
  ⟨(some 7), none, .op (.mv (.t 38))⟩,
  ⟨(some 8), none, .op (.mv (.t 39))⟩] [])
  (.seq (.reg [⟨(some 41), none, .op (.load (some 2) (.t 2))⟩,
  ⟨(some 42), none, .op (.mv (.t 6))⟩,
  ⟨(some 43), none, .call 12 [(.t 41), (.t 42)]⟩,
  ⟨(some 40), none, .op (.mv (.t 43))⟩,
  ⟨(some 44), none, .op (.ext 0 (.t 40))⟩,
  ⟨(some 45), none, .op (.ext 1 (.t 40))⟩,
  ⟨(some 9), none, .op (.mv (.t 44))⟩,
  ⟨(some 10), none, .op (.mv (.t 45))⟩] [])
  (.seq (.reg [⟨(some 47), none, .op (.load (some 2) (.t 2))⟩,
  ⟨(some 48), none, .op (.mv (.t 6))⟩,
  ⟨(some 49), none, .call 13 [(.t 47), (.t 48)]⟩,
  ⟨(some 46), none, .op (.mv (.t 49))⟩,
  ⟨(some 50), none, .op (.ext 0 (.t 46))⟩,
  ⟨(some 51), none, .op (.ext 1 (.t 46))⟩,
  ⟨(some 11), none, .op (.mv (.t 50))⟩,
  ⟨(some 12), none, .op (.mv (.t 51))⟩] [])
  (.seq (.reg [⟨(some 53), none, .op (.load (some 2) (.t 2))⟩,
  ⟨(some 54), none, .op (.mv (.t 6))⟩,
  ⟨(some 55), none, .call 14 [(.t 53), (.t 54)]⟩,
  ⟨(some 52), none, .op (.mv (.t 55))⟩,
  ⟨(some 56), none, .op (.ext 0 (.t 52))⟩,
  ⟨(some 57), none, .op (.ext 1 (.t 52))⟩,
  ⟨(some 13), none, .op (.mv (.t 56))⟩,
  ⟨(some 14), none, .op (.mv (.t 57))⟩] [])
  (.seq (.reg [⟨(some 58), none, .op (.mv (.t 7))⟩,
  ⟨(some 59), none, .op (.mv (.t 9))⟩,
  ⟨(some 60), none, .op (.bin .none .neq (.t 58) (.t 59))⟩,
  ⟨(some 61), none, .op (.mv (.t 60))⟩,
  ⟨(some 62), some (61, false), .op (.mv (.t 8))⟩,
  ⟨(some 63), some (61, false), .op (.mv (.t 10))⟩,
  ⟨(some 64), some (61, false), .op (.bin .bool .neq (.t 62) (.t 63))⟩,
  ⟨(some 65), none, .op (.pick (.t 61) (.v (.bool true)) (.t 64))⟩,
  ⟨(some 66), none, .op (.mv (.t 65))⟩,
  ⟨(some 67), some (66, false), .op (.mv (.t 11))⟩,
  ⟨(some 68), some (66, false), .op (.mv (.t 13))⟩,
  ⟨(some 69), some (66, false), .op (.bin .none .neq (.t 67) (.t 68))⟩,
  ⟨(some 70), none, .op (.pick (.t 66) (.v (.bool true)) (.t 69))⟩,
  ⟨(some 71), none, .op (.mv (.t 70))⟩,
  ⟨(some 72), some (71, false), .op (.mv (.t 12))⟩,
  ⟨(some 73), some (71, false), .op (.mv (.t 14))⟩,
  ⟨(some 74), some (71, false), .op (.bin .bool .neq (.t 72) (.t 73))⟩,
  ⟨(some 75), none, .op (.pick (.t 71) (.v (.bool true)) (.t 74))⟩] [])
  (.cond (.t 75)
  (.seq (.reg [⟨(some 4), none, .op (.mv (.v (.bool false)))⟩] [])
  .ret)
  .skip))))))))
  (.reg [⟨(some 76), none, .op (.bin .none .add (.t 30) (.v (.int .i64 1)))⟩,
  ⟨(some 30), none, .op (.mv (.t 76))⟩] [])))))))
  (.seq (.seq (.reg [⟨(some 77), none, .op (.fad 1 (.t 2))⟩,
  ⟨(some 78), none, .op (.load none (.t 77))⟩,
  ⟨(some 79), none, .op (.len .sl (.t 78))⟩,
  ⟨(some 80), none, .op (.mv (.v (.int .i64 0)))⟩] [])
  (.block 2 (.loop (.seq (.reg [⟨(some 81), none, .op (.bin .none .lss (.t 80) (.t 79))⟩] [])
  (.seq (.cond (.t 81)
  .skip
  (.exit 2))
  (.seq (.block 3 (.seq (.reg [⟨(some 82), none, .op (.mv (.t 80))⟩,
  ⟨(some 83), none, .op (.iad none (some 2) (.t 78) (.t 80))⟩,
  ⟨(some 84), none, .op (.load (some 2) (.t 83))⟩,
  ⟨(some 16), none, .op (.new [(.int .i64 0), .nils])⟩,
  ⟨(some 15), none, .op (.mv (.t 82))⟩,
  ⟨none, none, .op (.store 2 (.t 16) (.t 84))⟩] [])
  (.seq (.reg [⟨(some 86), none, .op (.load (some 2) (.t 2))⟩,
  ⟨(some 87), none, .op (.fad 0 (.t 16))⟩,
  ⟨(some 88), none, .op (.load none (.t 87))⟩,
  ⟨(some 89), none, .call 13 [(.t 86), (.t 88)]⟩,
  ⟨(some 85), none, .op (.mv (.t 89))⟩,
  ⟨(some 90), none, .op (.ext 0 (.t 85))⟩,
  ⟨(some 91), none, .op (.ext 1 (.t 85))⟩,
  ⟨(some 17), none, .op (.mv (.t 90))⟩,
  ⟨(some 18), none, .op (.mv (.t 91))⟩] [])
  (.seq (.reg [⟨(some 92), none, .op (.mv (.t 17))⟩,
  ⟨(some 93), none, .op (.mv (.t 15))⟩,
  ⟨(some 94), none, .op (.bin .none .neq (.t 92) (.t 93))⟩,
  ⟨(some 95), none, .op (.mv (.t 94))⟩,
  ⟨(some 96), some (95, false), .op (.mv (.t 18))⟩,
  ⟨(some 97), some (95, false), .op (.un .not (.t 96))⟩,
  ⟨(some 98), none, .op (.pick (.t 95) (.v (.bool true)) (.t 97))⟩] [])
  (.cond (.t 98)
  (.seq (.reg [⟨(some 4), none, .op (.mv (.v (.bool false)))⟩] [])
  .ret)
  .skip)))))
  (.reg [⟨(some 99), none, .op (.bin .none .add (.t 80) (.v (.int .i64 1)))⟩,
  ⟨(some 80), none, .op (.mv (.t 99))⟩] [])))))))
  (.seq (.reg [⟨(some 4), none, .op (.mv (.v (.bool true)))⟩] [])
  .ret))))))
theorem fn4 : Fn3 Try.prog 4 100 [(4, none)] fc4 := ⟨_, _, Try.func4, rfl, rfl, rfl, by kernel_rfl⟩
def windlasslaw19_TablesFinds_s (fuel : Nat) (t_00 : Tables) (vat_01 : Int) : Option Bool :=
  ((windlasslaw19_first_s fuel).bind fun fir_1 => (if (!fir_1) then (some false) else ((windlassref19_Right_s t_00).bind fun rig_2 => (if (!rig_2) then ((tables_Check_s t_00).bind fun che_3 => (some (che_3 == 190))) else ((rng (fun (i_5 : Nat) (a_6 : Int) (s_4 : Unit) => (((tables_Func_s fuel t_00 a_6).bind fun vfun_8 => ((windlassref19_Func_s t_00 a_6).bind fun vfun_9 => ((tables_Site_s fuel t_00 a_6).bind fun sit_10 => ((windlassref19_Site_s t_00 a_6).bind fun sit_11 => (jp (fun (s_13 : Bool) => (if s_13 then (some (.ret (some false))) else (some (.nxt ())))) (fun k_12 => (if (vfun_8.1 != vfun_9.1) then (k_12 true) else (if (!(vfun_8.2 == vfun_9.2)) then (k_12 true) else (if (sit_10.1 != sit_11.1) then (k_12 true) else (k_12 (!(sit_10.2 == sit_11.2)))))))))))) : Option (Stp Unit (Option Bool)))) [vat_01, 0, (-1), 1048576] ()).bind (oc (fun (s_4 : Unit) => ((rng (fun (i_15 : Nat) (s_16 : Site) (s_14 : Unit) => (((tables_Site_s fuel t_00 s_16.At).bind fun sit_18 => (jp (fun (s_20 : Bool) => (if s_20 then (some (.ret (some false))) else (some (.nxt ())))) (fun k_19 => (if (sit_18.1 != (i_15 : Int)) then (k_19 true) else (k_19 (!sit_18.2)))))) : Option (Stp Unit (Option Bool)))) t_00.Sites ()).bind (oc (fun (s_14 : Unit) => (some true)))))))))))
theorem windlasslaw19_TablesFinds_ev {fuel : Nat} {t_00 : Tables} {vat_01 : Int} {r : Bool} (h : windlasslaw19_TablesFinds_s fuel t_00 vat_01 = some r) : PureEv Try.prog 4 [(Tables.av t_00), (.int .i64 vat_01)] (.bool r) := by
  unfold windlasslaw19_TablesFinds_s at h
  refine PureEv_end mixed fn4 (by simp) [16] 6 ?_
  unfold fc4
  refine E_sq ?_
  refine E_reg ?_
  refine E_op0 (v' := (.cptr (Tables.av t_00).cells 0)) rfl rfl ?_
  refine E_mv (v' := (.bool false)) rfl ?_
  refine E_nil ?_
  refine E_nx ?_
  refine E_as ?_
  refine E_sq ?_
  refine E_reg ?_
  obtain ⟨fir_1, hfir_1, h⟩ := bd_some h
  refine E_callW (windlasslaw19_first_ev (fuel := fuel)  hfir_1) rfl trivial (blwL_of trivial) rfl ?_
  refine E_op0 (v' := (.bool (!fir_1))) rfl rfl ?_
  refine E_nil ?_
  refine E_nx ?_
  refine E_sq ?_
  refine E_cs (t := (!fir_1)) rfl (fun hb => ?_) (fun hb => ?_)
  · rw [ite_t hb] at h
    refine E_sq ?_
    refine E_reg ?_
    refine E_mv (v' := (.bool false)) rfl ?_
    refine E_nil ?_
    refine E_nx ?_
    refine E_ret ?_
    refine E_thr ?_
    cases h
    exact ⟨trivial, _, rfl, (fz_b rfl (.refl _))⟩
  · rw [ite_f hb] at h
    refine E_skip ?_
    refine E_nx ?_
    refine E_as ?_
    refine E_sq ?_
    refine E_reg ?_
    refine E_op0 (v' := (Tables.av t_00)) rfl rfl ?_
    obtain ⟨rig_2, hrig_2, h⟩ := bd_some h
    refine E_callW (windlassref19_Right_ev  hrig_2) rfl ⟨(.refl _), trivial⟩ (blwL_of ⟨(Tables.enc.blw _ 0), trivial⟩) rfl ?_
    refine E_op0 (v' := (.bool (!rig_2))) rfl rfl ?_
    refine E_nil ?_
    refine E_nx ?_
    refine E_sq ?_
    refine E_cs (t := (!rig_2)) rfl (fun hb => ?_) (fun hb => ?_)
    · rw [ite_t hb] at h
      refine E_sq ?_
      refine E_reg ?_
      refine E_op0 (v' := (Tables.av t_00)) rfl rfl ?_
      obtain ⟨che_3, hche_3, h⟩ := bd_some h
      refine E_callW (tables_Check_ev  hche_3) rfl ⟨(.refl _), trivial⟩ (blwL_of ⟨(Tables.enc.blw _ 0), trivial⟩) rfl ?_
      refine E_op0 (v' := (.bool (che_3 == 190))) rfl rfl ?_
      refine E_mv (v' := (.bool (che_3 == 190))) rfl ?_
      refine E_nil ?_
      refine E_nx ?_
      refine E_ret ?_
      refine E_thr ?_
      cases h
      exact ⟨trivial, _, rfl, (fz_b rfl (.refl _))⟩
    · rw [ite_f hb] at h
      refine E_skip ?_
      refine E_nx ?_
      refine E_as ?_
      refine E_sq ?_
      refine E_reg ?_
      refine E_mv (v' := (.int .i64 vat_01)) rfl ?_
      refine E_opw (v' := (.sl true 1 (List.map (avI .i64) [vat_01, 0, (-1), 1048576]))) rfl (.refl _) rfl ?_
      refine E_len rfl ?_
      refine E_mv (v' := (.int .i64 0)) rfl ?_
      refine E_nil ?_
      refine E_nx ?_
      refine E_sq ?_
      refine E_rngO (fun s_4 => [(2, (.cptr (Tables.av t_00).cells 0)), (28, (.sl true 1 (List.map (avI .i64) [vat_01, 0, (-1), 1048576])))]) (fun s_4 => []) h (by decide) (by decide) (fun _ => ⟨rfl, rfl, rfl, rfl⟩) (wk_aw ⟨(.refl _), (.refl _), (.refl _), (.refl _), trivial⟩) (fun i_5 a_6 s_4 c hx_7 hlt h => ?_) (fun s_4 fr' S' h hw => ?_)
      · refine E_sq ?_
        refine E_reg ?_
        refine E_iadF rfl rfl (getI_of hx_7) ?_
        refine E_op0 (v' := (.int .i64 a_6)) rfl rfl ?_
        refine E_mv (v' := (.int .i64 a_6)) rfl ?_
        refine E_nil ?_
        refine E_nx ?_
        refine E_sq ?_
        refine E_reg ?_
        refine E_op0 (v' := (Tables.av t_00)) rfl rfl ?_
        refine E_mv (v' := (.int .i64 a_6)) rfl ?_
        obtain ⟨vfun_8, hvfun_8, h⟩ := bd_some h
        refine E_callW (tables_Func_ev (fuel := fuel)  hvfun_8) rfl ⟨(.refl _), (.refl _), trivial⟩ (blwL_of ⟨(Tables.enc.blw _ 0), rfl, trivial⟩) (tup_blw ⟨rfl, rfl, trivial⟩) ?_
        refine E_mv (v' := (.tup [(.int .i64 vfun_8.1), (.bool vfun_8.2)])) rfl ?_
        refine E_op0 (v' := (.int .i64 vfun_8.1)) rfl rfl ?_
        refine E_op0 (v' := (.bool vfun_8.2)) rfl rfl ?_
        refine E_mv (v' := (.int .i64 vfun_8.1)) rfl ?_
        refine E_mv (v' := (.bool vfun_8.2)) rfl ?_
        refine E_nil ?_
        refine E_nx ?_
        refine E_sq ?_
        refine E_reg ?_
        refine E_op0 (v' := (Tables.av t_00)) rfl rfl ?_
        refine E_mv (v' := (.int .i64 a_6)) rfl ?_
        obtain ⟨vfun_9, hvfun_9, h⟩ := bd_some h
        refine E_callW (windlassref19_Func_ev  hvfun_9) rfl ⟨(.refl _), (.refl _), trivial⟩ (blwL_of ⟨(Tables.enc.blw _ 0), rfl, trivial⟩) (tup_blw ⟨rfl, rfl, trivial⟩) ?_
        refine E_mv (v' := (.tup [(.int .i64 vfun_9.1), (.bool vfun_9.2)])) rfl ?_
        refine E_op0 (v' := (.int .i64 vfun_9.1)) rfl rfl ?_
        refine E_op0 (v' := (.bool vfun_9.2)) rfl rfl ?_
        refine E_mv (v' := (.int .i64 vfun_9.1)) rfl ?_
        refine E_mv (v' := (.bool vfun_9.2)) rfl ?_
        refine E_nil ?_
        refine E_nx ?_
        refine E_sq ?_
        refine E_reg ?_
        refine E_op0 (v' := (Tables.av t_00)) rfl rfl ?_
        refine E_mv (v' := (.int .i64 a_6)) rfl ?_
        obtain ⟨sit_10, hsit_10, h⟩ := bd_some h
        refine E_callW (tables_Site_ev (fuel := fuel)  hsit_10) rfl ⟨(.refl _), (.refl _), trivial⟩ (blwL_of ⟨(Tables.enc.blw _ 0), rfl, trivial⟩) (tup_blw ⟨rfl, rfl, trivial⟩) ?_
        refine E_mv (v' := (.tup [(.int .i64 sit_10.1), (.bool sit_10.2)])) rfl ?_
        refine E_op0 (v' := (.int .i64 sit_10.1)) rfl rfl ?_
        refine E_op0 (v' := (.bool sit_10.2)) rfl rfl ?_
        refine E_mv (v' := (.int .i64 sit_10.1)) rfl ?_
        refine E_mv (v' := (.bool sit_10.2)) rfl ?_
        refine E_nil ?_
        refine E_nx ?_
        refine E_sq ?_
        refine E_reg ?_
        refine E_op0 (v' := (Tables.av t_00)) rfl rfl ?_
        refine E_mv (v' := (.int .i64 a_6)) rfl ?_
        obtain ⟨sit_11, hsit_11, h⟩ := bd_some h
        refine E_callW (windlassref19_Site_ev  hsit_11) rfl ⟨(.refl _), (.refl _), trivial⟩ (blwL_of ⟨(Tables.enc.blw _ 0), rfl, trivial⟩) (tup_blw ⟨rfl, rfl, trivial⟩) ?_
        refine E_mv (v' := (.tup [(.int .i64 sit_11.1), (.bool sit_11.2)])) rfl ?_
        refine E_op0 (v' := (.int .i64 sit_11.1)) rfl rfl ?_
        refine E_op0 (v' := (.bool sit_11.2)) rfl rfl ?_
        refine E_mv (v' := (.int .i64 sit_11.1)) rfl ?_
        refine E_mv (v' := (.bool sit_11.2)) rfl ?_
        refine E_nil ?_
        refine E_nx ?_
        refine E_jp h (fun s_13 => [(2, (.cptr (Tables.av t_00).cells 0)), (28, (.sl true 1 (List.map (avI .i64) [vat_01, 0, (-1), 1048576]))), (29, (.int .i64 (List.length [vat_01, 0, (-1), 1048576] : Int))), (30, (.int .i64 (i_5 : Int))), (75, (.bool s_13))]) (fun s_13 => []) (fun k_12 h => ?_) (fun s_13 h => ?_)
        · refine E_reg ?_
          refine E_mv (v' := (.int .i64 vfun_8.1)) rfl ?_
          refine E_mv (v' := (.int .i64 vfun_9.1)) rfl ?_
          refine E_op0 (v' := (.bool (vfun_8.1 != vfun_9.1))) rfl rfl ?_
          refine E_mv (v' := (.bool (vfun_8.1 != vfun_9.1))) rfl ?_
          refine E_gsT (b := (vfun_8.1 != vfun_9.1)) rfl rfl rfl (fun hb => ?_) (fun hb => ?_)
          · rw [ite_f hb] at h
            refine E_mv (v' := (.bool vfun_8.2)) rfl ?_
            refine E_gh rfl ?_
            refine E_mv (v' := (.bool vfun_9.2)) rfl ?_
            refine E_gh rfl ?_
            refine E_op0 (v' := (.bool (!(vfun_8.2 == vfun_9.2)))) rfl rfl ?_
            refine E_pf rfl rfl ?_
            refine E_mv (v' := (.bool (!(vfun_8.2 == vfun_9.2)))) rfl ?_
            refine E_gsT (b := (!(vfun_8.2 == vfun_9.2))) rfl rfl rfl (fun hb => ?_) (fun hb => ?_)
            · rw [ite_f hb] at h
              refine E_mv (v' := (.int .i64 sit_10.1)) rfl ?_
              refine E_gh rfl ?_
              refine E_mv (v' := (.int .i64 sit_11.1)) rfl ?_
              refine E_gh rfl ?_
              refine E_op0 (v' := (.bool (sit_10.1 != sit_11.1))) rfl rfl ?_
              refine E_pf rfl rfl ?_
              refine E_mv (v' := (.bool (sit_10.1 != sit_11.1))) rfl ?_
              refine E_gsT (b := (sit_10.1 != sit_11.1)) rfl rfl rfl (fun hb => ?_) (fun hb => ?_)
              · rw [ite_f hb] at h
                refine E_mv (v' := (.bool sit_10.2)) rfl ?_
                refine E_gh rfl ?_
                refine E_mv (v' := (.bool sit_11.2)) rfl ?_
                refine E_gh rfl ?_
                refine E_op0 (v' := (.bool (!(sit_10.2 == sit_11.2)))) rfl rfl ?_
                refine E_pf rfl rfl ?_
                refine E_nil ?_
                exact E_jx _ h (wk_aw ⟨(.refl _), (.refl _), (.refl _), (.refl _), (.refl _), trivial⟩)
              · rw [ite_t hb] at h
                refine E_gm rfl ?_
                refine E_gm rfl ?_
                refine E_pt rfl rfl ?_
                refine E_nil ?_
                exact E_jx _ h (wk_aw ⟨(.refl _), (.refl _), (.refl _), (.refl _), (.refl _), trivial⟩)
            · rw [ite_t hb] at h
              refine E_gm rfl ?_
              refine E_gm rfl ?_
              refine E_pt rfl rfl ?_
              refine E_mv (v' := (.bool true)) rfl ?_
              refine E_gm rfl ?_
              refine E_gm rfl ?_
              refine E_gm rfl ?_
              refine E_pt rfl rfl ?_
              refine E_nil ?_
              exact E_jx _ h (wk_aw ⟨(.refl _), (.refl _), (.refl _), (.refl _), (.refl _), trivial⟩)
          · rw [ite_t hb] at h
            refine E_gm rfl ?_
            refine E_gm rfl ?_
            refine E_pt rfl rfl ?_
            refine E_mv (v' := (.bool true)) rfl ?_
            refine E_gm rfl ?_
            refine E_gm rfl ?_
            refine E_gm rfl ?_
            refine E_pt rfl rfl ?_
            refine E_mv (v' := (.bool true)) rfl ?_
            refine E_gm rfl ?_
            refine E_gm rfl ?_
            refine E_gm rfl ?_
            refine E_pt rfl rfl ?_
            refine E_nil ?_
            exact E_jx _ h (wk_aw ⟨(.refl _), (.refl _), (.refl _), (.refl _), (.refl _), trivial⟩)
        · refine E_cs (t := s_13) rfl (fun hb => ?_) (fun hb => ?_)
          · rw [ite_t hb] at h
            refine E_sq ?_
            refine E_reg ?_
            refine E_mv (v' := (.bool false)) rfl ?_
            refine E_nil ?_
            refine E_nx ?_
            refine E_ret ?_
            cases h
            refine L_rrO rfl (fun h => ?_)
            refine E_thr ?_
            cases h
            exact ⟨trivial, _, rfl, (fz_b rfl (.refl _))⟩
          · rw [ite_f hb] at h
            refine E_skip ?_
            cases h
            exact L_nn rfl (wk_aw ⟨(.refl _), (.refl _), (.refl _), (.refl _), trivial⟩)
      · refine X_nx hw ?_
        refine E_as ?_
        refine E_sq ?_
        refine E_reg ?_
        refine E_op0 (v' := (.cptr (Tables.av t_00).cells 1)) rfl rfl ?_
        refine E_op0 (v' := (.sl false 2 (List.map Site.av t_00.Sites))) rfl rfl ?_
        refine E_len rfl ?_
        refine E_mv (v' := (.int .i64 0)) rfl ?_
        refine E_nil ?_
        refine E_nx ?_
        refine E_sq ?_
        refine E_rngO (fun s_14 => [(2, (.cptr (Tables.av t_00).cells 0)), (78, (.sl false 2 (List.map Site.av t_00.Sites)))]) (fun s_14 => []) h (by decide) (by decide) (fun _ => ⟨rfl, rfl, rfl, rfl⟩) (wk_aw ⟨(.refl _), (.refl _), (.refl _), (.refl _), trivial⟩) (fun i_15 s_16 s_14 c hx_17 hlt h => ?_) (fun s_14 fr' S' h hw => ?_)
        · refine E_sq ?_
          refine E_reg ?_
          refine E_mv (v' := (.int .i64 (i_15 : Int))) rfl ?_
          refine E_iadF rfl rfl (getI_of hx_17) ?_
          refine E_op0 (v' := (Site.av s_16)) rfl rfl ?_
          refine E_op (v' := .ptr 0 0 0) (S' := [.arr 0 [(.int .i64 0), .nils]]) rfl rfl rfl ?_
          refine E_mv (v' := (.int .i64 (i_15 : Int))) rfl ?_
          refine E_do (S' := [.arr 0 [(.int .i64 s_16.At), (.sl false 1 (List.map (avI .i64) s_16.Live))]]) rfl rfl ?_
          refine E_nil ?_
          refine E_nx ?_
          refine E_sq ?_
          refine E_reg ?_
          refine E_op0 (v' := (Tables.av t_00)) rfl rfl ?_
          refine E_op0 (v' := (.ptr 0 0 0)) rfl rfl ?_
          refine E_op (v' := (.int .i64 s_16.At)) (S' := [.arr 0 [(.int .i64 s_16.At), (.sl false 1 (List.map (avI .i64) s_16.Live))]]) rfl rfl rfl ?_
          obtain ⟨sit_18, hsit_18, h⟩ := bd_some h
          refine E_callW (tables_Site_ev (fuel := fuel)  hsit_18) rfl ⟨(.refl _), (.refl _), trivial⟩ (blwL_of ⟨(Tables.enc.blw _ 0), rfl, trivial⟩) (tup_blw ⟨rfl, rfl, trivial⟩) ?_
          refine E_mv (v' := (.tup [(.int .i64 sit_18.1), (.bool sit_18.2)])) rfl ?_
          refine E_op0 (v' := (.int .i64 sit_18.1)) rfl rfl ?_
          refine E_op0 (v' := (.bool sit_18.2)) rfl rfl ?_
          refine E_mv (v' := (.int .i64 sit_18.1)) rfl ?_
          refine E_mv (v' := (.bool sit_18.2)) rfl ?_
          refine E_nil ?_
          refine E_nx ?_
          refine E_jp h (fun s_20 => [(2, (.cptr (Tables.av t_00).cells 0)), (78, (.sl false 2 (List.map Site.av t_00.Sites))), (79, (.int .i64 (List.length t_00.Sites : Int))), (80, (.int .i64 (i_15 : Int))), (98, (.bool s_20))]) (fun s_20 => []) (fun k_19 h => ?_) (fun s_20 h => ?_)
          · refine E_reg ?_
            refine E_mv (v' := (.int .i64 sit_18.1)) rfl ?_
            refine E_mv (v' := (.int .i64 (i_15 : Int))) rfl ?_
            refine E_op0 (v' := (.bool (sit_18.1 != (i_15 : Int)))) rfl rfl ?_
            refine E_mv (v' := (.bool (sit_18.1 != (i_15 : Int)))) rfl ?_
            refine E_gsT (b := (sit_18.1 != (i_15 : Int))) rfl rfl rfl (fun hb => ?_) (fun hb => ?_)
            · rw [ite_f hb] at h
              refine E_mv (v' := (.bool sit_18.2)) rfl ?_
              refine E_gh rfl ?_
              refine E_op0 (v' := (.bool (!sit_18.2))) rfl rfl ?_
              refine E_pf rfl rfl ?_
              refine E_nil ?_
              exact E_jx _ h (wk_rn [] rfl (Nat.le_of_ble_eq_true rfl) trivial ⟨(rn_b (cp_blw (Tables.enc.blw _ 0))), (rn_b (Site.enc.blws 0)), (rn_b rfl), (rn_b rfl), (rn_b rfl), trivial⟩)
            · rw [ite_t hb] at h
              refine E_gm rfl ?_
              refine E_pt rfl rfl ?_
              refine E_nil ?_
              exact E_jx _ h (wk_rn [] rfl (Nat.le_of_ble_eq_true rfl) trivial ⟨(rn_b (cp_blw (Tables.enc.blw _ 0))), (rn_b (Site.enc.blws 0)), (rn_b rfl), (rn_b rfl), (rn_b rfl), trivial⟩)
          · refine E_cs (t := s_20) rfl (fun hb => ?_) (fun hb => ?_)
            · rw [ite_t hb] at h
              refine E_sq ?_
              refine E_reg ?_
              refine E_mv (v' := (.bool false)) rfl ?_
              refine E_nil ?_
              refine E_nx ?_
              refine E_ret ?_
              cases h
              refine L_rrO rfl (fun h => ?_)
              refine E_thr ?_
              cases h
              exact ⟨trivial, _, rfl, (fz_b rfl (.refl _))⟩
            · rw [ite_f hb] at h
              refine E_skip ?_
              cases h
              exact L_nn rfl (wk_aw ⟨(.refl _), (.refl _), (.refl _), (.refl _), trivial⟩)
        · refine X_nx hw ?_
          refine E_sq ?_
          refine E_reg ?_
          refine E_mv (v' := (.bool true)) rfl ?_
          refine E_nil ?_
          refine E_nx ?_
          refine E_ret ?_
          cases h
          exact ⟨trivial, _, rfl, (fz_b rfl (.refl _))⟩
/- (*windlass/tables.reader).number -/
def fc31 : FC := (.seq (.reg [⟨(some 2), none, .op (.mv (.v (.int .i64 0)))⟩] [])
  (.seq (.seq (.reg [⟨(some 4), none, .op (.mv (.t 0))⟩,
  ⟨(some 5), none, .op (.nchk (.t 4))⟩,
  ⟨(some 6), none, .op (.fad 1 (.t 5))⟩,
  ⟨(some 7), none, .op (.load none (.t 6))⟩,
  ⟨(some 8), none, .op (.mv (.t 7))⟩,
  ⟨(some 9), some (8, false), .op (.mv (.t 0))⟩,
  ⟨(some 10), some (8, false), .op (.nchk (.t 9))⟩,
  ⟨(some 11), some (8, false), .op (.fad 0 (.t 10))⟩,
  ⟨(some 12), some (8, false), .op (.load none (.t 11))⟩,
  ⟨(some 13), some (8, false), .op (.len .sl (.t 12))⟩,
  ⟨(some 14), some (8, false), .op (.bin .none .lss (.t 13) (.v (.int .i64 4)))⟩,
  ⟨(some 15), none, .op (.pick (.t 8) (.v (.bool true)) (.t 14))⟩] [])
  (.cond (.t 15)
  (.seq (.reg [⟨(some 16), none, .op (.mv (.t 0))⟩,
  ⟨(some 17), none, .op (.nchk (.t 16))⟩,
  ⟨(some 18), none, .op (.fad 1 (.t 17))⟩,
  ⟨none, none, .op (.store 1 (.t 18) (.v (.bool true)))⟩] [])
  (.seq (.reg [⟨(some 2), none, .op (.mv (.v (.int .i64 0)))⟩] [])
  .ret))
  .skip))
  (.seq (.reg [⟨(some 19), none, .op (.mv (.t 0))⟩,
  ⟨(some 20), none, .op (.nchk (.t 19))⟩,
  ⟨(some 21), none, .op (.fad 0 (.t 20))⟩,
  ⟨(some 22), none, .op (.load none (.t 21))⟩,
  ⟨(some 23), none, .op (.iad none none (.t 22) (.v (.int .i64 0)))⟩,
  ⟨(some 24), none, .op (.load none (.t 23))⟩,
  ⟨(some 25), none, .op (.cint .i64 (.t 24))⟩,
  ⟨(some 26), none, .op (.mv (.t 0))⟩,
  ⟨(some 27), none, .op (.nchk (.t 26))⟩,
  ⟨(some 28), none, .op (.fad 0 (.t 27))⟩,
  ⟨(some 29), none, .op (.load none (.t 28))⟩,
  ⟨(some 30), none, .op (.iad none none (.t 29) (.v (.int .i64 1)))⟩,
  ⟨(some 31), none, .op (.load none (.t 30))⟩,
  ⟨(some 32), none, .op (.cint .i64 (.t 31))⟩,
  ⟨(some 33), none, .op (.bin .none .shl (.t 32) (.v (.int .u64 8)))⟩,
  ⟨(some 34), none, .op (.bin .none .or (.t 25) (.t 33))⟩,
  ⟨(some 35), none, .op (.mv (.t 0))⟩,
  ⟨(some 36), none, .op (.nchk (.t 35))⟩,
  ⟨(some 37), none, .op (.fad 0 (.t 36))⟩,
  ⟨(some 38), none, .op (.load none (.t 37))⟩,
  ⟨(some 39), none, .op (.iad none none (.t 38) (.v (.int .i64 2)))⟩,
  ⟨(some 40), none, .op (.load none (.t 39))⟩,
  ⟨(some 41), none, .op (.cint .i64 (.t 40))⟩,
  ⟨(some 42), none, .op (.bin .none .shl (.t 41) (.v (.int .u64 16)))⟩,
  ⟨(some 43), none, .op (.bin .none .or (.t 34) (.t 42))⟩,
  ⟨(some 44), none, .op (.mv (.t 0))⟩,
  ⟨(some 45), none, .op (.nchk (.t 44))⟩,
  ⟨(some 46), none, .op (.fad 0 (.t 45))⟩,
  ⟨(some 47), none, .op (.load none (.t 46))⟩,
  ⟨(some 48), none, .op (.iad none none (.t 47) (.v (.int .i64 3)))⟩,
  ⟨(some 49), none, .op (.load none (.t 48))⟩,
  ⟨(some 50), none, .op (.cint .i64 (.t 49))⟩,
  ⟨(some 51), none, .op (.bin .none .shl (.t 50) (.v (.int .u64 24)))⟩,
  ⟨(some 52), none, .op (.bin .none .or (.t 43) (.t 51))⟩,
  ⟨(some 3), none, .op (.mv (.t 52))⟩] [])
  (.seq (.reg [⟨(some 53), none, .op (.mv (.t 0))⟩,
  ⟨(some 54), none, .op (.mv (.t 0))⟩,
  ⟨(some 55), none, .op (.nchk (.t 54))⟩,
  ⟨(some 56), none, .op (.fad 0 (.t 55))⟩,
  ⟨(some 57), none, .op (.load none (.t 56))⟩,
  ⟨(some 58), none, .op (.slc none (.t 57) (some (.v (.int .i64 4))) none none)⟩,
  ⟨(some 59), none, .op (.nchk (.t 53))⟩,
  ⟨(some 60), none, .op (.fad 0 (.t 59))⟩,
  ⟨none, none, .op (.store 1 (.t 60) (.t 58))⟩] [])
  (.seq (.reg [⟨(some 61), none, .op (.mv (.t 3))⟩,
  ⟨(some 2), none, .op (.mv (.t 61))⟩] [])
  .ret)))))
theorem fn31 : Fn3 Try.prog 31 62 [(2, none)] fc31 := ⟨_, _, Try.func31, rfl, rfl, rfl, by kernel_rfl⟩
def tables_reader_number_pNN_s (r_b_00 : (List Int)) (r_bad_00 : Bool) : Option (Int × (List Int) × Bool) :=
  (jp (fun (s_2 : Bool) => (if s_2 then (some (0, r_b_00, true)) else ((getI r_b_00 0).bind fun y_3 => ((getI r_b_00 1).bind fun y_4 => ((getI r_b_00 2).bind fun y_5 => ((getI r_b_00 3).bind fun y_6 => ((subL r_b_00 4 (List.length r_b_00 : Int)).bind fun l_7 => (some ((bitOr .i64 (bitOr .i64 (bitOr .i64 (I64 y_3) (shL .i64 (I64 y_4) 8)) (shL .i64 (I64 y_5) 16)) (shL .i64 (I64 y_6) 24)), l_7, r_bad_00))))))))) (fun k_1 => (if r_bad_00 then (k_1 true) else (k_1 (decide ((List.length r_b_00 : Int) < 4))))))
theorem tables_reader_number_pNN_ev {r_b_00 : (List Int)} {r_bad_00 : Bool} {r : (Int × (List Int) × Bool)} (h : tables_reader_number_pNN_s r_b_00 r_bad_00 = some r) : Ev Try.prog 31 [(.ptr 0 0 0)] (hp [.arr 0 [(.sl false 1 (List.map (avI .u8) r_b_00)), (.bool r_bad_00)]]) (.int .i64 r.1) (hp [.arr 0 [(.sl false 1 (List.map (avI .u8) r.2.1)), (.bool r.2.2)]]) := by
  unfold tables_reader_number_pNN_s at h
  refine Ev_end mixed fn31 (by simp) [] ?_
  unfold fc31
  refine E_sq ?_
  refine E_reg ?_
  refine E_mv (v' := (.int .i64 0)) rfl ?_
  refine E_nil ?_
  refine E_nx ?_
  refine E_as ?_
  refine E_jp h (fun s_2 => [(0, (.ptr 0 0 0)), (15, (.bool s_2))]) (fun s_2 => [.arr 0 [(.sl false 1 (List.map (avI .u8) r_b_00)), (.bool r_bad_00)]]) (fun k_1 h => ?_) (fun s_2 h => ?_)
  · refine E_reg ?_
    refine E_mv (v' := (.ptr 0 0 0)) rfl ?_
    refine E_op0 (v' := (.ptr 0 0 0)) rfl rfl ?_
    refine E_op0 (v' := (.ptr 0 0 1)) rfl rfl ?_
    refine E_op (v' := (.bool r_bad_00)) (S' := [.arr 0 [(.sl false 1 (List.map (avI .u8) r_b_00)), (.bool r_bad_00)]]) rfl rfl rfl ?_
    refine E_mv (v' := (.bool r_bad_00)) rfl ?_
    refine E_gsT (b := r_bad_00) rfl rfl rfl (fun hb => ?_) (fun hb => ?_)
    · rw [ite_f hb] at h
      refine E_mv (v' := (.ptr 0 0 0)) rfl ?_
      refine E_gh rfl ?_
      refine E_op0 (v' := (.ptr 0 0 0)) rfl rfl ?_
      refine E_gh rfl ?_
      refine E_op0 (v' := (.ptr 0 0 0)) rfl rfl ?_
      refine E_gh rfl ?_
      refine E_op (v' := (.sl false 1 (List.map (avI .u8) r_b_00))) (S' := [.arr 0 [(.sl false 1 (List.map (avI .u8) r_b_00)), (.bool r_bad_00)]]) rfl rfl rfl ?_
      refine E_gh rfl ?_
      refine E_len rfl ?_
      refine E_gh rfl ?_
      refine E_op0 (v' := (.bool (decide ((List.length r_b_00 : Int) < 4)))) rfl rfl ?_
      refine E_pf rfl rfl ?_
      refine E_nil ?_
      exact E_jx _ h (wk_rn [some (0, 0)] rfl (Nat.le_of_ble_eq_true rfl) ⟨(rn_obS rfl rfl (.cons (rn_b ((encI .u8).blws 0)) (.cons (rn_b rfl) (.nil (Nat.zero_le _)))) rfl), trivial⟩ ⟨(rn_ptr rfl rfl rfl rfl), (rn_b rfl), trivial⟩)
    · rw [ite_t hb] at h
      refine E_gm rfl ?_
      refine E_gm rfl ?_
      refine E_gm rfl ?_
      refine E_gm rfl ?_
      refine E_gm rfl ?_
      refine E_pt rfl rfl ?_
      refine E_nil ?_
      exact E_jx _ h (wk_rn [some (0, 0)] rfl (Nat.le_of_ble_eq_true rfl) ⟨(rn_obS rfl rfl (.cons (rn_b ((encI .u8).blws 0)) (.cons (rn_b rfl) (.nil (Nat.zero_le _)))) rfl), trivial⟩ ⟨(rn_ptr rfl rfl rfl rfl), (rn_b rfl), trivial⟩)
  · refine E_sq ?_
    refine E_cs (t := s_2) rfl (fun hb => ?_) (fun hb => ?_)
    · rw [ite_t hb] at h
      refine E_sq ?_
      refine E_reg ?_
      refine E_mv (v' := (.ptr 0 0 0)) rfl ?_
      refine E_op0 (v' := (.ptr 0 0 0)) rfl rfl ?_
      refine E_op0 (v' := (.ptr 0 0 1)) rfl rfl ?_
      refine E_do (S' := [.arr 0 [(.sl false 1 (List.map (avI .u8) r_b_00)), (.bool true)]]) rfl rfl ?_
      refine E_nil ?_
      refine E_nx ?_
      refine E_sq ?_
      refine E_reg ?_
      refine E_mv (v' := (.int .i64 0)) rfl ?_
      refine E_nil ?_
      refine E_nx ?_
      refine E_ret ?_
      refine E_thr ?_
      cases h
      exact ⟨trivial, _, _, rfl, gwk_rn [some (0, 0)] rfl (Nat.le_of_ble_eq_true rfl) ⟨(rn_obS rfl rfl (.cons (rn_b ((encI .u8).blws 0)) (.cons (rn_b rfl) (.nil (Nat.zero_le _)))) rfl), trivial⟩, (rn_b rfl)⟩
    · rw [ite_f hb] at h
      refine E_skip ?_
      refine E_nx ?_
      refine E_sq ?_
      refine E_reg ?_
      refine E_mv (v' := (.ptr 0 0 0)) rfl ?_
      refine E_op0 (v' := (.ptr 0 0 0)) rfl rfl ?_
      refine E_op0 (v' := (.ptr 0 0 0)) rfl rfl ?_
      refine E_op (v' := (.sl false 1 (List.map (avI .u8) r_b_00))) (S' := [.arr 0 [(.sl false 1 (List.map (avI .u8) r_b_00)), (.bool r_bad_00)]]) rfl rfl rfl ?_
      obtain ⟨y_3, hy_3, h⟩ := bd_some h
      refine E_iadF rfl rfl hy_3 ?_
      refine E_op0 (v' := (.int .u8 y_3)) rfl rfl ?_
      refine E_op0 (v' := (.int .i64 (I64 y_3))) rfl rfl ?_
      refine E_mv (v' := (.ptr 0 0 0)) rfl ?_
      refine E_op0 (v' := (.ptr 0 0 0)) rfl rfl ?_
      refine E_op0 (v' := (.ptr 0 0 0)) rfl rfl ?_
      refine E_op (v' := (.sl false 1 (List.map (avI .u8) r_b_00))) (S' := [.arr 0 [(.sl false 1 (List.map (avI .u8) r_b_00)), (.bool r_bad_00)]]) rfl rfl rfl ?_
      obtain ⟨y_4, hy_4, h⟩ := bd_some h
      refine E_iadF rfl rfl hy_4 ?_
      refine E_op0 (v' := (.int .u8 y_4)) rfl rfl ?_
      refine E_op0 (v' := (.int .i64 (I64 y_4))) rfl rfl ?_
      refine E_op0 (v' := (.int .i64 (shL .i64 (I64 y_4) 8))) rfl rfl ?_
      refine E_op0 (v' := (.int .i64 (bitOr .i64 (I64 y_3) (shL .i64 (I64 y_4) 8)))) rfl rfl ?_
      refine E_mv (v' := (.ptr 0 0 0)) rfl ?_
      refine E_op0 (v' := (.ptr 0 0 0)) rfl rfl ?_
      refine E_op0 (v' := (.ptr 0 0 0)) rfl rfl ?_
      refine E_op (v' := (.sl false 1 (List.map (avI .u8) r_b_00))) (S' := [.arr 0 [(.sl false 1 (List.map (avI .u8) r_b_00)), (.bool r_bad_00)]]) rfl rfl rfl ?_
      obtain ⟨y_5, hy_5, h⟩ := bd_some h
      refine E_iadF rfl rfl hy_5 ?_
      refine E_op0 (v' := (.int .u8 y_5)) rfl rfl ?_
      refine E_op0 (v' := (.int .i64 (I64 y_5))) rfl rfl ?_
      refine E_op0 (v' := (.int .i64 (shL .i64 (I64 y_5) 16))) rfl rfl ?_
      refine E_op0 (v' := (.int .i64 (bitOr .i64 (bitOr .i64 (I64 y_3) (shL .i64 (I64 y_4) 8)) (shL .i64 (I64 y_5) 16)))) rfl rfl ?_
      refine E_mv (v' := (.ptr 0 0 0)) rfl ?_
      refine E_op0 (v' := (.ptr 0 0 0)) rfl rfl ?_
      refine E_op0 (v' := (.ptr 0 0 0)) rfl rfl ?_
      refine E_op (v' := (.sl false 1 (List.map (avI .u8) r_b_00))) (S' := [.arr 0 [(.sl false 1 (List.map (avI .u8) r_b_00)), (.bool r_bad_00)]]) rfl rfl rfl ?_
      obtain ⟨y_6, hy_6, h⟩ := bd_some h
      refine E_iadF rfl rfl hy_6 ?_
      refine E_op0 (v' := (.int .u8 y_6)) rfl rfl ?_
      refine E_op0 (v' := (.int .i64 (I64 y_6))) rfl rfl ?_
      refine E_op0 (v' := (.int .i64 (shL .i64 (I64 y_6) 24))) rfl rfl ?_
      refine E_op0 (v' := (.int .i64 (bitOr .i64 (bitOr .i64 (bitOr .i64 (I64 y_3) (shL .i64 (I64 y_4) 8)) (shL .i64 (I64 y_5) 16)) (shL .i64 (I64 y_6) 24)))) rfl rfl ?_
      refine E_mv (v' := (.int .i64 (bitOr .i64 (bitOr .i64 (bitOr .i64 (I64 y_3) (shL .i64 (I64 y_4) 8)) (shL .i64 (I64 y_5) 16)) (shL .i64 (I64 y_6) 24)))) rfl ?_
      refine E_nil ?_
      refine E_nx ?_
      refine E_sq ?_
      refine E_reg ?_
      refine E_mv (v' := (.ptr 0 0 0)) rfl ?_
      refine E_mv (v' := (.ptr 0 0 0)) rfl ?_
      refine E_op0 (v' := (.ptr 0 0 0)) rfl rfl ?_
      refine E_op0 (v' := (.ptr 0 0 0)) rfl rfl ?_
      refine E_op (v' := (.sl false 1 (List.map (avI .u8) r_b_00))) (S' := [.arr 0 [(.sl false 1 (List.map (avI .u8) r_b_00)), (.bool r_bad_00)]]) rfl rfl rfl ?_
      obtain ⟨l_7, hl_7, h⟩ := bd_some h
      refine E_slcL rfl (fun h0 => loN_int h0) (fun _ => by simp [evO, hiN]) hl_7 ?_
      refine E_op0 (v' := (.ptr 0 0 0)) rfl rfl ?_
      refine E_op0 (v' := (.ptr 0 0 0)) rfl rfl ?_
      refine E_do (S' := [.arr 0 [(.sl false 1 (List.map (avI .u8) l_7)), (.bool r_bad_00)]]) rfl rfl ?_
      refine E_nil ?_
      refine E_nx ?_
      refine E_sq ?_
      refine E_reg ?_
      refine E_mv (v' := (.int .i64 (bitOr .i64 (bitOr .i64 (bitOr .i64 (I64 y_3) (shL .i64 (I64 y_4) 8)) (shL .i64 (I64 y_5) 16)) (shL .i64 (I64 y_6) 24)))) rfl ?_
      refine E_mv (v' := (.int .i64 (bitOr .i64 (bitOr .i64 (bitOr .i64 (I64 y_3) (shL .i64 (I64 y_4) 8)) (shL .i64 (I64 y_5) 16)) (shL .i64 (I64 y_6) 24)))) rfl ?_
      refine E_nil ?_
      refine E_nx ?_
      refine E_ret ?_
      cases h
      exact ⟨trivial, _, _, rfl, gwk_rn [some (0, 0)] rfl (Nat.le_of_ble_eq_true rfl) ⟨(rn_obS rfl rfl (.cons (rn_b ((encI .u8).blws 0)) (.cons (rn_b rfl) (.nil (Nat.zero_le _)))) rfl), trivial⟩, (rn_b rfl)⟩
/- (*windlass/tables.reader).count -/
def fc30 : FC := (.seq (.reg [⟨(some 2), none, .op (.mv (.v (.int .i64 0)))⟩] [])
  (.seq (.reg [⟨(some 4), none, .op (.mv (.t 0))⟩,
  ⟨(some 5), none, .call 31 [(.t 4)]⟩,
  ⟨(some 3), none, .op (.mv (.t 5))⟩] [])
  (.seq (.seq (.reg [⟨(some 6), none, .op (.mv (.t 3))⟩,
  ⟨(some 7), none, .op (.mv (.t 0))⟩,
  ⟨(some 8), none, .op (.nchk (.t 7))⟩,
  ⟨(some 9), none, .op (.fad 0 (.t 8))⟩,
  ⟨(some 10), none, .op (.load none (.t 9))⟩,
  ⟨(some 11), none, .op (.len .sl (.t 10))⟩,
  ⟨(some 12), none, .op (.bin .none .quo (.t 11) (.v (.int .i64 4)))⟩,
  ⟨(some 13), none, .op (.bin .none .gtr (.t 6) (.t 12))⟩] [])
  (.cond (.t 13)
  (.seq (.reg [⟨(some 14), none, .op (.mv (.t 0))⟩,
  ⟨(some 15), none, .op (.nchk (.t 14))⟩,
  ⟨(some 16), none, .op (.fad 1 (.t 15))⟩,
  ⟨none, none, .op (.store 1 (.t 16) (.v (.bool true)))⟩] [])
  (.seq (.reg [⟨(some 2), none, .op (.mv (.v (.int .i64 0)))⟩] [])
  .ret))
  .skip))
  (.seq (.reg [⟨(some 17), none, .op (.mv (.t 3))⟩,
  ⟨(some 2), none, .op (.mv (.t 17))⟩] [])
  .ret))))
theorem fn30 : Fn3 Try.prog 30 18 [(2, none)] fc30 := ⟨_, _, Try.func30, rfl, rfl, rfl, by kernel_rfl⟩
def tables_reader_count_pNN_s (r_b_00 : (List Int)) (r_bad_00 : Bool) : Option (Int × (List Int) × Bool) :=
  ((tables_reader_number_pNN_s r_b_00 r_bad_00).bind fun (num_1 : (Int × (List Int) × Bool)) => (if (decide (num_1.1 > (I64 (Int.tdiv (List.length num_1.2.1 : Int) 4)))) then (some (0, num_1.2.1, true)) else (some (num_1.1, num_1.2.1, num_1.2.2))))
theorem tables_reader_count_pNN_ev {r_b_00 : (List Int)} {r_bad_00 : Bool} {r : (Int × (List Int) × Bool)} (h : tables_reader_count_pNN_s r_b_00 r_bad_00 = some r) : Ev Try.prog 30 [(.ptr 0 0 0)] (hp [.arr 0 [(.sl false 1 (List.map (avI .u8) r_b_00)), (.bool r_bad_00)]]) (.int .i64 r.1) (hp [.arr 0 [(.sl false 1 (List.map (avI .u8) r.2.1)), (.bool r.2.2)]]) := by
  unfold tables_reader_count_pNN_s at h
  refine Ev_end mixed fn30 (by simp) [] ?_
  unfold fc30
  refine E_sq ?_
  refine E_reg ?_
  refine E_mv (v' := (.int .i64 0)) rfl ?_
  refine E_nil ?_
  refine E_nx ?_
  refine E_sq ?_
  refine E_reg ?_
  refine E_mv (v' := (.ptr 0 0 0)) rfl ?_
  obtain ⟨num_1, hnum_1, h⟩ := bd_some h
  refine E_callF (S' := [.arr 0 [(.sl false 1 (List.map (avI .u8) num_1.2.1)), (.bool num_1.2.2)]]) (r' := (.int .i64 num_1.1)) (tables_reader_number_pNN_ev hnum_1) [0] rfl rfl (by decide) rfl rfl ⟨(fr_in rfl rfl (.cons (.base ((encI .u8).blws 0) (.refl _)) (.cons (.base rfl (.refl _)) (.nil (Nat.zero_le _))))), trivial⟩ ⟨(fr_outS rfl rfl (.cons (rn_b ((encI .u8).blws 0)) (.cons (rn_b rfl) (.nil (Nat.zero_le _)))) rfl rfl), trivial⟩ ⟨.inl rfl, trivial⟩ rfl (.cons (fi_ptr rfl rfl rfl rfl) (.nil (Nat.zero_le _))) (rn_b rfl) ?_
  refine E_mv (v' := (.int .i64 num_1.1)) rfl ?_
  refine E_nil ?_
  refine E_nx ?_
  refine E_as ?_
  refine E_sq ?_
  refine E_reg ?_
  refine E_mv (v' := (.int .i64 num_1.1)) rfl ?_
  refine E_mv (v' := (.ptr 0 0 0)) rfl ?_
  refine E_op0 (v' := (.ptr 0 0 0)) rfl rfl ?_
  refine E_op0 (v' := (.ptr 0 0 0)) rfl rfl ?_
  refine E_op (v' := (.sl false 1 (List.map (avI .u8) num_1.2.1))) (S' := [.arr 0 [(.sl false 1 (List.map (avI .u8) num_1.2.1)), (.bool num_1.2.2)]]) rfl rfl rfl ?_
  refine E_len rfl ?_
  refine E_op0 (v' := (.int .i64 (I64 (Int.tdiv (List.length num_1.2.1 : Int) 4)))) rfl rfl ?_
  refine E_op0 (v' := (.bool (decide (num_1.1 > (I64 (Int.tdiv (List.length num_1.2.1 : Int) 4)))))) rfl rfl ?_
  refine E_nil ?_
  refine E_nx ?_
  refine E_sq ?_
  refine E_cs (t := (decide (num_1.1 > (I64 (Int.tdiv (List.length num_1.2.1 : Int) 4))))) rfl (fun hb => ?_) (fun hb => ?_)
  · rw [ite_t hb] at h
    refine E_sq ?_
    refine E_reg ?_
    refine E_mv (v' := (.ptr 0 0 0)) rfl ?_
    refine E_op0 (v' := (.ptr 0 0 0)) rfl rfl ?_
    refine E_op0 (v' := (.ptr 0 0 1)) rfl rfl ?_
    refine E_do (S' := [.arr 0 [(.sl false 1 (List.map (avI .u8) num_1.2.1)), (.bool true)]]) rfl rfl ?_
    refine E_nil ?_
    refine E_nx ?_
    refine E_sq ?_
    refine E_reg ?_
    refine E_mv (v' := (.int .i64 0)) rfl ?_
    refine E_nil ?_
    refine E_nx ?_
    refine E_ret ?_
    refine E_thr ?_
    cases h
    exact ⟨trivial, _, _, rfl, gwk_rn [some (0, 0)] rfl (Nat.le_of_ble_eq_true rfl) ⟨(rn_obS rfl rfl (.cons (rn_b ((encI .u8).blws 0)) (.cons (rn_b rfl) (.nil (Nat.zero_le _)))) rfl), trivial⟩, (rn_b rfl)⟩
  · rw [ite_f hb] at h
    refine E_skip ?_
    refine E_nx ?_
    refine E_sq ?_
    refine E_reg ?_
    refine E_mv (v' := (.int .i64 num_1.1)) rfl ?_
    refine E_mv (v' := (.int .i64 num_1.1)) rfl ?_
    refine E_nil ?_
    refine E_nx ?_
    refine E_ret ?_
    cases h
    exact ⟨trivial, _, _, rfl, gwk_rn [some (0, 0)] rfl (Nat.le_of_ble_eq_true rfl) ⟨(rn_obS rfl rfl (.cons (rn_b ((encI .u8).blws 0)) (.cons (rn_b rfl) (.nil (Nat.zero_le _)))) rfl), trivial⟩, (rn_b rfl)⟩
/- windlass/tables.Decode -/
def fc16 : FC := (.seq (.reg [⟨(some 2), none, .op (.new [.nils, .nils])⟩,
  ⟨(some 3), none, .op (.mv (.v (.int .i64 0)))⟩] [])
  (.seq (.reg [⟨(some 9), none, .op (.mv (.t 0))⟩,
  ⟨(some 10), none, .op (.build [.nils, (.bool false)] [(0, 1, (.t 9))])⟩,
  ⟨(some 11), none, .op (.box (.t 10))⟩,
  ⟨(some 4), none, .op (.mv (.t 11))⟩] [])
  (.seq (.reg [⟨(some 5), none, .op (.new [.nils, .nils])⟩] [])
  (.seq (.seq (.reg [⟨(some 12), none, .op (.mv (.t 4))⟩,
  ⟨(some 13), none, .call 30 [(.t 12)]⟩,
  ⟨(some 14), none, .op (.mv (.v (.int .i64 0)))⟩] [])
  (.block 0 (.loop (.seq (.reg [⟨(some 15), none, .op (.bin .none .lss (.t 14) (.t 13))⟩] [])
  (.seq (.cond (.t 15)
  .skip
  (.exit 0))
  (.seq (.block 1 (.seq (.reg [⟨(some 16), none, .op (.mv (.t 4))⟩,
  ⟨(some 17), none, .call 31 [(.t 16)]⟩,
  ⟨(some 18), none, .op (.mv (.t 4))⟩,
  ⟨(some 19), none, .call 31 [(.t 18)]⟩,
  ⟨(some 20), none, .op (.mv (.t 4))⟩,
  ⟨(some 21), none, .call 31 [(.t 20)]⟩,
  ⟨(some 22), none, .op (.mv (.t 4))⟩,
  ⟨(some 23), none, .call 31 [(.t 22)]⟩,
  ⟨(some 24), none, .op (.bin .none .sub (.t 23) (.v (.int .i64 1)))⟩,
  ⟨(some 25), none, .op (.build [(.int .i64 0), (.int .i64 0), (.int .i64 0), .nils, .nils, (.int .i64 0)] [(0, 1, (.t 17)), (1, 1, (.t 19)), (2, 1, (.t 21)), (5, 1, (.t 24))])⟩,
  ⟨(some 6), none, .op (.new [(.int .i64 0), (.int .i64 0), (.int .i64 0), .nils, .nils, (.int .i64 0)])⟩,
  ⟨none, none, .op (.store 6 (.t 6) (.t 25))⟩] [])
  (.seq (.seq (.reg [⟨(some 26), none, .op (.mv (.t 4))⟩,
  ⟨(some 27), none, .call 30 [(.t 26)]⟩,
  ⟨(some 28), none, .op (.mv (.v (.int .i64 0)))⟩] [])
  (.block 2 (.loop (.seq (.reg [⟨(some 29), none, .op (.bin .none .lss (.t 28) (.t 27))⟩] [])
  (.seq (.cond (.t 29)
  .skip
  (.exit 2))
  (.seq (.block 3 (.seq (.reg [⟨(some 30), none, .op (.mv (.t 4))⟩,
  ⟨(some 31), none, .call 31 [(.t 30)]⟩,
  ⟨(some 7), none, .op (.mv (.t 31))⟩] [])
  (.seq (.reg [⟨(some 32), none, .op (.mv (.t 4))⟩,
  ⟨(some 33), none, .op (.mv (.t 4))⟩,
  ⟨(some 34), none, .op (.nchk (.t 33))⟩,
  ⟨(some 35), none, .op (.fad 1 (.t 34))⟩,
  ⟨(some 36), none, .op (.load none (.t 35))⟩,
  ⟨(some 37), none, .op (.mv (.t 36))⟩,
  ⟨(some 38), some (37, false), .op (.mv (.t 7))⟩,
  ⟨(some 39), some (37, false), .op (.bin .none .gtr (.t 38) (.v (.int .i64 1)))⟩,
  ⟨(some 40), none, .op (.pick (.t 37) (.v (.bool true)) (.t 39))⟩,
  ⟨(some 41), none, .op (.nchk (.t 32))⟩,
  ⟨(some 42), none, .op (.fad 1 (.t 41))⟩,
  ⟨none, none, .op (.store 1 (.t 42) (.t 40))⟩] [])
  (.reg [⟨(some 43), none, .op (.fad 3 (.t 6))⟩,
  ⟨(some 44), none, .op (.load none (.t 43))⟩,
  ⟨(some 45), none, .op (.mv (.t 7))⟩,
  ⟨(some 46), none, .op (.bin .none .and (.t 45) (.v (.int .i64 1)))⟩,
  ⟨(some 47), none, .op (.cint .u8 (.t 46))⟩,
  ⟨(some 48), none, .op (.bsl none [(.int .u8 0)] 1 [(0, 1, (.t 47))])⟩,
  ⟨(some 49), none, .op (.app none 1 (.t 44) (.t 48))⟩,
  ⟨(some 50), none, .op (.fad 3 (.t 6))⟩,
  ⟨none, none, .op (.store 1 (.t 50) (.t 49))⟩] []))))
  (.reg [⟨(some 51), none, .op (.bin .none .add (.t 28) (.v (.int .i64 1)))⟩,
  ⟨(some 28), none, .op (.mv (.t 51))⟩] [])))))))
  (.seq (.seq (.reg [⟨(some 52), none, .op (.mv (.t 4))⟩,
  ⟨(some 53), none, .call 30 [(.t 52)]⟩,
  ⟨(some 54), none, .op (.mv (.v (.int .i64 0)))⟩] [])
  (.block 4 (.loop (.seq (.reg [⟨(some 55), none, .op (.bin .none .lss (.t 54) (.t 53))⟩] [])
  (.seq (.cond (.t 55)
  .skip
  (.exit 4))
  (.seq (.block 5 (.reg [⟨(some 56), none, .op (.fad 4 (.t 6))⟩,
  ⟨(some 57), none, .op (.load none (.t 56))⟩,
  ⟨(some 58), none, .op (.mv (.t 4))⟩,
  ⟨(some 59), none, .call 31 [(.t 58)]⟩,
  ⟨(some 60), none, .op (.mv (.t 4))⟩,
  ⟨(some 61), none, .call 31 [(.t 60)]⟩,
  ⟨(some 62), none, .op (.build [(.int .i64 0), (.int .i64 0)] [(0, 1, (.t 59)), (1, 1, (.t 61))])⟩,
  ⟨(some 63), none, .op (.bsl (some 2) [(.int .i64 0), (.int .i64 0)] 1 [(0, 2, (.t 62))])⟩,
  ⟨(some 64), none, .op (.app (some 2) 16 (.t 57) (.t 63))⟩,
  ⟨(some 65), none, .op (.fad 4 (.t 6))⟩,
  ⟨none, none, .op (.store 1 (.t 65) (.t 64))⟩] [(1, 3), (1, 5), (1, 7)]))
  (.reg [⟨(some 66), none, .op (.bin .none .add (.t 54) (.v (.int .i64 1)))⟩,
  ⟨(some 54), none, .op (.mv (.t 66))⟩] [])))))))
  (.reg [⟨(some 67), none, .op (.fad 0 (.t 5))⟩,
  ⟨(some 68), none, .op (.load none (.t 67))⟩,
  ⟨(some 69), none, .op (.load (some 6) (.t 6))⟩,
  ⟨(some 70), none, .op (.bsl (some 6) [(.int .i64 0), (.int .i64 0), (.int .i64 0), .nils, .nils, (.int .i64 0)] 1 [(0, 6, (.t 69))])⟩,
  ⟨(some 71), none, .op (.app (some 6) 80 (.t 68) (.t 70))⟩,
  ⟨(some 72), none, .op (.fad 0 (.t 5))⟩,
  ⟨none, none, .op (.store 1 (.t 72) (.t 71))⟩] [])))))
  (.reg [⟨(some 73), none, .op (.bin .none .add (.t 14) (.v (.int .i64 1)))⟩,
  ⟨(some 14), none, .op (.mv (.t 73))⟩] [])))))))
  (.seq (.seq (.reg [⟨(some 74), none, .op (.mv (.t 4))⟩,
  ⟨(some 75), none, .call 30 [(.t 74)]⟩,
  ⟨(some 76), none, .op (.mv (.v (.int .i64 0)))⟩] [])
  (.block 6 (.loop (.seq (.reg [⟨(some 77), none, .op (.bin .none .lss (.t 76) (.t 75))⟩] [])
  (.seq (.cond (.t 77)
  .skip
  (.exit 6))
  (.seq (.block 7 (.seq (.reg [⟨(some 78), none, .op (.mv (.t 4))⟩,
  ⟨(some 79), none, .call 31 [(.t 78)]⟩,
  ⟨(some 80), none, .op (.build [(.int .i64 0), .nils] [(0, 1, (.t 79))])⟩,
  ⟨(some 8), none, .op (.new [(.int .i64 0), .nils])⟩,
  ⟨none, none, .op (.store 2 (.t 8) (.t 80))⟩] [])
  (.seq (.seq (.reg [⟨(some 81), none, .op (.mv (.t 4))⟩,
  ⟨(some 82), none, .call 30 [(.t 81)]⟩,
  ⟨(some 83), none, .op (.mv (.v (.int .i64 0)))⟩] [])
  (.block 8 (.loop (.seq (.reg [⟨(some 84), none, .op (.bin .none .lss (.t 83) (.t 82))⟩] [])
  (.seq (.cond (.t 84)
  .skip
  (.exit 8))
  (.seq (.block 9 (.reg [⟨(some 85), none, .op (.fad 1 (.t 8))⟩,
  ⟨(some 86), none, .op (.load none (.t 85))⟩,
  ⟨(some 87), none, .op (.mv (.t 4))⟩,
  ⟨(some 88), none, .call 31 [(.t 87)]⟩,
  ⟨(some 89), none, .op (.bsl none [(.int .i64 0)] 1 [(0, 1, (.t 88))])⟩,
  ⟨(some 90), none, .op (.app none 8 (.t 86) (.t 89))⟩,
  ⟨(some 91), none, .op (.fad 1 (.t 8))⟩,
  ⟨none, none, .op (.store 1 (.t 91) (.t 90))⟩] [(1, 3), (1, 4)]))
  (.reg [⟨(some 92), none, .op (.bin .none .add (.t 83) (.v (.int .i64 1)))⟩,
  ⟨(some 83), none, .op (.mv (.t 92))⟩] [])))))))
  (.reg [⟨(some 93), none, .op (.fad 1 (.t 5))⟩,
  ⟨(some 94), none, .op (.load none (.t 93))⟩,
  ⟨(some 95), none, .op (.load (some 2) (.t 8))⟩,
  ⟨(some 96), none, .op (.bsl (some 2) [(.int .i64 0), .nils] 1 [(0, 2, (.t 95))])⟩,
  ⟨(some 97), none, .op (.app (some 2) 32 (.t 94) (.t 96))⟩,
  ⟨(some 98), none, .op (.fad 1 (.t 5))⟩,
  ⟨none, none, .op (.store 1 (.t 98) (.t 97))⟩] []))))
  (.reg [⟨(some 99), none, .op (.bin .none .add (.t 76) (.v (.int .i64 1)))⟩,
  ⟨(some 76), none, .op (.mv (.t 99))⟩] [])))))))
  (.seq (.seq (.reg [⟨(some 100), none, .op (.mv (.t 4))⟩,
  ⟨(some 101), none, .op (.nchk (.t 100))⟩,
  ⟨(some 102), none, .op (.fad 1 (.t 101))⟩,
  ⟨(some 103), none, .op (.load none (.t 102))⟩,
  ⟨(some 104), none, .op (.mv (.t 103))⟩,
  ⟨(some 105), some (104, false), .op (.mv (.t 4))⟩,
  ⟨(some 106), some (104, false), .op (.nchk (.t 105))⟩,
  ⟨(some 107), some (104, false), .op (.fad 0 (.t 106))⟩,
  ⟨(some 108), some (104, false), .op (.load none (.t 107))⟩,
  ⟨(some 109), some (104, false), .op (.len .sl (.t 108))⟩,
  ⟨(some 110), some (104, false), .op (.bin .none .gtr (.t 109) (.v (.int .i64 0)))⟩,
  ⟨(some 111), none, .op (.pick (.t 104) (.v (.bool true)) (.t 110))⟩,
  ⟨(some 112), none, .op (.mv (.t 111))⟩,
  ⟨(some 113), some (112, false), .op (.load (some 2) (.t 5))⟩,
  ⟨(some 114), some (112, false), .call 9 [(.t 113)]⟩,
  ⟨(some 115), some (112, false), .op (.bin .none .neq (.t 114) (.v (.int .i64 0)))⟩,
  ⟨(some 116), none, .op (.pick (.t 112) (.v (.bool true)) (.t 115))⟩] [])
  (.cond (.t 116)
  (.seq (.reg [⟨(some 117), none, .op (.build [.nils, .nils] [])⟩,
  ⟨none, none, .op (.store 2 (.t 2) (.t 117))⟩,
  ⟨(some 3), none, .op (.mv (.v (.int .i64 190)))⟩] [])
  .ret)
  .skip))
  (.seq (.reg [⟨(some 118), none, .op (.load (some 2) (.t 5))⟩,
  ⟨none, none, .op (.store 2 (.t 2) (.t 118))⟩,
  ⟨(some 3), none, .op (.mv (.v (.int .i64 0)))⟩] [])
  .ret)))))))
theorem fn16 : Fn3 Try.prog 16 119 [(2, (some (some 2))), (3, none)] fc16 := ⟨_, _, Try.func16, rfl, rfl, rfl, by kernel_rfl⟩
def tables_Decode_s (b_00 : (List Int)) : Option (Tables × Int) :=
  ((tables_reader_count_pNN_s b_00 false).bind fun (cou_1 : (Int × (List Int) × Bool)) => ((rni (fun (i_3 : Nat) (s_2 : ((List Int) × Bool × (List FuncRow))) => (((tables_reader_number_pNN_s s_2.1 s_2.2.1).bind fun (num_4 : (Int × (List Int) × Bool)) => ((tables_reader_number_pNN_s num_4.2.1 num_4.2.2).bind fun (num_5 : (Int × (List Int) × Bool)) => ((tables_reader_number_pNN_s num_5.2.1 num_5.2.2).bind fun (num_6 : (Int × (List Int) × Bool)) => ((tables_reader_number_pNN_s num_6.2.1 num_6.2.2).bind fun (num_7 : (Int × (List Int) × Bool)) => ((tables_reader_count_pNN_s num_7.2.1 num_7.2.2).bind fun (cou_8 : (Int × (List Int) × Bool)) => ((rni (fun (i_10 : Nat) (s_9 : ((List Int) × Bool × (List Int))) => (((tables_reader_number_pNN_s s_9.1 s_9.2.1).bind fun (num_11 : (Int × (List Int) × Bool)) => (jp (fun (s_13 : Bool) => ((appL 1 s_9.2.2 [(U8 (bitAnd .i64 num_11.1 1))]).bind fun l_14 => (some (.nxt (num_11.2.1, s_13, l_14))))) (fun k_12 => (if num_11.2.2 then (k_12 true) else (k_12 (decide (num_11.1 > 1))))))) : Option (Stp ((List Int) × Bool × (List Int)) (Option (Stp ((List Int) × Bool × (List FuncRow)) (Option (Tables × Int))))))) cou_8.1 (cou_8.2.1, cou_8.2.2, [])).bind (oc (fun (s_9 : ((List Int) × Bool × (List Int))) => ((tables_reader_count_pNN_s s_9.1 s_9.2.1).bind fun (cou_15 : (Int × (List Int) × Bool)) => ((rni (fun (i_17 : Nat) (s_16 : ((List Int) × Bool × (List Save))) => (((tables_reader_number_pNN_s s_16.1 s_16.2.1).bind fun (num_18 : (Int × (List Int) × Bool)) => ((tables_reader_number_pNN_s num_18.2.1 num_18.2.2).bind fun (num_19 : (Int × (List Int) × Bool)) => ((appL 16 s_16.2.2 [(Save.mk num_18.1 num_19.1)]).bind fun l_20 => (some (.nxt (num_19.2.1, num_19.2.2, l_20)))))) : Option (Stp ((List Int) × Bool × (List Save)) (Option (Stp ((List Int) × Bool × (List FuncRow)) (Option (Tables × Int))))))) cou_15.1 (cou_15.2.1, cou_15.2.2, [])).bind (oc (fun (s_16 : ((List Int) × Bool × (List Save))) => ((appL 80 s_2.2.2 [(FuncRow.mk num_4.1 num_5.1 num_6.1 s_9.2.2 s_16.2.2 (I64 (num_7.1 - 1)))]).bind fun l_21 => (some (.nxt (s_16.1, s_16.2.1, l_21)))))))))))))))) : Option (Stp ((List Int) × Bool × (List FuncRow)) (Option (Tables × Int))))) cou_1.1 (cou_1.2.1, cou_1.2.2, [])).bind (oc (fun (s_2 : ((List Int) × Bool × (List FuncRow))) => ((tables_reader_count_pNN_s s_2.1 s_2.2.1).bind fun (cou_22 : (Int × (List Int) × Bool)) => ((rni (fun (i_24 : Nat) (s_23 : ((List Int) × Bool × (List Site))) => (((tables_reader_number_pNN_s s_23.1 s_23.2.1).bind fun (num_25 : (Int × (List Int) × Bool)) => ((tables_reader_count_pNN_s num_25.2.1 num_25.2.2).bind fun (cou_26 : (Int × (List Int) × Bool)) => ((rni (fun (i_28 : Nat) (s_27 : ((List Int) × Bool × (List Int))) => (((tables_reader_number_pNN_s s_27.1 s_27.2.1).bind fun (num_29 : (Int × (List Int) × Bool)) => ((appL 8 s_27.2.2 [num_29.1]).bind fun l_30 => (some (.nxt (num_29.2.1, num_29.2.2, l_30))))) : Option (Stp ((List Int) × Bool × (List Int)) (Option (Stp ((List Int) × Bool × (List Site)) (Option (Tables × Int))))))) cou_26.1 (cou_26.2.1, cou_26.2.2, [])).bind (oc (fun (s_27 : ((List Int) × Bool × (List Int))) => ((appL 32 s_23.2.2 [(Site.mk num_25.1 s_27.2.2)]).bind fun l_31 => (some (.nxt (s_27.1, s_27.2.1, l_31))))))))) : Option (Stp ((List Int) × Bool × (List Site)) (Option (Tables × Int))))) cou_22.1 (cou_22.2.1, cou_22.2.2, [])).bind (oc (fun (s_23 : ((List Int) × Bool × (List Site))) => (jp (fun (s_33 : Bool) => (if s_33 then (some ((Tables.mk [] []), 190)) else (some ((Tables.mk s_2.2.2 s_23.2.2), 0)))) (fun k_32 => (if s_23.2.1 then (k_32 true) else (if (decide ((List.length s_23.1 : Int) > 0)) then (k_32 true) else ((tables_Check_s (Tables.mk s_2.2.2 s_23.2.2)).bind fun che_34 => (k_32 (che_34 != 0)))))))))))))))
theorem tables_Decode_ev {b_00 : (List Int)} {r : (Tables × Int)} (h : tables_Decode_s b_00 = some r) : PureEv Try.prog 16 [(.sl false 1 (List.map (avI .u8) b_00))] (.tup [(Tables.av r.1), (.int .i64 r.2)]) := by
  unfold tables_Decode_s at h
  refine PureEv_end mixed fn16 (by simp) [2, 5, 6, 8, 11, 49, 64, 71, 90, 97] 6 ?_
  unfold fc16
  refine E_sq ?_
  refine E_reg ?_
  refine E_op (v' := .ptr 0 0 0) (S' := [.arr 0 [.nils, .nils]]) rfl rfl rfl ?_
  refine E_mv (v' := (.int .i64 0)) rfl ?_
  refine E_nil ?_
  refine E_nx ?_
  refine E_sq ?_
  refine E_reg ?_
  refine E_mv (v' := (.sl false 1 (List.map (avI .u8) b_00))) rfl ?_
  refine E_opw (v' := (Tables_reader.av (Tables_reader.mk b_00 false))) rfl (.aggL ⟨(.refl _), (.refl _), trivial⟩) rfl ?_
  refine E_op (v' := .ptr 1 0 0) (S' := [.arr 0 [.nils, .nils], .arr 0 [(.sl false 1 (List.map (avI .u8) b_00)), (.bool false)]]) rfl rfl rfl ?_
  refine E_mv (v' := (.ptr 1 0 0)) rfl ?_
  refine E_nil ?_
  refine E_nx ?_
  refine E_sq ?_
  refine E_reg ?_
  refine E_op (v' := .ptr 2 0 0) (S' := [.arr 0 [.nils, .nils], .arr 0 [(.sl false 1 (List.map (avI .u8) b_00)), (.bool false)], .arr 0 [.nils, .nils]]) rfl rfl rfl ?_
  refine E_nil ?_
  refine E_nx ?_
  refine E_as ?_
  refine E_sq ?_
  refine E_reg ?_
  refine E_mv (v' := (.ptr 1 0 0)) rfl ?_
  obtain ⟨cou_1, hcou_1, h⟩ := bd_some h
  refine E_callF (S' := [.arr 0 [.nils, .nils], .arr 0 [(.sl false 1 (List.map (avI .u8) cou_1.2.1)), (.bool cou_1.2.2)], .arr 0 [.nils, .nils]]) (r' := (.int .i64 cou_1.1)) (tables_reader_count_pNN_ev hcou_1) [1] rfl rfl (by decide) rfl rfl ⟨(fr_in rfl rfl (.cons (.base ((encI .u8).blws 0) (.refl _)) (.cons (.base rfl (.refl _)) (.nil (Nat.zero_le _))))), trivial⟩ ⟨(fr_outS rfl rfl (.cons (rn_b ((encI .u8).blws 0)) (.cons (rn_b rfl) (.nil (Nat.zero_le _)))) rfl rfl), trivial⟩ ⟨.inr rfl, .inl rfl, .inr rfl, trivial⟩ rfl (.cons (fi_ptr rfl rfl rfl rfl) (.nil (Nat.zero_le _))) (rn_b rfl) ?_
  refine E_mv (v' := (.int .i64 0)) rfl ?_
  refine E_nil ?_
  refine E_nx ?_
  refine E_sq ?_
  refine E_rniO (fun s_2 => [(2, (.ptr 0 0 0)), (4, (.ptr 1 0 0)), (5, (.ptr 2 0 0))]) (fun s_2 => [.arr 0 [.nils, .nils], .arr 0 [(.sl false 1 (List.map (avI .u8) s_2.1)), (.bool s_2.2.1)], .arr 0 [(.ref 3 1 0 (List.length s_2.2.2) (some 6)), .nils], .arr 1 (flat FuncRow.av s_2.2.2)]) h (by decide) (by decide) (fun _ => ⟨rfl, rfl, rfl, rfl⟩) (wk_rn [some (0, 0), some (1, 0), some (2, 0), none] rfl (Nat.le_of_ble_eq_true rfl) ⟨(rn_ob rfl rfl (.cons (rn_b rfl) (.cons (rn_b rfl) (.nil (Nat.zero_le _)))) rfl), (rn_ob rfl rfl (.cons (rn_b ((encI .u8).blws 0)) (.cons (rn_b rfl) (.nil (Nat.zero_le _)))) rfl), (rn_ob rfl rfl (.cons (rn_nil rfl) (.cons (rn_b rfl) (.nil (Nat.zero_le _)))) rfl), (rn_obN rfl rfl rfl), trivial⟩ ⟨(rn_b rfl), (rn_b rfl), (rn_ptr rfl rfl rfl rfl), (rn_ptr rfl rfl rfl rfl), (rn_ptr rfl rfl rfl rfl), trivial⟩) (fun i_3 s_2 c hlt h => ?_) (fun s_2 fr' S' h hw => ?_)
  · refine E_sq ?_
    refine E_reg ?_
    refine E_mv (v' := (.ptr 1 0 0)) rfl ?_
    obtain ⟨num_4, hnum_4, h⟩ := bd_some h
    refine E_callF (S' := [.arr 0 [.nils, .nils], .arr 0 [(.sl false 1 (List.map (avI .u8) num_4.2.1)), (.bool num_4.2.2)], .arr 0 [(.ref 3 1 0 (List.length s_2.2.2) (some 6)), .nils], .arr 1 (flat FuncRow.av s_2.2.2)]) (r' := (.int .i64 num_4.1)) (tables_reader_number_pNN_ev hnum_4) [1] rfl rfl (by decide) rfl rfl ⟨(fr_in rfl rfl (.cons (.base ((encI .u8).blws 0) (.refl _)) (.cons (.base rfl (.refl _)) (.nil (Nat.zero_le _))))), trivial⟩ ⟨(fr_outS rfl rfl (.cons (rn_b ((encI .u8).blws 0)) (.cons (rn_b rfl) (.nil (Nat.zero_le _)))) rfl rfl), trivial⟩ ⟨.inr rfl, .inl rfl, .inr rfl, .inr rfl, trivial⟩ rfl (.cons (fi_ptr rfl rfl rfl rfl) (.nil (Nat.zero_le _))) (rn_b rfl) ?_
    refine E_mv (v' := (.ptr 1 0 0)) rfl ?_
    obtain ⟨num_5, hnum_5, h⟩ := bd_some h
    refine E_callF (S' := [.arr 0 [.nils, .nils], .arr 0 [(.sl false 1 (List.map (avI .u8) num_5.2.1)), (.bool num_5.2.2)], .arr 0 [(.ref 3 1 0 (List.length s_2.2.2) (some 6)), .nils], .arr 1 (flat FuncRow.av s_2.2.2)]) (r' := (.int .i64 num_5.1)) (tables_reader_number_pNN_ev hnum_5) [1] rfl rfl (by decide) rfl rfl ⟨(fr_in rfl rfl (.cons (.base ((encI .u8).blws 0) (.refl _)) (.cons (.base rfl (.refl _)) (.nil (Nat.zero_le _))))), trivial⟩ ⟨(fr_outS rfl rfl (.cons (rn_b ((encI .u8).blws 0)) (.cons (rn_b rfl) (.nil (Nat.zero_le _)))) rfl rfl), trivial⟩ ⟨.inr rfl, .inl rfl, .inr rfl, .inr rfl, trivial⟩ rfl (.cons (fi_ptr rfl rfl rfl rfl) (.nil (Nat.zero_le _))) (rn_b rfl) ?_
    refine E_mv (v' := (.ptr 1 0 0)) rfl ?_
    obtain ⟨num_6, hnum_6, h⟩ := bd_some h
    refine E_callF (S' := [.arr 0 [.nils, .nils], .arr 0 [(.sl false 1 (List.map (avI .u8) num_6.2.1)), (.bool num_6.2.2)], .arr 0 [(.ref 3 1 0 (List.length s_2.2.2) (some 6)), .nils], .arr 1 (flat FuncRow.av s_2.2.2)]) (r' := (.int .i64 num_6.1)) (tables_reader_number_pNN_ev hnum_6) [1] rfl rfl (by decide) rfl rfl ⟨(fr_in rfl rfl (.cons (.base ((encI .u8).blws 0) (.refl _)) (.cons (.base rfl (.refl _)) (.nil (Nat.zero_le _))))), trivial⟩ ⟨(fr_outS rfl rfl (.cons (rn_b ((encI .u8).blws 0)) (.cons (rn_b rfl) (.nil (Nat.zero_le _)))) rfl rfl), trivial⟩ ⟨.inr rfl, .inl rfl, .inr rfl, .inr rfl, trivial⟩ rfl (.cons (fi_ptr rfl rfl rfl rfl) (.nil (Nat.zero_le _))) (rn_b rfl) ?_
    refine E_mv (v' := (.ptr 1 0 0)) rfl ?_
    obtain ⟨num_7, hnum_7, h⟩ := bd_some h
    refine E_callF (S' := [.arr 0 [.nils, .nils], .arr 0 [(.sl false 1 (List.map (avI .u8) num_7.2.1)), (.bool num_7.2.2)], .arr 0 [(.ref 3 1 0 (List.length s_2.2.2) (some 6)), .nils], .arr 1 (flat FuncRow.av s_2.2.2)]) (r' := (.int .i64 num_7.1)) (tables_reader_number_pNN_ev hnum_7) [1] rfl rfl (by decide) rfl rfl ⟨(fr_in rfl rfl (.cons (.base ((encI .u8).blws 0) (.refl _)) (.cons (.base rfl (.refl _)) (.nil (Nat.zero_le _))))), trivial⟩ ⟨(fr_outS rfl rfl (.cons (rn_b ((encI .u8).blws 0)) (.cons (rn_b rfl) (.nil (Nat.zero_le _)))) rfl rfl), trivial⟩ ⟨.inr rfl, .inl rfl, .inr rfl, .inr rfl, trivial⟩ rfl (.cons (fi_ptr rfl rfl rfl rfl) (.nil (Nat.zero_le _))) (rn_b rfl) ?_
    refine E_op0 (v' := (.int .i64 (I64 (num_7.1 - 1)))) rfl rfl ?_
    refine E_op0 (v' := (.agg [(.int .i64 num_4.1), (.int .i64 num_5.1), (.int .i64 num_6.1), .nils, .nils, (.int .i64 (I64 (num_7.1 - 1)))])) rfl rfl ?_
    refine E_op (v' := .ptr 4 0 0) (S' := [.arr 0 [.nils, .nils], .arr 0 [(.sl false 1 (List.map (avI .u8) num_7.2.1)), (.bool num_7.2.2)], .arr 0 [(.ref 3 1 0 (List.length s_2.2.2) (some 6)), .nils], .arr 1 (flat FuncRow.av s_2.2.2), .arr 0 [(.int .i64 0), (.int .i64 0), (.int .i64 0), .nils, .nils, (.int .i64 0)]]) rfl rfl rfl ?_
    refine E_do (S' := [.arr 0 [.nils, .nils], .arr 0 [(.sl false 1 (List.map (avI .u8) num_7.2.1)), (.bool num_7.2.2)], .arr 0 [(.ref 3 1 0 (List.length s_2.2.2) (some 6)), .nils], .arr 1 (flat FuncRow.av s_2.2.2), .arr 0 [(.int .i64 num_4.1), (.int .i64 num_5.1), (.int .i64 num_6.1), .nils, .nils, (.int .i64 (I64 (num_7.1 - 1)))]]) rfl rfl ?_
    refine E_nil ?_
    refine E_nx ?_
    refine E_as ?_
    refine E_sq ?_
    refine E_reg ?_
    refine E_mv (v' := (.ptr 1 0 0)) rfl ?_
    obtain ⟨cou_8, hcou_8, h⟩ := bd_some h
    refine E_callF (S' := [.arr 0 [.nils, .nils], .arr 0 [(.sl false 1 (List.map (avI .u8) cou_8.2.1)), (.bool cou_8.2.2)], .arr 0 [(.ref 3 1 0 (List.length s_2.2.2) (some 6)), .nils], .arr 1 (flat FuncRow.av s_2.2.2), .arr 0 [(.int .i64 num_4.1), (.int .i64 num_5.1), (.int .i64 num_6.1), .nils, .nils, (.int .i64 (I64 (num_7.1 - 1)))]]) (r' := (.int .i64 cou_8.1)) (tables_reader_count_pNN_ev hcou_8) [1] rfl rfl (by decide) rfl rfl ⟨(fr_in rfl rfl (.cons (.base ((encI .u8).blws 0) (.refl _)) (.cons (.base rfl (.refl _)) (.nil (Nat.zero_le _))))), trivial⟩ ⟨(fr_outS rfl rfl (.cons (rn_b ((encI .u8).blws 0)) (.cons (rn_b rfl) (.nil (Nat.zero_le _)))) rfl rfl), trivial⟩ ⟨.inr rfl, .inl rfl, .inr rfl, .inr rfl, .inr rfl, trivial⟩ rfl (.cons (fi_ptr rfl rfl rfl rfl) (.nil (Nat.zero_le _))) (rn_b rfl) ?_
    refine E_mv (v' := (.int .i64 0)) rfl ?_
    refine E_nil ?_
    refine E_nx ?_
    refine E_sq ?_
    refine E_rniO (fun s_9 => [(2, (.ptr 0 0 0)), (4, (.ptr 1 0 0)), (5, (.ptr 2 0 0)), (6, (.ptr 4 0 0)), (13, (.int .i64 cou_1.1)), (14, (.int .i64 (i_3 : Int)))]) (fun s_9 => [.arr 0 [.nils, .nils], .arr 0 [(.sl false 1 (List.map (avI .u8) s_9.1)), (.bool s_9.2.1)], .arr 0 [(.ref 3 1 0 (List.length s_2.2.2) (some 6)), .nils], .arr 1 (flat FuncRow.av s_2.2.2), .arr 0 [(.int .i64 num_4.1), (.int .i64 num_5.1), (.int .i64 num_6.1), (.ref 5 1 0 (List.length s_9.2.2) none), .nils, (.int .i64 (I64 (num_7.1 - 1)))], .arr 1 (flat (avI .u8) s_9.2.2)]) h (by decide) (by decide) (fun _ => ⟨rfl, rfl, rfl, rfl⟩) (wk_rn [some (0, 0), some (1, 0), some (2, 0), some (3, 0), some (4, 0), none] rfl (Nat.le_of_ble_eq_true rfl) ⟨(rn_ob rfl rfl (.cons (rn_b rfl) (.cons (rn_b rfl) (.nil (Nat.zero_le _)))) rfl), (rn_ob rfl rfl (.cons (rn_b ((encI .u8).blws 0)) (.cons (rn_b rfl) (.nil (Nat.zero_le _)))) rfl), (rn_ob rfl rfl (.cons (rn_refL FuncRow.enc rfl rfl rfl) (.cons (rn_b rfl) (.nil (Nat.zero_le _)))) rfl), (rn_ob rfl rfl (.refl (FuncRow.enc.blwf 0 _)) rfl), (rn_ob rfl rfl (.cons (rn_b rfl) (.cons (rn_b rfl) (.cons (rn_b rfl) (.cons (rn_nil rfl) (.cons (rn_b rfl) (.cons (rn_b rfl) (.nil (Nat.zero_le _)))))))) rfl), (rn_obN rfl rfl rfl), trivial⟩ ⟨(rn_b rfl), (rn_b rfl), (rn_ptr rfl rfl rfl rfl), (rn_ptr rfl rfl rfl rfl), (rn_ptr rfl rfl rfl rfl), (rn_ptr rfl rfl rfl rfl), (rn_b rfl), (rn_b rfl), trivial⟩) (fun i_10 s_9 c hlt h => ?_) (fun s_9 fr' S' h hw => ?_)
    · refine E_sq ?_
      refine E_reg ?_
      refine E_mv (v' := (.ptr 1 0 0)) rfl ?_
      obtain ⟨num_11, hnum_11, h⟩ := bd_some h
      refine E_callF (S' := [.arr 0 [.nils, .nils], .arr 0 [(.sl false 1 (List.map (avI .u8) num_11.2.1)), (.bool num_11.2.2)], .arr 0 [(.ref 3 1 0 (List.length s_2.2.2) (some 6)), .nils], .arr 1 (flat FuncRow.av s_2.2.2), .arr 0 [(.int .i64 num_4.1), (.int .i64 num_5.1), (.int .i64 num_6.1), (.ref 5 1 0 (List.length s_9.2.2) none), .nils, (.int .i64 (I64 (num_7.1 - 1)))], .arr 1 (flat (avI .u8) s_9.2.2)]) (r' := (.int .i64 num_11.1)) (tables_reader_number_pNN_ev hnum_11) [1] rfl rfl (by decide) rfl rfl ⟨(fr_in rfl rfl (.cons (.base ((encI .u8).blws 0) (.refl _)) (.cons (.base rfl (.refl _)) (.nil (Nat.zero_le _))))), trivial⟩ ⟨(fr_outS rfl rfl (.cons (rn_b ((encI .u8).blws 0)) (.cons (rn_b rfl) (.nil (Nat.zero_le _)))) rfl rfl), trivial⟩ ⟨.inr rfl, .inl rfl, .inr rfl, .inr rfl, .inr rfl, .inr rfl, trivial⟩ rfl (.cons (fi_ptr rfl rfl rfl rfl) (.nil (Nat.zero_le _))) (rn_b rfl) ?_
      refine E_mv (v' := (.int .i64 num_11.1)) rfl ?_
      refine E_nil ?_
      refine E_nx ?_
      refine E_jp h (fun s_13 => [(2, (.ptr 0 0 0)), (4, (.ptr 1 0 0)), (5, (.ptr 2 0 0)), (6, (.ptr 4 0 0)), (7, (.int .i64 num_11.1)), (13, (.int .i64 cou_1.1)), (14, (.int .i64 (i_3 : Int))), (27, (.int .i64 cou_8.1)), (28, (.int .i64 (i_10 : Int)))]) (fun s_13 => [.arr 0 [.nils, .nils], .arr 0 [(.sl false 1 (List.map (avI .u8) num_11.2.1)), (.bool s_13)], .arr 0 [(.ref 3 1 0 (List.length s_2.2.2) (some 6)), .nils], .arr 1 (flat FuncRow.av s_2.2.2), .arr 0 [(.int .i64 num_4.1), (.int .i64 num_5.1), (.int .i64 num_6.1), (.ref 5 1 0 (List.length s_9.2.2) none), .nils, (.int .i64 (I64 (num_7.1 - 1)))], .arr 1 (flat (avI .u8) s_9.2.2)]) (fun k_12 h => ?_) (fun s_13 h => ?_)
      · refine E_reg ?_
        refine E_mv (v' := (.ptr 1 0 0)) rfl ?_
        refine E_mv (v' := (.ptr 1 0 0)) rfl ?_
        refine E_op0 (v' := (.ptr 1 0 0)) rfl rfl ?_
        refine E_op0 (v' := (.ptr 1 0 1)) rfl rfl ?_
        refine E_op (v' := (.bool num_11.2.2)) (S' := [.arr 0 [.nils, .nils], .arr 0 [(.sl false 1 (List.map (avI .u8) num_11.2.1)), (.bool num_11.2.2)], .arr 0 [(.ref 3 1 0 (List.length s_2.2.2) (some 6)), .nils], .arr 1 (flat FuncRow.av s_2.2.2), .arr 0 [(.int .i64 num_4.1), (.int .i64 num_5.1), (.int .i64 num_6.1), (.ref 5 1 0 (List.length s_9.2.2) none), .nils, (.int .i64 (I64 (num_7.1 - 1)))], .arr 1 (flat (avI .u8) s_9.2.2)]) rfl rfl rfl ?_
        refine E_mv (v' := (.bool num_11.2.2)) rfl ?_
        refine E_gsT (b := num_11.2.2) rfl rfl rfl (fun hb => ?_) (fun hb => ?_)
        · rw [ite_f hb] at h
          refine E_mv (v' := (.int .i64 num_11.1)) rfl ?_
          refine E_gh rfl ?_
          refine E_op0 (v' := (.bool (decide (num_11.1 > 1)))) rfl rfl ?_
          refine E_pf rfl rfl ?_
          refine E_op0 (v' := (.ptr 1 0 0)) rfl rfl ?_
          refine E_op0 (v' := (.ptr 1 0 1)) rfl rfl ?_
          refine E_do (S' := [.arr 0 [.nils, .nils], .arr 0 [(.sl false 1 (List.map (avI .u8) num_11.2.1)), (.bool (decide (num_11.1 > 1)))], .arr 0 [(.ref 3 1 0 (List.length s_2.2.2) (some 6)), .nils], .arr 1 (flat FuncRow.av s_2.2.2), .arr 0 [(.int .i64 num_4.1), (.int .i64 num_5.1), (.int .i64 num_6.1), (.ref 5 1 0 (List.length s_9.2.2) none), .nils, (.int .i64 (I64 (num_7.1 - 1)))], .arr 1 (flat (avI .u8) s_9.2.2)]) rfl rfl ?_
          refine E_nil ?_
          exact E_jx _ h (wk_rn [some (0, 0), some (1, 0), some (2, 0), some (3, 0), some (4, 0), some (5, 0)] rfl (Nat.le_of_ble_eq_true rfl) ⟨(rn_ob rfl rfl (.cons (rn_b rfl) (.cons (rn_b rfl) (.nil (Nat.zero_le _)))) rfl), (rn_ob rfl rfl (.cons (rn_b ((encI .u8).blws 0)) (.cons (rn_b rfl) (.nil (Nat.zero_le _)))) rfl), (rn_ob rfl rfl (.cons (rn_refL FuncRow.enc rfl rfl rfl) (.cons (rn_b rfl) (.nil (Nat.zero_le _)))) rfl), (rn_ob rfl rfl (.refl (FuncRow.enc.blwf 0 _)) rfl), (rn_ob rfl rfl (.cons (rn_b rfl) (.cons (rn_b rfl) (.cons (rn_b rfl) (.cons (rn_refL (encI .u8) rfl rfl rfl) (.cons (rn_b rfl) (.cons (rn_b rfl) (.nil (Nat.zero_le _)))))))) rfl), (rn_ob rfl rfl (.refl ((encI .u8).blwf 0 _)) rfl), trivial⟩ ⟨(rn_ptr rfl rfl rfl rfl), (rn_ptr rfl rfl rfl rfl), (rn_ptr rfl rfl rfl rfl), (rn_ptr rfl rfl rfl rfl), (rn_b rfl), (rn_b rfl), (rn_b rfl), (rn_b rfl), (rn_b rfl), trivial⟩)
        · rw [ite_t hb] at h
          refine E_gm rfl ?_
          refine E_pt rfl rfl ?_
          refine E_op0 (v' := (.ptr 1 0 0)) rfl rfl ?_
          refine E_op0 (v' := (.ptr 1 0 1)) rfl rfl ?_
          refine E_do (S' := [.arr 0 [.nils, .nils], .arr 0 [(.sl false 1 (List.map (avI .u8) num_11.2.1)), (.bool true)], .arr 0 [(.ref 3 1 0 (List.length s_2.2.2) (some 6)), .nils], .arr 1 (flat FuncRow.av s_2.2.2), .arr 0 [(.int .i64 num_4.1), (.int .i64 num_5.1), (.int .i64 num_6.1), (.ref 5 1 0 (List.length s_9.2.2) none), .nils, (.int .i64 (I64 (num_7.1 - 1)))], .arr 1 (flat (avI .u8) s_9.2.2)]) rfl rfl ?_
          refine E_nil ?_
          exact E_jx _ h (wk_rn [some (0, 0), some (1, 0), some (2, 0), some (3, 0), some (4, 0), some (5, 0)] rfl (Nat.le_of_ble_eq_true rfl) ⟨(rn_ob rfl rfl (.cons (rn_b rfl) (.cons (rn_b rfl) (.nil (Nat.zero_le _)))) rfl), (rn_ob rfl rfl (.cons (rn_b ((encI .u8).blws 0)) (.cons (rn_b rfl) (.nil (Nat.zero_le _)))) rfl), (rn_ob rfl rfl (.cons (rn_refL FuncRow.enc rfl rfl rfl) (.cons (rn_b rfl) (.nil (Nat.zero_le _)))) rfl), (rn_ob rfl rfl (.refl (FuncRow.enc.blwf 0 _)) rfl), (rn_ob rfl rfl (.cons (rn_b rfl) (.cons (rn_b rfl) (.cons (rn_b rfl) (.cons (rn_refL (encI .u8) rfl rfl rfl) (.cons (rn_b rfl) (.cons (rn_b rfl) (.nil (Nat.zero_le _)))))))) rfl), (rn_ob rfl rfl (.refl ((encI .u8).blwf 0 _)) rfl), trivial⟩ ⟨(rn_ptr rfl rfl rfl rfl), (rn_ptr rfl rfl rfl rfl), (rn_ptr rfl rfl rfl rfl), (rn_ptr rfl rfl rfl rfl), (rn_b rfl), (rn_b rfl), (rn_b rfl), (rn_b rfl), (rn_b rfl), trivial⟩)
      · refine E_reg ?_
        refine E_op0 (v' := (.ptr 4 0 3)) rfl rfl ?_
        refine E_op (v' := (.ref 5 1 0 (List.length s_9.2.2) none)) (S' := [.arr 0 [.nils, .nils], .arr 0 [(.sl false 1 (List.map (avI .u8) num_11.2.1)), (.bool s_13)], .arr 0 [(.ref 3 1 0 (List.length s_2.2.2) (some 6)), .nils], .arr 1 (flat FuncRow.av s_2.2.2), .arr 0 [(.int .i64 num_4.1), (.int .i64 num_5.1), (.int .i64 num_6.1), (.ref 5 1 0 (List.length s_9.2.2) none), .nils, (.int .i64 (I64 (num_7.1 - 1)))], .arr 1 (flat (avI .u8) s_9.2.2)]) rfl rfl rfl ?_
        refine E_mv (v' := (.int .i64 num_11.1)) rfl ?_
        refine E_op0 (v' := (.int .i64 (bitAnd .i64 num_11.1 1))) rfl rfl ?_
        refine E_op0 (v' := (.int .u8 (U8 (bitAnd .i64 num_11.1 1)))) rfl rfl ?_
        refine E_opw (v' := (.sl true 1 (List.map (avI .u8) [(U8 (bitAnd .i64 num_11.1 1))]))) rfl (.refl _) rfl ?_
        obtain ⟨l_14, hl_14, h⟩ := bd_some h
        refine E_apL (S' := [.arr 0 [.nils, .nils], .arr 0 [(.sl false 1 (List.map (avI .u8) num_11.2.1)), (.bool s_13)], .arr 0 [(.ref 3 1 0 (List.length s_2.2.2) (some 6)), .nils], .arr 1 (flat FuncRow.av s_2.2.2), .arr 0 [(.int .i64 num_4.1), (.int .i64 num_5.1), (.int .i64 num_6.1), (.ref 5 1 0 (List.length s_9.2.2) none), .nils, (.int .i64 (I64 (num_7.1 - 1)))], .arr 2 (flat (avI .u8) l_14)]) (encI .u8) rfl (src_sl [(U8 (bitAnd .i64 num_11.1 1))]) rfl hl_14 rfl ?_
        refine E_op0 (v' := (.ptr 4 0 3)) rfl rfl ?_
        refine E_do (S' := [.arr 0 [.nils, .nils], .arr 0 [(.sl false 1 (List.map (avI .u8) num_11.2.1)), (.bool s_13)], .arr 0 [(.ref 3 1 0 (List.length s_2.2.2) (some 6)), .nils], .arr 1 (flat FuncRow.av s_2.2.2), .arr 0 [(.int .i64 num_4.1), (.int .i64 num_5.1), (.int .i64 num_6.1), (.ref 5 2 0 (List.length l_14) none), .nils, (.int .i64 (I64 (num_7.1 - 1)))], .arr 2 (flat (avI .u8) l_14)]) rfl rfl ?_
        refine E_nil ?_
        cases h
        exact L_nn rfl (wk_rn [some (0, 0), some (1, 0), some (2, 0), some (3, 0), some (4, 0), some (5, 0)] rfl (Nat.le_of_ble_eq_true rfl) ⟨(rn_ob rfl rfl (.cons (rn_b rfl) (.cons (rn_b rfl) (.nil (Nat.zero_le _)))) rfl), (rn_ob rfl rfl (.cons (rn_b ((encI .u8).blws 0)) (.cons (rn_b rfl) (.nil (Nat.zero_le _)))) rfl), (rn_ob rfl rfl (.cons (rn_refL FuncRow.enc rfl rfl rfl) (.cons (rn_b rfl) (.nil (Nat.zero_le _)))) rfl), (rn_ob rfl rfl (.refl (FuncRow.enc.blwf 0 _)) rfl), (rn_ob rfl rfl (.cons (rn_b rfl) (.cons (rn_b rfl) (.cons (rn_b rfl) (.cons (rn_refL (encI .u8) rfl rfl rfl) (.cons (rn_b rfl) (.cons (rn_b rfl) (.nil (Nat.zero_le _)))))))) rfl), (rn_ob rfl rfl (.refl ((encI .u8).blwf 0 _)) rfl), trivial⟩ ⟨(rn_b rfl), (rn_b rfl), (rn_ptr rfl rfl rfl rfl), (rn_ptr rfl rfl rfl rfl), (rn_ptr rfl rfl rfl rfl), (rn_ptr rfl rfl rfl rfl), (rn_b rfl), (rn_b rfl), trivial⟩)
    · refine X_nx hw ?_
      refine E_as ?_
      refine E_sq ?_
      refine E_reg ?_
      refine E_mv (v' := (.ptr 1 0 0)) rfl ?_
      obtain ⟨cou_15, hcou_15, h⟩ := bd_some h
      refine E_callF (S' := [.arr 0 [.nils, .nils], .arr 0 [(.sl false 1 (List.map (avI .u8) cou_15.2.1)), (.bool cou_15.2.2)], .arr 0 [(.ref 3 1 0 (List.length s_2.2.2) (some 6)), .nils], .arr 1 (flat FuncRow.av s_2.2.2), .arr 0 [(.int .i64 num_4.1), (.int .i64 num_5.1), (.int .i64 num_6.1), (.ref 5 1 0 (List.length s_9.2.2) none), .nils, (.int .i64 (I64 (num_7.1 - 1)))], .arr 1 (flat (avI .u8) s_9.2.2)]) (r' := (.int .i64 cou_15.1)) (tables_reader_count_pNN_ev hcou_15) [1] rfl rfl (by decide) rfl rfl ⟨(fr_in rfl rfl (.cons (.base ((encI .u8).blws 0) (.refl _)) (.cons (.base rfl (.refl _)) (.nil (Nat.zero_le _))))), trivial⟩ ⟨(fr_outS rfl rfl (.cons (rn_b ((encI .u8).blws 0)) (.cons (rn_b rfl) (.nil (Nat.zero_le _)))) rfl rfl), trivial⟩ ⟨.inr rfl, .inl rfl, .inr rfl, .inr rfl, .inr rfl, .inr rfl, trivial⟩ rfl (.cons (fi_ptr rfl rfl rfl rfl) (.nil (Nat.zero_le _))) (rn_b rfl) ?_
      refine E_mv (v' := (.int .i64 0)) rfl ?_
      refine E_nil ?_
      refine E_nx ?_
      refine E_sq ?_
      refine E_rniO (fun s_16 => [(2, (.ptr 0 0 0)), (4, (.ptr 1 0 0)), (5, (.ptr 2 0 0)), (6, (.ptr 4 0 0)), (13, (.int .i64 cou_1.1)), (14, (.int .i64 (i_3 : Int)))]) (fun s_16 => [.arr 0 [.nils, .nils], .arr 0 [(.sl false 1 (List.map (avI .u8) s_16.1)), (.bool s_16.2.1)], .arr 0 [(.ref 3 1 0 (List.length s_2.2.2) (some 6)), .nils], .arr 1 (flat FuncRow.av s_2.2.2), .arr 0 [(.int .i64 num_4.1), (.int .i64 num_5.1), (.int .i64 num_6.1), (.ref 5 1 0 (List.length s_9.2.2) none), (.ref 6 1 0 (List.length s_16.2.2) (some 2)), (.int .i64 (I64 (num_7.1 - 1)))], .arr 1 (flat (avI .u8) s_9.2.2), .arr 1 (flat Save.av s_16.2.2)]) h (by decide) (by decide) (fun _ => ⟨rfl, rfl, rfl, rfl⟩) (wk_rn [some (0, 0), some (1, 0), some (2, 0), some (3, 0), some (4, 0), some (5, 0), none] rfl (Nat.le_of_ble_eq_true rfl) ⟨(rn_ob rfl rfl (.cons (rn_b rfl) (.cons (rn_b rfl) (.nil (Nat.zero_le _)))) rfl), (rn_ob rfl rfl (.cons (rn_b ((encI .u8).blws 0)) (.cons (rn_b rfl) (.nil (Nat.zero_le _)))) rfl), (rn_ob rfl rfl (.cons (rn_refL FuncRow.enc rfl rfl rfl) (.cons (rn_b rfl) (.nil (Nat.zero_le _)))) rfl), (rn_ob rfl rfl (.refl (FuncRow.enc.blwf 0 _)) rfl), (rn_ob rfl rfl (.cons (rn_b rfl) (.cons (rn_b rfl) (.cons (rn_b rfl) (.cons (rn_refL (encI .u8) rfl rfl rfl) (.cons (rn_nil rfl) (.cons (rn_b rfl) (.nil (Nat.zero_le _)))))))) rfl), (rn_ob rfl rfl (.refl ((encI .u8).blwf 0 _)) rfl), (rn_obN rfl rfl rfl), trivial⟩ ⟨(rn_b rfl), (rn_b rfl), (rn_ptr rfl rfl rfl rfl), (rn_ptr rfl rfl rfl rfl), (rn_ptr rfl rfl rfl rfl), (rn_ptr rfl rfl rfl rfl), (rn_b rfl), (rn_b rfl), trivial⟩) (fun i_17 s_16 c hlt h => ?_) (fun s_16 fr' S' h hw => ?_)
      · refine E_regp ?_
        refine E_op0 (v' := (.ptr 4 0 4)) rfl rfl ?_
        refine E_op (v' := (.ref 6 1 0 (List.length s_16.2.2) (some 2))) (S' := [.arr 0 [.nils, .nils], .arr 0 [(.sl false 1 (List.map (avI .u8) s_16.1)), (.bool s_16.2.1)], .arr 0 [(.ref 3 1 0 (List.length s_2.2.2) (some 6)), .nils], .arr 1 (flat FuncRow.av s_2.2.2), .arr 0 [(.int .i64 num_4.1), (.int .i64 num_5.1), (.int .i64 num_6.1), (.ref 5 1 0 (List.length s_9.2.2) none), (.ref 6 1 0 (List.length s_16.2.2) (some 2)), (.int .i64 (I64 (num_7.1 - 1)))], .arr 1 (flat (avI .u8) s_9.2.2), .arr 1 (flat Save.av s_16.2.2)]) rfl rfl rfl ?_
        refine E_mv (v' := (.ptr 1 0 0)) rfl ?_
        obtain ⟨num_18, hnum_18, h⟩ := bd_some h
        refine E_callF (S' := [.arr 0 [.nils, .nils], .arr 0 [(.sl false 1 (List.map (avI .u8) num_18.2.1)), (.bool num_18.2.2)], .arr 0 [(.ref 3 1 0 (List.length s_2.2.2) (some 6)), .nils], .arr 1 (flat FuncRow.av s_2.2.2), .arr 0 [(.int .i64 num_4.1), (.int .i64 num_5.1), (.int .i64 num_6.1), (.ref 5 1 0 (List.length s_9.2.2) none), (.ref 6 1 0 (List.length s_16.2.2) (some 2)), (.int .i64 (I64 (num_7.1 - 1)))], .arr 1 (flat (avI .u8) s_9.2.2), .arr 1 (flat Save.av s_16.2.2)]) (r' := (.int .i64 num_18.1)) (tables_reader_number_pNN_ev hnum_18) [1] rfl rfl (by decide) rfl rfl ⟨(fr_in rfl rfl (.cons (.base ((encI .u8).blws 0) (.refl _)) (.cons (.base rfl (.refl _)) (.nil (Nat.zero_le _))))), trivial⟩ ⟨(fr_outS rfl rfl (.cons (rn_b ((encI .u8).blws 0)) (.cons (rn_b rfl) (.nil (Nat.zero_le _)))) rfl rfl), trivial⟩ ⟨.inr rfl, .inl rfl, .inr rfl, .inr rfl, .inr rfl, .inr rfl, .inr rfl, trivial⟩ rfl (.cons (fi_ptr rfl rfl rfl rfl) (.nil (Nat.zero_le _))) (rn_b rfl) ?_
        refine E_mv (v' := (.ptr 1 0 0)) rfl ?_
        obtain ⟨num_19, hnum_19, h⟩ := bd_some h
        refine E_callF (S' := [.arr 0 [.nils, .nils], .arr 0 [(.sl false 1 (List.map (avI .u8) num_19.2.1)), (.bool num_19.2.2)], .arr 0 [(.ref 3 1 0 (List.length s_2.2.2) (some 6)), .nils], .arr 1 (flat FuncRow.av s_2.2.2), .arr 0 [(.int .i64 num_4.1), (.int .i64 num_5.1), (.int .i64 num_6.1), (.ref 5 1 0 (List.length s_9.2.2) none), (.ref 6 1 0 (List.length s_16.2.2) (some 2)), (.int .i64 (I64 (num_7.1 - 1)))], .arr 1 (flat (avI .u8) s_9.2.2), .arr 1 (flat Save.av s_16.2.2)]) (r' := (.int .i64 num_19.1)) (tables_reader_number_pNN_ev hnum_19) [1] rfl rfl (by decide) rfl rfl ⟨(fr_in rfl rfl (.cons (.base ((encI .u8).blws 0) (.refl _)) (.cons (.base rfl (.refl _)) (.nil (Nat.zero_le _))))), trivial⟩ ⟨(fr_outS rfl rfl (.cons (rn_b ((encI .u8).blws 0)) (.cons (rn_b rfl) (.nil (Nat.zero_le _)))) rfl rfl), trivial⟩ ⟨.inr rfl, .inl rfl, .inr rfl, .inr rfl, .inr rfl, .inr rfl, .inr rfl, trivial⟩ rfl (.cons (fi_ptr rfl rfl rfl rfl) (.nil (Nat.zero_le _))) (rn_b rfl) ?_
        refine E_opw (v' := (Save.av (Save.mk num_18.1 num_19.1))) rfl (.aggL ⟨(.refl _), (.refl _), trivial⟩) rfl ?_
        refine E_opw (v' := (.sl true 2 (List.map Save.av [(Save.mk num_18.1 num_19.1)]))) rfl (.refl _) rfl ?_
        obtain ⟨l_20, hl_20, h⟩ := bd_some h
        refine E_apL (S' := [.arr 0 [.nils, .nils], .arr 0 [(.sl false 1 (List.map (avI .u8) num_19.2.1)), (.bool num_19.2.2)], .arr 0 [(.ref 3 1 0 (List.length s_2.2.2) (some 6)), .nils], .arr 1 (flat FuncRow.av s_2.2.2), .arr 0 [(.int .i64 num_4.1), (.int .i64 num_5.1), (.int .i64 num_6.1), (.ref 5 1 0 (List.length s_9.2.2) none), (.ref 6 1 0 (List.length s_16.2.2) (some 2)), (.int .i64 (I64 (num_7.1 - 1)))], .arr 1 (flat (avI .u8) s_9.2.2), .arr 2 (flat Save.av l_20)]) Save.enc rfl (src_sl [(Save.mk num_18.1 num_19.1)]) rfl hl_20 rfl ?_
        refine E_op0 (v' := (.ptr 4 0 4)) rfl rfl ?_
        refine E_do (S' := [.arr 0 [.nils, .nils], .arr 0 [(.sl false 1 (List.map (avI .u8) num_19.2.1)), (.bool num_19.2.2)], .arr 0 [(.ref 3 1 0 (List.length s_2.2.2) (some 6)), .nils], .arr 1 (flat FuncRow.av s_2.2.2), .arr 0 [(.int .i64 num_4.1), (.int .i64 num_5.1), (.int .i64 num_6.1), (.ref 5 1 0 (List.length s_9.2.2) none), (.ref 6 2 0 (List.length l_20) (some 2)), (.int .i64 (I64 (num_7.1 - 1)))], .arr 1 (flat (avI .u8) s_9.2.2), .arr 2 (flat Save.av l_20)]) rfl rfl ?_
        refine E_nil ?_
        refine And.intro (by simp [okLog, nthL, okPair, hp, fpOf]) ?_
        cases h
        exact L_nn rfl (wk_rn [some (0, 0), some (1, 0), some (2, 0), some (3, 0), some (4, 0), some (5, 0), some (6, 0)] rfl (Nat.le_of_ble_eq_true rfl) ⟨(rn_ob rfl rfl (.cons (rn_b rfl) (.cons (rn_b rfl) (.nil (Nat.zero_le _)))) rfl), (rn_ob rfl rfl (.cons (rn_b ((encI .u8).blws 0)) (.cons (rn_b rfl) (.nil (Nat.zero_le _)))) rfl), (rn_ob rfl rfl (.cons (rn_refL FuncRow.enc rfl rfl rfl) (.cons (rn_b rfl) (.nil (Nat.zero_le _)))) rfl), (rn_ob rfl rfl (.refl (FuncRow.enc.blwf 0 _)) rfl), (rn_ob rfl rfl (.cons (rn_b rfl) (.cons (rn_b rfl) (.cons (rn_b rfl) (.cons (rn_refL (encI .u8) rfl rfl rfl) (.cons (rn_refL Save.enc rfl rfl rfl) (.cons (rn_b rfl) (.nil (Nat.zero_le _)))))))) rfl), (rn_ob rfl rfl (.refl ((encI .u8).blwf 0 _)) rfl), (rn_ob rfl rfl (.refl (Save.enc.blwf 0 _)) rfl), trivial⟩ ⟨(rn_b rfl), (rn_b rfl), (rn_ptr rfl rfl rfl rfl), (rn_ptr rfl rfl rfl rfl), (rn_ptr rfl rfl rfl rfl), (rn_ptr rfl rfl rfl rfl), (rn_b rfl), (rn_b rfl), trivial⟩)
      · refine E_nxw (F := [(2, (.ptr 0 0 0)), (4, (.ptr 1 0 0)), (5, (.ptr 2 0 0)), (6, (.ptr 4 0 0)), (13, (.int .i64 cou_1.1)), (14, (.int .i64 (i_3 : Int)))]) (T := [.arr 0 [.nils, .nils], .arr 0 [(.sl false 1 (List.map (avI .u8) s_16.1)), (.bool s_16.2.1)], .arr 0 [(.ref 3 1 0 (List.length s_2.2.2) (some 6)), .nils], .arr 1 (flat FuncRow.av s_2.2.2), .arr 0 [(.int .i64 num_4.1), (.int .i64 num_5.1), (.int .i64 num_6.1), (.sl false 1 (List.map (avI .u8) s_9.2.2)), (.sl false 2 (List.map Save.av s_16.2.2)), (.int .i64 (I64 (num_7.1 - 1)))]]) (wk_trans hw (wk_trans (wk_trans (fr'' := [(2, (.ptr 0 0 0)), (4, (.ptr 1 0 0)), (5, (.ptr 2 0 0)), (6, (.ptr 4 0 0)), (13, (.int .i64 cou_1.1)), (14, (.int .i64 (i_3 : Int)))]) (S'' := [.arr 0 [.nils, .nils], .arr 0 [(.sl false 1 (List.map (avI .u8) s_16.1)), (.bool s_16.2.1)], .arr 0 [(.ref 3 1 0 (List.length s_2.2.2) (some 6)), .nils], .arr 1 (flat FuncRow.av s_2.2.2), .arr 0 [(.int .i64 num_4.1), (.int .i64 num_5.1), (.int .i64 num_6.1), (.sl false 1 (List.map (avI .u8) s_9.2.2)), (.ref 5 1 0 (List.length s_16.2.2) (some 2)), (.int .i64 (I64 (num_7.1 - 1)))], .arr 1 (flat Save.av s_16.2.2)]) (wk_rn (fr' := [(2, (.ptr 0 0 0)), (4, (.ptr 1 0 0)), (5, (.ptr 2 0 0)), (6, (.ptr 4 0 0)), (13, (.int .i64 cou_1.1)), (14, (.int .i64 (i_3 : Int)))]) (S' := [.arr 0 [.nils, .nils], .arr 0 [(.sl false 1 (List.map (avI .u8) s_16.1)), (.bool s_16.2.1)], .arr 0 [(.ref 3 1 0 (List.length s_2.2.2) (some 6)), .nils], .arr 1 (flat FuncRow.av s_2.2.2), .arr 0 [(.int .i64 num_4.1), (.int .i64 num_5.1), (.int .i64 num_6.1), (.ref 6 1 0 (List.length s_9.2.2) none), (.ref 5 1 0 (List.length s_16.2.2) (some 2)), (.int .i64 (I64 (num_7.1 - 1)))], .arr 1 (flat Save.av s_16.2.2), .arr 1 (flat (avI .u8) s_9.2.2)]) [some (0, 0), some (1, 0), some (2, 0), some (3, 0), some (4, 0), some (6, 0), some (5, 0)] rfl (Nat.le_of_ble_eq_true rfl) ⟨(rn_ob rfl rfl (.cons (rn_b rfl) (.cons (rn_b rfl) (.nil (Nat.zero_le _)))) rfl), (rn_ob rfl rfl (.cons (rn_b ((encI .u8).blws 0)) (.cons (rn_b rfl) (.nil (Nat.zero_le _)))) rfl), (rn_ob rfl rfl (.cons (rn_refL FuncRow.enc rfl rfl rfl) (.cons (rn_b rfl) (.nil (Nat.zero_le _)))) rfl), (rn_ob rfl rfl (.refl (FuncRow.enc.blwf 0 _)) rfl), (rn_ob rfl rfl (.cons (rn_b rfl) (.cons (rn_b rfl) (.cons (rn_b rfl) (.cons (rn_refL (encI .u8) rfl rfl rfl) (.cons (rn_refL Save.enc rfl rfl rfl) (.cons (rn_b rfl) (.nil (Nat.zero_le _)))))))) rfl), (rn_ob rfl rfl (.refl (Save.enc.blwf 0 _)) rfl), (rn_ob rfl rfl (.refl ((encI .u8).blwf 0 _)) rfl), trivial⟩ ⟨(rn_ptr rfl rfl rfl rfl), (rn_ptr rfl rfl rfl rfl), (rn_ptr rfl rfl rfl rfl), (rn_ptr rfl rfl rfl rfl), (rn_b rfl), (rn_b rfl), trivial⟩) (wk_fz 6 6 rfl ⟨⟨rfl, ⟨(fz_b rfl (.refl _)), (fz_b rfl (.refl _)), trivial⟩⟩, ⟨rfl, ⟨(fz_b ((encI .u8).blws 6) (.refl _)), (fz_b rfl (.refl _)), trivial⟩⟩, ⟨rfl, ⟨(fz_b rfl (.refl _)), (fz_b rfl (.refl _)), trivial⟩⟩, ⟨rfl, fzL_id (FuncRow.enc.blwf 6 _)⟩, ⟨rfl, ⟨(fz_b rfl (.refl _)), (fz_b rfl (.refl _)), (fz_b rfl (.refl _)), (fz_ref (encI .u8) (Nat.le_of_ble_eq_true rfl) rfl), (fz_b rfl (.refl _)), (fz_b rfl (.refl _)), trivial⟩⟩, ⟨rfl, fzL_id (Save.enc.blwf 6 _)⟩, trivial⟩ ⟨(fz_b rfl (.refl _)), (fz_b rfl (.refl _)), (fz_b rfl (.refl _)), (fz_b rfl (.refl _)), (fz_b rfl (.refl _)), (fz_b rfl (.refl _)), trivial⟩)) (wk_trans (fr'' := [(2, (.ptr 0 0 0)), (4, (.ptr 1 0 0)), (5, (.ptr 2 0 0)), (6, (.ptr 4 0 0)), (13, (.int .i64 cou_1.1)), (14, (.int .i64 (i_3 : Int)))]) (S'' := [.arr 0 [.nils, .nils], .arr 0 [(.sl false 1 (List.map (avI .u8) s_16.1)), (.bool s_16.2.1)], .arr 0 [(.ref 3 1 0 (List.length s_2.2.2) (some 6)), .nils], .arr 1 (flat FuncRow.av s_2.2.2), .arr 0 [(.int .i64 num_4.1), (.int .i64 num_5.1), (.int .i64 num_6.1), (.sl false 1 (List.map (avI .u8) s_9.2.2)), (.sl false 2 (List.map Save.av s_16.2.2)), (.int .i64 (I64 (num_7.1 - 1)))]]) (wk_rn (fr' := [(2, (.ptr 0 0 0)), (4, (.ptr 1 0 0)), (5, (.ptr 2 0 0)), (6, (.ptr 4 0 0)), (13, (.int .i64 cou_1.1)), (14, (.int .i64 (i_3 : Int)))]) (S' := [.arr 0 [.nils, .nils], .arr 0 [(.sl false 1 (List.map (avI .u8) s_16.1)), (.bool s_16.2.1)], .arr 0 [(.ref 3 1 0 (List.length s_2.2.2) (some 6)), .nils], .arr 1 (flat FuncRow.av s_2.2.2), .arr 0 [(.int .i64 num_4.1), (.int .i64 num_5.1), (.int .i64 num_6.1), (.sl false 1 (List.map (avI .u8) s_9.2.2)), (.ref 5 1 0 (List.length s_16.2.2) (some 2)), (.int .i64 (I64 (num_7.1 - 1)))], .arr 1 (flat Save.av s_16.2.2)]) [some (0, 0), some (1, 0), some (2, 0), some (3, 0), some (4, 0), some (5, 0)] rfl (Nat.le_of_ble_eq_true rfl) ⟨(rn_ob rfl rfl (.cons (rn_b rfl) (.cons (rn_b rfl) (.nil (Nat.zero_le _)))) rfl), (rn_ob rfl rfl (.cons (rn_b ((encI .u8).blws 0)) (.cons (rn_b rfl) (.nil (Nat.zero_le _)))) rfl), (rn_ob rfl rfl (.cons (rn_refL FuncRow.enc rfl rfl rfl) (.cons (rn_b rfl) (.nil (Nat.zero_le _)))) rfl), (rn_ob rfl rfl (.refl (FuncRow.enc.blwf 0 _)) rfl), (rn_ob rfl rfl (.cons (rn_b rfl) (.cons (rn_b rfl) (.cons (rn_b rfl) (.cons (rn_b ((encI .u8).blws 0)) (.cons (rn_refL Save.enc rfl rfl rfl) (.cons (rn_b rfl) (.nil (Nat.zero_le _)))))))) rfl), (rn_ob rfl rfl (.refl (Save.enc.blwf 0 _)) rfl), trivial⟩ ⟨(rn_ptr rfl rfl rfl rfl), (rn_ptr rfl rfl rfl rfl), (rn_ptr rfl rfl rfl rfl), (rn_ptr rfl rfl rfl rfl), (rn_b rfl), (rn_b rfl), trivial⟩) (wk_fz 5 6 rfl ⟨⟨rfl, ⟨(fz_b rfl (.refl _)), (fz_b rfl (.refl _)), trivial⟩⟩, ⟨rfl, ⟨(fz_b ((encI .u8).blws 5) (.refl _)), (fz_b rfl (.refl _)), trivial⟩⟩, ⟨rfl, ⟨(fz_b rfl (.refl _)), (fz_b rfl (.refl _)), trivial⟩⟩, ⟨rfl, fzL_id (FuncRow.enc.blwf 5 _)⟩, ⟨rfl, ⟨(fz_b rfl (.refl _)), (fz_b rfl (.refl _)), (fz_b rfl (.refl _)), (fz_b ((encI .u8).blws 5) (.refl _)), (fz_ref Save.enc (Nat.le_of_ble_eq_true rfl) rfl), (fz_b rfl (.refl _)), trivial⟩⟩, trivial⟩ ⟨(fz_b rfl (.refl _)), (fz_b rfl (.refl _)), (fz_b rfl (.refl _)), (fz_b rfl (.refl _)), (fz_b rfl (.refl _)), (fz_b rfl (.refl _)), trivial⟩)))) ?_
        refine E_reg ?_
        refine E_op0 (v' := (.ptr 2 0 0)) rfl rfl ?_
        refine E_op (v' := (.ref 3 1 0 (List.length s_2.2.2) (some 6))) (S' := [.arr 0 [.nils, .nils], .arr 0 [(.sl false 1 (List.map (avI .u8) s_16.1)), (.bool s_16.2.1)], .arr 0 [(.ref 3 1 0 (List.length s_2.2.2) (some 6)), .nils], .arr 1 (flat FuncRow.av s_2.2.2), .arr 0 [(.int .i64 num_4.1), (.int .i64 num_5.1), (.int .i64 num_6.1), (.sl false 1 (List.map (avI .u8) s_9.2.2)), (.sl false 2 (List.map Save.av s_16.2.2)), (.int .i64 (I64 (num_7.1 - 1)))]]) rfl rfl rfl ?_
        refine E_opw (v' := (FuncRow.av (FuncRow.mk num_4.1 num_5.1 num_6.1 s_9.2.2 s_16.2.2 (I64 (num_7.1 - 1))))) rfl (.aggL ⟨(.refl _), (.refl _), (.refl _), (.refl _), (.refl _), (.refl _), trivial⟩) rfl ?_
        refine E_opw (v' := (.sl true 6 (List.map FuncRow.av [(FuncRow.mk num_4.1 num_5.1 num_6.1 s_9.2.2 s_16.2.2 (I64 (num_7.1 - 1)))]))) rfl (.refl _) rfl ?_
        obtain ⟨l_21, hl_21, h⟩ := bd_some h
        refine E_apL (S' := [.arr 0 [.nils, .nils], .arr 0 [(.sl false 1 (List.map (avI .u8) s_16.1)), (.bool s_16.2.1)], .arr 0 [(.ref 3 1 0 (List.length s_2.2.2) (some 6)), .nils], .arr 2 (flat FuncRow.av l_21), .arr 0 [(.int .i64 num_4.1), (.int .i64 num_5.1), (.int .i64 num_6.1), (.sl false 1 (List.map (avI .u8) s_9.2.2)), (.sl false 2 (List.map Save.av s_16.2.2)), (.int .i64 (I64 (num_7.1 - 1)))]]) FuncRow.enc rfl (src_sl [(FuncRow.mk num_4.1 num_5.1 num_6.1 s_9.2.2 s_16.2.2 (I64 (num_7.1 - 1)))]) rfl hl_21 rfl ?_
        refine E_op0 (v' := (.ptr 2 0 0)) rfl rfl ?_
        refine E_do (S' := [.arr 0 [.nils, .nils], .arr 0 [(.sl false 1 (List.map (avI .u8) s_16.1)), (.bool s_16.2.1)], .arr 0 [(.ref 3 2 0 (List.length l_21) (some 6)), .nils], .arr 2 (flat FuncRow.av l_21), .arr 0 [(.int .i64 num_4.1), (.int .i64 num_5.1), (.int .i64 num_6.1), (.sl false 1 (List.map (avI .u8) s_9.2.2)), (.sl false 2 (List.map Save.av s_16.2.2)), (.int .i64 (I64 (num_7.1 - 1)))]]) rfl rfl ?_
        refine E_nil ?_
        cases h
        exact L_nn rfl (wk_rn [some (0, 0), some (1, 0), some (2, 0), some (3, 0)] rfl (Nat.le_of_ble_eq_true rfl) ⟨(rn_ob rfl rfl (.cons (rn_b rfl) (.cons (rn_b rfl) (.nil (Nat.zero_le _)))) rfl), (rn_ob rfl rfl (.cons (rn_b ((encI .u8).blws 0)) (.cons (rn_b rfl) (.nil (Nat.zero_le _)))) rfl), (rn_ob rfl rfl (.cons (rn_refL FuncRow.enc rfl rfl rfl) (.cons (rn_b rfl) (.nil (Nat.zero_le _)))) rfl), (rn_ob rfl rfl (.refl (FuncRow.enc.blwf 0 _)) rfl), trivial⟩ ⟨(rn_b rfl), (rn_b rfl), (rn_ptr rfl rfl rfl rfl), (rn_ptr rfl rfl rfl rfl), (rn_ptr rfl rfl rfl rfl), trivial⟩)
  · refine X_nx hw ?_
    refine E_as ?_
    refine E_sq ?_
    refine E_reg ?_
    refine E_mv (v' := (.ptr 1 0 0)) rfl ?_
    obtain ⟨cou_22, hcou_22, h⟩ := bd_some h
    refine E_callF (S' := [.arr 0 [.nils, .nils], .arr 0 [(.sl false 1 (List.map (avI .u8) cou_22.2.1)), (.bool cou_22.2.2)], .arr 0 [(.ref 3 1 0 (List.length s_2.2.2) (some 6)), .nils], .arr 1 (flat FuncRow.av s_2.2.2)]) (r' := (.int .i64 cou_22.1)) (tables_reader_count_pNN_ev hcou_22) [1] rfl rfl (by decide) rfl rfl ⟨(fr_in rfl rfl (.cons (.base ((encI .u8).blws 0) (.refl _)) (.cons (.base rfl (.refl _)) (.nil (Nat.zero_le _))))), trivial⟩ ⟨(fr_outS rfl rfl (.cons (rn_b ((encI .u8).blws 0)) (.cons (rn_b rfl) (.nil (Nat.zero_le _)))) rfl rfl), trivial⟩ ⟨.inr rfl, .inl rfl, .inr rfl, .inr rfl, trivial⟩ rfl (.cons (fi_ptr rfl rfl rfl rfl) (.nil (Nat.zero_le _))) (rn_b rfl) ?_
    refine E_mv (v' := (.int .i64 0)) rfl ?_
    refine E_nil ?_
    refine E_nx ?_
    refine E_sq ?_
    refine E_rniO (fun s_23 => [(2, (.ptr 0 0 0)), (4, (.ptr 1 0 0)), (5, (.ptr 2 0 0))]) (fun s_23 => [.arr 0 [.nils, .nils], .arr 0 [(.sl false 1 (List.map (avI .u8) s_23.1)), (.bool s_23.2.1)], .arr 0 [(.ref 3 1 0 (List.length s_2.2.2) (some 6)), (.ref 4 1 0 (List.length s_23.2.2) (some 2))], .arr 1 (flat FuncRow.av s_2.2.2), .arr 1 (flat Site.av s_23.2.2)]) h (by decide) (by decide) (fun _ => ⟨rfl, rfl, rfl, rfl⟩) (wk_rn [some (0, 0), some (1, 0), some (2, 0), some (3, 0), none] rfl (Nat.le_of_ble_eq_true rfl) ⟨(rn_ob rfl rfl (.cons (rn_b rfl) (.cons (rn_b rfl) (.nil (Nat.zero_le _)))) rfl), (rn_ob rfl rfl (.cons (rn_b ((encI .u8).blws 0)) (.cons (rn_b rfl) (.nil (Nat.zero_le _)))) rfl), (rn_ob rfl rfl (.cons (rn_refL FuncRow.enc rfl rfl rfl) (.cons (rn_nil rfl) (.nil (Nat.zero_le _)))) rfl), (rn_ob rfl rfl (.refl (FuncRow.enc.blwf 0 _)) rfl), (rn_obN rfl rfl rfl), trivial⟩ ⟨(rn_b rfl), (rn_b rfl), (rn_ptr rfl rfl rfl rfl), (rn_ptr rfl rfl rfl rfl), (rn_ptr rfl rfl rfl rfl), trivial⟩) (fun i_24 s_23 c hlt h => ?_) (fun s_23 fr' S' h hw => ?_)
    · refine E_sq ?_
      refine E_reg ?_
      refine E_mv (v' := (.ptr 1 0 0)) rfl ?_
      obtain ⟨num_25, hnum_25, h⟩ := bd_some h
      refine E_callF (S' := [.arr 0 [.nils, .nils], .arr 0 [(.sl false 1 (List.map (avI .u8) num_25.2.1)), (.bool num_25.2.2)], .arr 0 [(.ref 3 1 0 (List.length s_2.2.2) (some 6)), (.ref 4 1 0 (List.length s_23.2.2) (some 2))], .arr 1 (flat FuncRow.av s_2.2.2), .arr 1 (flat Site.av s_23.2.2)]) (r' := (.int .i64 num_25.1)) (tables_reader_number_pNN_ev hnum_25) [1] rfl rfl (by decide) rfl rfl ⟨(fr_in rfl rfl (.cons (.base ((encI .u8).blws 0) (.refl _)) (.cons (.base rfl (.refl _)) (.nil (Nat.zero_le _))))), trivial⟩ ⟨(fr_outS rfl rfl (.cons (rn_b ((encI .u8).blws 0)) (.cons (rn_b rfl) (.nil (Nat.zero_le _)))) rfl rfl), trivial⟩ ⟨.inr rfl, .inl rfl, .inr rfl, .inr rfl, .inr rfl, trivial⟩ rfl (.cons (fi_ptr rfl rfl rfl rfl) (.nil (Nat.zero_le _))) (rn_b rfl) ?_
      refine E_op0 (v' := (.agg [(.int .i64 num_25.1), .nils])) rfl rfl ?_
      refine E_op (v' := .ptr 5 0 0) (S' := [.arr 0 [.nils, .nils], .arr 0 [(.sl false 1 (List.map (avI .u8) num_25.2.1)), (.bool num_25.2.2)], .arr 0 [(.ref 3 1 0 (List.length s_2.2.2) (some 6)), (.ref 4 1 0 (List.length s_23.2.2) (some 2))], .arr 1 (flat FuncRow.av s_2.2.2), .arr 1 (flat Site.av s_23.2.2), .arr 0 [(.int .i64 0), .nils]]) rfl rfl rfl ?_
      refine E_do (S' := [.arr 0 [.nils, .nils], .arr 0 [(.sl false 1 (List.map (avI .u8) num_25.2.1)), (.bool num_25.2.2)], .arr 0 [(.ref 3 1 0 (List.length s_2.2.2) (some 6)), (.ref 4 1 0 (List.length s_23.2.2) (some 2))], .arr 1 (flat FuncRow.av s_2.2.2), .arr 1 (flat Site.av s_23.2.2), .arr 0 [(.int .i64 num_25.1), .nils]]) rfl rfl ?_
      refine E_nil ?_
      refine E_nx ?_
      refine E_as ?_
      refine E_sq ?_
      refine E_reg ?_
      refine E_mv (v' := (.ptr 1 0 0)) rfl ?_
      obtain ⟨cou_26, hcou_26, h⟩ := bd_some h
      refine E_callF (S' := [.arr 0 [.nils, .nils], .arr 0 [(.sl false 1 (List.map (avI .u8) cou_26.2.1)), (.bool cou_26.2.2)], .arr 0 [(.ref 3 1 0 (List.length s_2.2.2) (some 6)), (.ref 4 1 0 (List.length s_23.2.2) (some 2))], .arr 1 (flat FuncRow.av s_2.2.2), .arr 1 (flat Site.av s_23.2.2), .arr 0 [(.int .i64 num_25.1), .nils]]) (r' := (.int .i64 cou_26.1)) (tables_reader_count_pNN_ev hcou_26) [1] rfl rfl (by decide) rfl rfl ⟨(fr_in rfl rfl (.cons (.base ((encI .u8).blws 0) (.refl _)) (.cons (.base rfl (.refl _)) (.nil (Nat.zero_le _))))), trivial⟩ ⟨(fr_outS rfl rfl (.cons (rn_b ((encI .u8).blws 0)) (.cons (rn_b rfl) (.nil (Nat.zero_le _)))) rfl rfl), trivial⟩ ⟨.inr rfl, .inl rfl, .inr rfl, .inr rfl, .inr rfl, .inr rfl, trivial⟩ rfl (.cons (fi_ptr rfl rfl rfl rfl) (.nil (Nat.zero_le _))) (rn_b rfl) ?_
      refine E_mv (v' := (.int .i64 0)) rfl ?_
      refine E_nil ?_
      refine E_nx ?_
      refine E_sq ?_
      refine E_rniO (fun s_27 => [(2, (.ptr 0 0 0)), (4, (.ptr 1 0 0)), (5, (.ptr 2 0 0)), (8, (.ptr 5 0 0)), (75, (.int .i64 cou_22.1)), (76, (.int .i64 (i_24 : Int)))]) (fun s_27 => [.arr 0 [.nils, .nils], .arr 0 [(.sl false 1 (List.map (avI .u8) s_27.1)), (.bool s_27.2.1)], .arr 0 [(.ref 3 1 0 (List.length s_2.2.2) (some 6)), (.ref 4 1 0 (List.length s_23.2.2) (some 2))], .arr 1 (flat FuncRow.av s_2.2.2), .arr 1 (flat Site.av s_23.2.2), .arr 0 [(.int .i64 num_25.1), (.ref 6 1 0 (List.length s_27.2.2) none)], .arr 1 (flat (avI .i64) s_27.2.2)]) h (by decide) (by decide) (fun _ => ⟨rfl, rfl, rfl, rfl⟩) (wk_rn [some (0, 0), some (1, 0), some (2, 0), some (3, 0), some (4, 0), some (5, 0), none] rfl (Nat.le_of_ble_eq_true rfl) ⟨(rn_ob rfl rfl (.cons (rn_b rfl) (.cons (rn_b rfl) (.nil (Nat.zero_le _)))) rfl), (rn_ob rfl rfl (.cons (rn_b ((encI .u8).blws 0)) (.cons (rn_b rfl) (.nil (Nat.zero_le _)))) rfl), (rn_ob rfl rfl (.cons (rn_refL FuncRow.enc rfl rfl rfl) (.cons (rn_refL Site.enc rfl rfl rfl) (.nil (Nat.zero_le _)))) rfl), (rn_ob rfl rfl (.refl (FuncRow.enc.blwf 0 _)) rfl), (rn_ob rfl rfl (.refl (Site.enc.blwf 0 _)) rfl), (rn_ob rfl rfl (.cons (rn_b rfl) (.cons (rn_nil rfl) (.nil (Nat.zero_le _)))) rfl), (rn_obN rfl rfl rfl), trivial⟩ ⟨(rn_b rfl), (rn_b rfl), (rn_ptr rfl rfl rfl rfl), (rn_ptr rfl rfl rfl rfl), (rn_ptr rfl rfl rfl rfl), (rn_ptr rfl rfl rfl rfl), (rn_b rfl), (rn_b rfl), trivial⟩) (fun i_28 s_27 c hlt h => ?_) (fun s_27 fr' S' h hw => ?_)
      · refine E_regp ?_
        refine E_op0 (v' := (.ptr 5 0 1)) rfl rfl ?_
        refine E_op (v' := (.ref 6 1 0 (List.length s_27.2.2) none)) (S' := [.arr 0 [.nils, .nils], .arr 0 [(.sl false 1 (List.map (avI .u8) s_27.1)), (.bool s_27.2.1)], .arr 0 [(.ref 3 1 0 (List.length s_2.2.2) (some 6)), (.ref 4 1 0 (List.length s_23.2.2) (some 2))], .arr 1 (flat FuncRow.av s_2.2.2), .arr 1 (flat Site.av s_23.2.2), .arr 0 [(.int .i64 num_25.1), (.ref 6 1 0 (List.length s_27.2.2) none)], .arr 1 (flat (avI .i64) s_27.2.2)]) rfl rfl rfl ?_
        refine E_mv (v' := (.ptr 1 0 0)) rfl ?_
        obtain ⟨num_29, hnum_29, h⟩ := bd_some h
        refine E_callF (S' := [.arr 0 [.nils, .nils], .arr 0 [(.sl false 1 (List.map (avI .u8) num_29.2.1)), (.bool num_29.2.2)], .arr 0 [(.ref 3 1 0 (List.length s_2.2.2) (some 6)), (.ref 4 1 0 (List.length s_23.2.2) (some 2))], .arr 1 (flat FuncRow.av s_2.2.2), .arr 1 (flat Site.av s_23.2.2), .arr 0 [(.int .i64 num_25.1), (.ref 6 1 0 (List.length s_27.2.2) none)], .arr 1 (flat (avI .i64) s_27.2.2)]) (r' := (.int .i64 num_29.1)) (tables_reader_number_pNN_ev hnum_29) [1] rfl rfl (by decide) rfl rfl ⟨(fr_in rfl rfl (.cons (.base ((encI .u8).blws 0) (.refl _)) (.cons (.base rfl (.refl _)) (.nil (Nat.zero_le _))))), trivial⟩ ⟨(fr_outS rfl rfl (.cons (rn_b ((encI .u8).blws 0)) (.cons (rn_b rfl) (.nil (Nat.zero_le _)))) rfl rfl), trivial⟩ ⟨.inr rfl, .inl rfl, .inr rfl, .inr rfl, .inr rfl, .inr rfl, .inr rfl, trivial⟩ rfl (.cons (fi_ptr rfl rfl rfl rfl) (.nil (Nat.zero_le _))) (rn_b rfl) ?_
        refine E_opw (v' := (.sl true 1 (List.map (avI .i64) [num_29.1]))) rfl (.refl _) rfl ?_
        obtain ⟨l_30, hl_30, h⟩ := bd_some h
        refine E_apL (S' := [.arr 0 [.nils, .nils], .arr 0 [(.sl false 1 (List.map (avI .u8) num_29.2.1)), (.bool num_29.2.2)], .arr 0 [(.ref 3 1 0 (List.length s_2.2.2) (some 6)), (.ref 4 1 0 (List.length s_23.2.2) (some 2))], .arr 1 (flat FuncRow.av s_2.2.2), .arr 1 (flat Site.av s_23.2.2), .arr 0 [(.int .i64 num_25.1), (.ref 6 1 0 (List.length s_27.2.2) none)], .arr 2 (flat (avI .i64) l_30)]) (encI .i64) rfl (src_sl [num_29.1]) rfl hl_30 rfl ?_
        refine E_op0 (v' := (.ptr 5 0 1)) rfl rfl ?_
        refine E_do (S' := [.arr 0 [.nils, .nils], .arr 0 [(.sl false 1 (List.map (avI .u8) num_29.2.1)), (.bool num_29.2.2)], .arr 0 [(.ref 3 1 0 (List.length s_2.2.2) (some 6)), (.ref 4 1 0 (List.length s_23.2.2) (some 2))], .arr 1 (flat FuncRow.av s_2.2.2), .arr 1 (flat Site.av s_23.2.2), .arr 0 [(.int .i64 num_25.1), (.ref 6 2 0 (List.length l_30) none)], .arr 2 (flat (avI .i64) l_30)]) rfl rfl ?_
        refine E_nil ?_
        refine And.intro (by simp [okLog, nthL, okPair, hp, fpOf]) ?_
        cases h
        exact L_nn rfl (wk_rn [some (0, 0), some (1, 0), some (2, 0), some (3, 0), some (4, 0), some (5, 0), some (6, 0)] rfl (Nat.le_of_ble_eq_true rfl) ⟨(rn_ob rfl rfl (.cons (rn_b rfl) (.cons (rn_b rfl) (.nil (Nat.zero_le _)))) rfl), (rn_ob rfl rfl (.cons (rn_b ((encI .u8).blws 0)) (.cons (rn_b rfl) (.nil (Nat.zero_le _)))) rfl), (rn_ob rfl rfl (.cons (rn_refL FuncRow.enc rfl rfl rfl) (.cons (rn_refL Site.enc rfl rfl rfl) (.nil (Nat.zero_le _)))) rfl), (rn_ob rfl rfl (.refl (FuncRow.enc.blwf 0 _)) rfl), (rn_ob rfl rfl (.refl (Site.enc.blwf 0 _)) rfl), (rn_ob rfl rfl (.cons (rn_b rfl) (.cons (rn_refL (encI .i64) rfl rfl rfl) (.nil (Nat.zero_le _)))) rfl), (rn_ob rfl rfl (.refl ((encI .i64).blwf 0 _)) rfl), trivial⟩ ⟨(rn_b rfl), (rn_b rfl), (rn_ptr rfl rfl rfl rfl), (rn_ptr rfl rfl rfl rfl), (rn_ptr rfl rfl rfl rfl), (rn_ptr rfl rfl rfl rfl), (rn_b rfl), (rn_b rfl), trivial⟩)
      · refine E_nxw (F := [(2, (.ptr 0 0 0)), (4, (.ptr 1 0 0)), (5, (.ptr 2 0 0)), (8, (.ptr 5 0 0)), (75, (.int .i64 cou_22.1)), (76, (.int .i64 (i_24 : Int)))]) (T := [.arr 0 [.nils, .nils], .arr 0 [(.sl false 1 (List.map (avI .u8) s_27.1)), (.bool s_27.2.1)], .arr 0 [(.ref 3 1 0 (List.length s_2.2.2) (some 6)), (.ref 4 1 0 (List.length s_23.2.2) (some 2))], .arr 1 (flat FuncRow.av s_2.2.2), .arr 1 (flat Site.av s_23.2.2), .arr 0 [(.int .i64 num_25.1), (.sl false 1 (List.map (avI .i64) s_27.2.2))]]) (wk_trans hw (wk_trans (fr'' := [(2, (.ptr 0 0 0)), (4, (.ptr 1 0 0)), (5, (.ptr 2 0 0)), (8, (.ptr 5 0 0)), (75, (.int .i64 cou_22.1)), (76, (.int .i64 (i_24 : Int)))]) (S'' := [.arr 0 [.nils, .nils], .arr 0 [(.sl false 1 (List.map (avI .u8) s_27.1)), (.bool s_27.2.1)], .arr 0 [(.ref 3 1 0 (List.length s_2.2.2) (some 6)), (.ref 4 1 0 (List.length s_23.2.2) (some 2))], .arr 1 (flat FuncRow.av s_2.2.2), .arr 1 (flat Site.av s_23.2.2), .arr 0 [(.int .i64 num_25.1), (.sl false 1 (List.map (avI .i64) s_27.2.2))]]) (wk_rn (fr' := [(2, (.ptr 0 0 0)), (4, (.ptr 1 0 0)), (5, (.ptr 2 0 0)), (8, (.ptr 5 0 0)), (75, (.int .i64 cou_22.1)), (76, (.int .i64 (i_24 : Int)))]) (S' := [.arr 0 [.nils, .nils], .arr 0 [(.sl false 1 (List.map (avI .u8) s_27.1)), (.bool s_27.2.1)], .arr 0 [(.ref 3 1 0 (List.length s_2.2.2) (some 6)), (.ref 4 1 0 (List.length s_23.2.2) (some 2))], .arr 1 (flat FuncRow.av s_2.2.2), .arr 1 (flat Site.av s_23.2.2), .arr 0 [(.int .i64 num_25.1), (.ref 6 1 0 (List.length s_27.2.2) none)], .arr 1 (flat (avI .i64) s_27.2.2)]) [some (0, 0), some (1, 0), some (2, 0), some (3, 0), some (4, 0), some (5, 0), some (6, 0)] rfl (Nat.le_of_ble_eq_true rfl) ⟨(rn_ob rfl rfl (.cons (rn_b rfl) (.cons (rn_b rfl) (.nil (Nat.zero_le _)))) rfl), (rn_ob rfl rfl (.cons (rn_b ((encI .u8).blws 0)) (.cons (rn_b rfl) (.nil (Nat.zero_le _)))) rfl), (rn_ob rfl rfl (.cons (rn_refL FuncRow.enc rfl rfl rfl) (.cons (rn_refL Site.enc rfl rfl rfl) (.nil (Nat.zero_le _)))) rfl), (rn_ob rfl rfl (.refl (FuncRow.enc.blwf 0 _)) rfl), (rn_ob rfl rfl (.refl (Site.enc.blwf 0 _)) rfl), (rn_ob rfl rfl (.cons (rn_b rfl) (.cons (rn_refL (encI .i64) rfl rfl rfl) (.nil (Nat.zero_le _)))) rfl), (rn_ob rfl rfl (.refl ((encI .i64).blwf 0 _)) rfl), trivial⟩ ⟨(rn_ptr rfl rfl rfl rfl), (rn_ptr rfl rfl rfl rfl), (rn_ptr rfl rfl rfl rfl), (rn_ptr rfl rfl rfl rfl), (rn_b rfl), (rn_b rfl), trivial⟩) (wk_fz 6 6 rfl ⟨⟨rfl, ⟨(fz_b rfl (.refl _)), (fz_b rfl (.refl _)), trivial⟩⟩, ⟨rfl, ⟨(fz_b ((encI .u8).blws 6) (.refl _)), (fz_b rfl (.refl _)), trivial⟩⟩, ⟨rfl, ⟨(fz_b rfl (.refl _)), (fz_b rfl (.refl _)), trivial⟩⟩, ⟨rfl, fzL_id (FuncRow.enc.blwf 6 _)⟩, ⟨rfl, fzL_id (Site.enc.blwf 6 _)⟩, ⟨rfl, ⟨(fz_b rfl (.refl _)), (fz_ref (encI .i64) (Nat.le_of_ble_eq_true rfl) rfl), trivial⟩⟩, trivial⟩ ⟨(fz_b rfl (.refl _)), (fz_b rfl (.refl _)), (fz_b rfl (.refl _)), (fz_b rfl (.refl _)), (fz_b rfl (.refl _)), (fz_b rfl (.refl _)), trivial⟩))) ?_
        refine E_reg ?_
        refine E_op0 (v' := (.ptr 2 0 1)) rfl rfl ?_
        refine E_op (v' := (.ref 4 1 0 (List.length s_23.2.2) (some 2))) (S' := [.arr 0 [.nils, .nils], .arr 0 [(.sl false 1 (List.map (avI .u8) s_27.1)), (.bool s_27.2.1)], .arr 0 [(.ref 3 1 0 (List.length s_2.2.2) (some 6)), (.ref 4 1 0 (List.length s_23.2.2) (some 2))], .arr 1 (flat FuncRow.av s_2.2.2), .arr 1 (flat Site.av s_23.2.2), .arr 0 [(.int .i64 num_25.1), (.sl false 1 (List.map (avI .i64) s_27.2.2))]]) rfl rfl rfl ?_
        refine E_opw (v' := (Site.av (Site.mk num_25.1 s_27.2.2))) rfl (.aggL ⟨(.refl _), (.refl _), trivial⟩) rfl ?_
        refine E_opw (v' := (.sl true 2 (List.map Site.av [(Site.mk num_25.1 s_27.2.2)]))) rfl (.refl _) rfl ?_
        obtain ⟨l_31, hl_31, h⟩ := bd_some h
        refine E_apL (S' := [.arr 0 [.nils, .nils], .arr 0 [(.sl false 1 (List.map (avI .u8) s_27.1)), (.bool s_27.2.1)], .arr 0 [(.ref 3 1 0 (List.length s_2.2.2) (some 6)), (.ref 4 1 0 (List.length s_23.2.2) (some 2))], .arr 1 (flat FuncRow.av s_2.2.2), .arr 2 (flat Site.av l_31), .arr 0 [(.int .i64 num_25.1), (.sl false 1 (List.map (avI .i64) s_27.2.2))]]) Site.enc rfl (src_sl [(Site.mk num_25.1 s_27.2.2)]) rfl hl_31 rfl ?_
        refine E_op0 (v' := (.ptr 2 0 1)) rfl rfl ?_
        refine E_do (S' := [.arr 0 [.nils, .nils], .arr 0 [(.sl false 1 (List.map (avI .u8) s_27.1)), (.bool s_27.2.1)], .arr 0 [(.ref 3 1 0 (List.length s_2.2.2) (some 6)), (.ref 4 2 0 (List.length l_31) (some 2))], .arr 1 (flat FuncRow.av s_2.2.2), .arr 2 (flat Site.av l_31), .arr 0 [(.int .i64 num_25.1), (.sl false 1 (List.map (avI .i64) s_27.2.2))]]) rfl rfl ?_
        refine E_nil ?_
        cases h
        exact L_nn rfl (wk_rn [some (0, 0), some (1, 0), some (2, 0), some (3, 0), some (4, 0)] rfl (Nat.le_of_ble_eq_true rfl) ⟨(rn_ob rfl rfl (.cons (rn_b rfl) (.cons (rn_b rfl) (.nil (Nat.zero_le _)))) rfl), (rn_ob rfl rfl (.cons (rn_b ((encI .u8).blws 0)) (.cons (rn_b rfl) (.nil (Nat.zero_le _)))) rfl), (rn_ob rfl rfl (.cons (rn_refL FuncRow.enc rfl rfl rfl) (.cons (rn_refL Site.enc rfl rfl rfl) (.nil (Nat.zero_le _)))) rfl), (rn_ob rfl rfl (.refl (FuncRow.enc.blwf 0 _)) rfl), (rn_ob rfl rfl (.refl (Site.enc.blwf 0 _)) rfl), trivial⟩ ⟨(rn_b rfl), (rn_b rfl), (rn_ptr rfl rfl rfl rfl), (rn_ptr rfl rfl rfl rfl), (rn_ptr rfl rfl rfl rfl), trivial⟩)
    · refine E_nxw (F := [(2, (.ptr 0 0 0)), (4, (.ptr 1 0 0)), (5, (.ptr 2 0 0))]) (T := [.arr 0 [.nils, .nils], .arr 0 [(.sl false 1 (List.map (avI .u8) s_23.1)), (.bool s_23.2.1)], .arr 0 [(.sl false 6 (List.map FuncRow.av s_2.2.2)), (.sl false 2 (List.map Site.av s_23.2.2))]]) (wk_trans hw (wk_trans (wk_trans (fr'' := [(2, (.ptr 0 0 0)), (4, (.ptr 1 0 0)), (5, (.ptr 2 0 0))]) (S'' := [.arr 0 [.nils, .nils], .arr 0 [(.sl false 1 (List.map (avI .u8) s_23.1)), (.bool s_23.2.1)], .arr 0 [(.sl false 6 (List.map FuncRow.av s_2.2.2)), (.ref 3 1 0 (List.length s_23.2.2) (some 2))], .arr 1 (flat Site.av s_23.2.2)]) (wk_rn (fr' := [(2, (.ptr 0 0 0)), (4, (.ptr 1 0 0)), (5, (.ptr 2 0 0))]) (S' := [.arr 0 [.nils, .nils], .arr 0 [(.sl false 1 (List.map (avI .u8) s_23.1)), (.bool s_23.2.1)], .arr 0 [(.ref 4 1 0 (List.length s_2.2.2) (some 6)), (.ref 3 1 0 (List.length s_23.2.2) (some 2))], .arr 1 (flat Site.av s_23.2.2), .arr 1 (flat FuncRow.av s_2.2.2)]) [some (0, 0), some (1, 0), some (2, 0), some (4, 0), some (3, 0)] rfl (Nat.le_of_ble_eq_true rfl) ⟨(rn_ob rfl rfl (.cons (rn_b rfl) (.cons (rn_b rfl) (.nil (Nat.zero_le _)))) rfl), (rn_ob rfl rfl (.cons (rn_b ((encI .u8).blws 0)) (.cons (rn_b rfl) (.nil (Nat.zero_le _)))) rfl), (rn_ob rfl rfl (.cons (rn_refL FuncRow.enc rfl rfl rfl) (.cons (rn_refL Site.enc rfl rfl rfl) (.nil (Nat.zero_le _)))) rfl), (rn_ob rfl rfl (.refl (Site.enc.blwf 0 _)) rfl), (rn_ob rfl rfl (.refl (FuncRow.enc.blwf 0 _)) rfl), trivial⟩ ⟨(rn_ptr rfl rfl rfl rfl), (rn_ptr rfl rfl rfl rfl), (rn_ptr rfl rfl rfl rfl), trivial⟩) (wk_fz 4 6 rfl ⟨⟨rfl, ⟨(fz_b rfl (.refl _)), (fz_b rfl (.refl _)), trivial⟩⟩, ⟨rfl, ⟨(fz_b ((encI .u8).blws 4) (.refl _)), (fz_b rfl (.refl _)), trivial⟩⟩, ⟨rfl, ⟨(fz_ref FuncRow.enc (Nat.le_of_ble_eq_true rfl) rfl), (fz_b rfl (.refl _)), trivial⟩⟩, ⟨rfl, fzL_id (Site.enc.blwf 4 _)⟩, trivial⟩ ⟨(fz_b rfl (.refl _)), (fz_b rfl (.refl _)), (fz_b rfl (.refl _)), trivial⟩)) (wk_trans (fr'' := [(2, (.ptr 0 0 0)), (4, (.ptr 1 0 0)), (5, (.ptr 2 0 0))]) (S'' := [.arr 0 [.nils, .nils], .arr 0 [(.sl false 1 (List.map (avI .u8) s_23.1)), (.bool s_23.2.1)], .arr 0 [(.sl false 6 (List.map FuncRow.av s_2.2.2)), (.sl false 2 (List.map Site.av s_23.2.2))]]) (wk_rn (fr' := [(2, (.ptr 0 0 0)), (4, (.ptr 1 0 0)), (5, (.ptr 2 0 0))]) (S' := [.arr 0 [.nils, .nils], .arr 0 [(.sl false 1 (List.map (avI .u8) s_23.1)), (.bool s_23.2.1)], .arr 0 [(.sl false 6 (List.map FuncRow.av s_2.2.2)), (.ref 3 1 0 (List.length s_23.2.2) (some 2))], .arr 1 (flat Site.av s_23.2.2)]) [some (0, 0), some (1, 0), some (2, 0), some (3, 0)] rfl (Nat.le_of_ble_eq_true rfl) ⟨(rn_ob rfl rfl (.cons (rn_b rfl) (.cons (rn_b rfl) (.nil (Nat.zero_le _)))) rfl), (rn_ob rfl rfl (.cons (rn_b ((encI .u8).blws 0)) (.cons (rn_b rfl) (.nil (Nat.zero_le _)))) rfl), (rn_ob rfl rfl (.cons (rn_b (FuncRow.enc.blws 0)) (.cons (rn_refL Site.enc rfl rfl rfl) (.nil (Nat.zero_le _)))) rfl), (rn_ob rfl rfl (.refl (Site.enc.blwf 0 _)) rfl), trivial⟩ ⟨(rn_ptr rfl rfl rfl rfl), (rn_ptr rfl rfl rfl rfl), (rn_ptr rfl rfl rfl rfl), trivial⟩) (wk_fz 3 6 rfl ⟨⟨rfl, ⟨(fz_b rfl (.refl _)), (fz_b rfl (.refl _)), trivial⟩⟩, ⟨rfl, ⟨(fz_b ((encI .u8).blws 3) (.refl _)), (fz_b rfl (.refl _)), trivial⟩⟩, ⟨rfl, ⟨(fz_b (FuncRow.enc.blws 3) (.refl _)), (fz_ref Site.enc (Nat.le_of_ble_eq_true rfl) rfl), trivial⟩⟩, trivial⟩ ⟨(fz_b rfl (.refl _)), (fz_b rfl (.refl _)), (fz_b rfl (.refl _)), trivial⟩)))) ?_
      refine E_as ?_
      refine E_jp h (fun s_33 => [(2, (.ptr 0 0 0)), (5, (.ptr 1 0 0)), (116, (.bool s_33))]) (fun s_33 => [.arr 0 [.nils, .nils], .arr 0 [(.sl false 6 (List.map FuncRow.av s_2.2.2)), (.sl false 2 (List.map Site.av s_23.2.2))]]) (fun k_32 h => ?_) (fun s_33 h => ?_)
      · refine E_reg ?_
        refine E_mv (v' := (.ptr 1 0 0)) rfl ?_
        refine E_op0 (v' := (.ptr 1 0 0)) rfl rfl ?_
        refine E_op0 (v' := (.ptr 1 0 1)) rfl rfl ?_
        refine E_op (v' := (.bool s_23.2.1)) (S' := [.arr 0 [.nils, .nils], .arr 0 [(.sl false 1 (List.map (avI .u8) s_23.1)), (.bool s_23.2.1)], .arr 0 [(.sl false 6 (List.map FuncRow.av s_2.2.2)), (.sl false 2 (List.map Site.av s_23.2.2))]]) rfl rfl rfl ?_
        refine E_mv (v' := (.bool s_23.2.1)) rfl ?_
        refine E_gsT (b := s_23.2.1) rfl rfl rfl (fun hb => ?_) (fun hb => ?_)
        · rw [ite_f hb] at h
          refine E_mv (v' := (.ptr 1 0 0)) rfl ?_
          refine E_gh rfl ?_
          refine E_op0 (v' := (.ptr 1 0 0)) rfl rfl ?_
          refine E_gh rfl ?_
          refine E_op0 (v' := (.ptr 1 0 0)) rfl rfl ?_
          refine E_gh rfl ?_
          refine E_op (v' := (.sl false 1 (List.map (avI .u8) s_23.1))) (S' := [.arr 0 [.nils, .nils], .arr 0 [(.sl false 1 (List.map (avI .u8) s_23.1)), (.bool s_23.2.1)], .arr 0 [(.sl false 6 (List.map FuncRow.av s_2.2.2)), (.sl false 2 (List.map Site.av s_23.2.2))]]) rfl rfl rfl ?_
          refine E_gh rfl ?_
          refine E_len rfl ?_
          refine E_gh rfl ?_
          refine E_op0 (v' := (.bool (decide ((List.length s_23.1 : Int) > 0)))) rfl rfl ?_
          refine E_pf rfl rfl ?_
          refine E_mv (v' := (.bool (decide ((List.length s_23.1 : Int) > 0)))) rfl ?_
          refine E_gsT (b := (decide ((List.length s_23.1 : Int) > 0))) rfl rfl rfl (fun hb => ?_) (fun hb => ?_)
          · rw [ite_f hb] at h
            refine E_opw (v' := (Tables.av (Tables.mk s_2.2.2 s_23.2.2))) rfl (.aggL ⟨(.refl _), (.refl _), trivial⟩) rfl ?_
            refine E_gh rfl ?_
            obtain ⟨che_34, hche_34, h⟩ := bd_some h
            refine E_callW (tables_Check_ev  hche_34) rfl ⟨(.refl _), trivial⟩ (blwL_of ⟨(Tables.enc.blw _ 0), trivial⟩) rfl ?_
            refine E_gh rfl ?_
            refine E_op0 (v' := (.bool (che_34 != 0))) rfl rfl ?_
            refine E_pf rfl rfl ?_
            refine E_nil ?_
            exact E_jx _ h (wk_rn [some (0, 0), some (2, 0)] rfl (Nat.le_of_ble_eq_true rfl) ⟨(rn_ob rfl rfl (.cons (rn_b rfl) (.cons (rn_b rfl) (.nil (Nat.zero_le _)))) rfl), (rn_ob rfl rfl (.cons (rn_b (FuncRow.enc.blws 0)) (.cons (rn_b (Site.enc.blws 0)) (.nil (Nat.zero_le _)))) rfl), trivial⟩ ⟨(rn_ptr rfl rfl rfl rfl), (rn_ptr rfl rfl rfl rfl), (rn_b rfl), trivial⟩)
          · rw [ite_t hb] at h
            refine E_gm rfl ?_
            refine E_gm rfl ?_
            refine E_pt rfl rfl ?_
            refine E_nil ?_
            exact E_jx _ h (wk_rn [some (0, 0), some (2, 0)] rfl (Nat.le_of_ble_eq_true rfl) ⟨(rn_ob rfl rfl (.cons (rn_b rfl) (.cons (rn_b rfl) (.nil (Nat.zero_le _)))) rfl), (rn_ob rfl rfl (.cons (rn_b (FuncRow.enc.blws 0)) (.cons (rn_b (Site.enc.blws 0)) (.nil (Nat.zero_le _)))) rfl), trivial⟩ ⟨(rn_ptr rfl rfl rfl rfl), (rn_ptr rfl rfl rfl rfl), (rn_b rfl), trivial⟩)
        · rw [ite_t hb] at h
          refine E_gm rfl ?_
          refine E_gm rfl ?_
          refine E_gm rfl ?_
          refine E_gm rfl ?_
          refine E_gm rfl ?_
          refine E_pt rfl rfl ?_
          refine E_mv (v' := (.bool true)) rfl ?_
          refine E_gm rfl ?_
          refine E_gm rfl ?_
          refine E_gm rfl ?_
          refine E_pt rfl rfl ?_
          refine E_nil ?_
          exact E_jx _ h (wk_rn [some (0, 0), some (2, 0)] rfl (Nat.le_of_ble_eq_true rfl) ⟨(rn_ob rfl rfl (.cons (rn_b rfl) (.cons (rn_b rfl) (.nil (Nat.zero_le _)))) rfl), (rn_ob rfl rfl (.cons (rn_b (FuncRow.enc.blws 0)) (.cons (rn_b (Site.enc.blws 0)) (.nil (Nat.zero_le _)))) rfl), trivial⟩ ⟨(rn_ptr rfl rfl rfl rfl), (rn_ptr rfl rfl rfl rfl), (rn_b rfl), trivial⟩)
      · refine E_sq ?_
        refine E_cs (t := s_33) rfl (fun hb => ?_) (fun hb => ?_)
        · rw [ite_t hb] at h
          refine E_sq ?_
          refine E_reg ?_
          refine E_op0 (v' := (.agg [.nils, .nils])) rfl rfl ?_
          refine E_do (S' := [.arr 0 [.nils, .nils], .arr 0 [(.sl false 6 (List.map FuncRow.av s_2.2.2)), (.sl false 2 (List.map Site.av s_23.2.2))]]) rfl rfl ?_
          refine E_mv (v' := (.int .i64 190)) rfl ?_
          refine E_nil ?_
          refine E_nx ?_
          refine E_ret ?_
          refine E_thr ?_
          cases h
          exact ⟨trivial, _, rfl, (fz_tup ⟨(fz_agg ⟨(fz_b rfl .nil), (fz_b rfl .nil), trivial⟩), (fz_b rfl (.refl _)), trivial⟩)⟩
        · rw [ite_f hb] at h
          refine E_skip ?_
          refine E_nx ?_
          refine E_sq ?_
          refine E_reg ?_
          refine E_opw (v' := (Tables.av (Tables.mk s_2.2.2 s_23.2.2))) rfl (.aggL ⟨(.refl _), (.refl _), trivial⟩) rfl ?_
          refine E_do (S' := [.arr 0 [(.sl false 6 (List.map FuncRow.av s_2.2.2)), (.sl false 2 (List.map Site.av s_23.2.2))], .arr 0 [(.sl false 6 (List.map FuncRow.av s_2.2.2)), (.sl false 2 (List.map Site.av s_23.2.2))]]) rfl rfl ?_
          refine E_mv (v' := (.int .i64 0)) rfl ?_
          refine E_nil ?_
          refine E_nx ?_
          refine E_ret ?_
          cases h
          exact ⟨trivial, _, rfl, (fz_tup ⟨(fz_agg ⟨(fz_b (FuncRow.enc.blws 0) (.refl _)), (fz_b (Site.enc.blws 0) (.refl _)), trivial⟩), (fz_b rfl (.refl _)), trivial⟩)⟩
/- windlass/windlassref19.put -/
def fc32 : FC := (.seq (.reg [⟨(some 4), none, .op (.mv (.v .nils))⟩] [])
  (.seq (.seq (.reg [⟨(some 5), none, .op (.mv (.v (.int .i64 0)))⟩] [])
  (.block 0 (.loop (.seq (.seq (.reg [⟨(some 6), none, .op (.mv (.t 5))⟩,
  ⟨(some 7), none, .op (.bin .none .lss (.t 6) (.v (.int .i64 4)))⟩] [])
  (.cond (.t 7)
  .skip
  (.exit 0)))
  (.seq (.block 1 (.seq (.reg [⟨(some 10), none, .op (.mv (.t 0))⟩,
  ⟨(some 11), none, .op (.mv (.t 1))⟩,
  ⟨(some 12), none, .op (.bin .none .rem (.t 11) (.v (.int .i64 256)))⟩,
  ⟨(some 13), none, .op (.cint .u8 (.t 12))⟩,
  ⟨(some 14), none, .op (.bsl none [(.int .u8 0)] 1 [(0, 1, (.t 13))])⟩,
  ⟨(some 15), none, .op (.app none 1 (.t 10) (.t 14))⟩,
  ⟨(some 0), none, .op (.mv (.t 15))⟩] [])
  (.reg [⟨(some 16), none, .op (.mv (.t 1))⟩,
  ⟨(some 17), none, .op (.bin .none .quo (.t 16) (.v (.int .i64 256)))⟩,
  ⟨(some 1), none, .op (.mv (.t 17))⟩] [])))
  (.reg [⟨(some 8), none, .op (.mv (.t 5))⟩,
  ⟨(some 9), none, .op (.bin .none .add (.t 8) (.v (.int .i64 1)))⟩,
  ⟨(some 5), none, .op (.mv (.t 9))⟩] []))))))
  (.seq (.reg [⟨(some 18), none, .op (.mv (.t 0))⟩,
  ⟨(some 4), none, .op (.mv (.t 18))⟩] [])
  .ret)))
theorem fn32 : Fn3 Try.prog 32 19 [(4, none)] fc32 := ⟨_, _, Try.func32, rfl, rfl, rfl, by kernel_rfl⟩
def windlassref19_put_n_s (fuel : Nat) (v_01 : Int) : Option (List Int) :=
  ((whileN (fun (s_1 : (Int × Int × (List Int))) => ((if (decide (s_1.2.1 < 4)) then ((appL 1 s_1.2.2 [(U8 (Int.tmod s_1.1 256))]).bind fun l_2 => (some (.nxt ((I64 (Int.tdiv s_1.1 256)), (I64 (s_1.2.1 + 1)), l_2)))) else (some (.brk (s_1.1, s_1.2.1, s_1.2.2)))) : Option (Stp (Int × Int × (List Int)) (Option (List Int))))) fuel (v_01, 0, [])).bind (oc (fun (s_1 : (Int × Int × (List Int))) => (some s_1.2.2))))
theorem windlassref19_put_n_ev {fuel : Nat} {v_01 : Int} {r : (List Int)} (h : windlassref19_put_n_s fuel v_01 = some r) : Ev Try.prog 32 [.nils, (.int .i64 v_01)] (hp []) (.ref 0 1 0 (List.length r) none) (hp [.arr 1 (flat (avI .u8) r)]) := by
  unfold windlassref19_put_n_s at h
  refine Ev_end mixed fn32 (by simp) [15] ?_
  unfold fc32
  refine E_sq ?_
  refine E_reg ?_
  refine E_mv (v' := .nils) rfl ?_
  refine E_nil ?_
  refine E_nx ?_
  refine E_as ?_
  refine E_sq ?_
  refine E_reg ?_
  refine E_mv (v' := (.int .i64 0)) rfl ?_
  refine E_nil ?_
  refine E_nx ?_
  refine E_sq ?_
  refine E_whileO (fun s_1 => [(0, (.ref 0 1 0 (List.length s_1.2.2) none)), (1, (.int .i64 s_1.1)), (5, (.int .i64 s_1.2.1))]) (fun s_1 => [.arr 1 (flat (avI .u8) s_1.2.2)]) h (wk_rn [none] rfl (Nat.le_of_ble_eq_true rfl) ⟨(rn_obN rfl rfl rfl), trivial⟩ ⟨(rn_nil rfl), (rn_b rfl), (rn_b rfl), trivial⟩) (fun s_1 c h => ?_) (fun s_1 fr' S' h hw => ?_)
  · refine E_as ?_
    refine E_sq ?_
    refine E_reg ?_
    refine E_mv (v' := (.int .i64 s_1.2.1)) rfl ?_
    refine E_op0 (v' := (.bool (decide (s_1.2.1 < 4)))) rfl rfl ?_
    refine E_nil ?_
    refine E_nx ?_
    refine E_sq ?_
    refine E_cs (t := (decide (s_1.2.1 < 4))) rfl (fun hb => ?_) (fun hb => ?_)
    · rw [ite_t hb] at h
      refine E_skip ?_
      refine E_nx ?_
      refine E_sq ?_
      refine E_block ?_
      refine E_sq ?_
      refine E_reg ?_
      refine E_mv (v' := (.ref 0 1 0 (List.length s_1.2.2) none)) rfl ?_
      refine E_mv (v' := (.int .i64 s_1.1)) rfl ?_
      refine E_op0 (v' := (.int .i64 (Int.tmod s_1.1 256))) rfl rfl ?_
      refine E_op0 (v' := (.int .u8 (U8 (Int.tmod s_1.1 256)))) rfl rfl ?_
      refine E_opw (v' := (.sl true 1 (List.map (avI .u8) [(U8 (Int.tmod s_1.1 256))]))) rfl (.refl _) rfl ?_
      obtain ⟨l_2, hl_2, h⟩ := bd_some h
      refine E_apL (S' := [.arr 2 (flat (avI .u8) l_2)]) (encI .u8) rfl (src_sl [(U8 (Int.tmod s_1.1 256))]) rfl hl_2 rfl ?_
      refine E_mv (v' := (.ref 0 2 0 (List.length l_2) none)) rfl ?_
      refine E_nil ?_
      refine E_nx ?_
      refine E_reg ?_
      refine E_mv (v' := (.int .i64 s_1.1)) rfl ?_
      refine E_op0 (v' := (.int .i64 (I64 (Int.tdiv s_1.1 256)))) rfl rfl ?_
      refine E_mv (v' := (.int .i64 (I64 (Int.tdiv s_1.1 256)))) rfl ?_
      refine E_nil ?_
      refine E_bln ?_
      refine E_nx ?_
      refine E_reg ?_
      refine E_mv (v' := (.int .i64 s_1.2.1)) rfl ?_
      refine E_op0 (v' := (.int .i64 (I64 (s_1.2.1 + 1)))) rfl rfl ?_
      refine E_mv (v' := (.int .i64 (I64 (s_1.2.1 + 1)))) rfl ?_
      refine E_nil ?_
      cases h
      exact L_nn rfl (wk_rn [some (0, 0)] rfl (Nat.le_of_ble_eq_true rfl) ⟨(rn_ob rfl rfl (.refl ((encI .u8).blwf 0 _)) rfl), trivial⟩ ⟨(rn_refL (encI .u8) rfl rfl rfl), (rn_b rfl), (rn_b rfl), trivial⟩)
    · rw [ite_f hb] at h
      refine E_exit ?_
      refine E_the ?_
      cases h
      exact L_bk rfl rfl rfl (wk_rn [some (0, 0)] rfl (Nat.le_of_ble_eq_true rfl) ⟨(rn_ob rfl rfl (.refl ((encI .u8).blwf 0 _)) rfl), trivial⟩ ⟨(rn_refL (encI .u8) rfl rfl rfl), (rn_b rfl), (rn_b rfl), trivial⟩)
  · refine X_nx hw ?_
    refine E_sq ?_
    refine E_reg ?_
    refine E_mv (v' := (.ref 0 1 0 (List.length s_1.2.2) none)) rfl ?_
    refine E_mv (v' := (.ref 0 1 0 (List.length s_1.2.2) none)) rfl ?_
    refine E_nil ?_
    refine E_nx ?_
    refine E_ret ?_
    cases h
    exact ⟨trivial, _, _, rfl, gwk_rn [some (0, 0)] rfl (Nat.le_of_ble_eq_true rfl) ⟨(rn_ob rfl rfl (.refl ((encI .u8).blwf 0 _)) rfl), trivial⟩, (rn_refL (encI .u8) rfl rfl rfl)⟩
def windlassref19_put_r_s (fuel : Nat) (b_00 : (List Int)) (v_01 : Int) : Option (List Int) :=
  ((whileN (fun (s_1 : (Int × Int × (List Int))) => ((if (decide (s_1.2.1 < 4)) then ((appL 1 s_1.2.2 [(U8 (Int.tmod s_1.1 256))]).bind fun l_2 => (some (.nxt ((I64 (Int.tdiv s_1.1 256)), (I64 (s_1.2.1 + 1)), l_2)))) else (some (.brk (s_1.1, s_1.2.1, s_1.2.2)))) : Option (Stp (Int × Int × (List Int)) (Option (List Int))))) fuel (v_01, 0, b_00)).bind (oc (fun (s_1 : (Int × Int × (List Int))) => (some s_1.2.2))))
theorem windlassref19_put_r_ev {fuel : Nat} {b_00 : (List Int)} {v_01 : Int} {r : (List Int)} (h : windlassref19_put_r_s fuel b_00 v_01 = some r) : Ev Try.prog 32 [(.ref 0 0 0 (List.length b_00) none), (.int .i64 v_01)] (hp [.arr 0 (flat (avI .u8) b_00)]) (.ref 0 1 0 (List.length r) none) (hp [.arr 1 (flat (avI .u8) r)]) := by
  unfold windlassref19_put_r_s at h
  refine Ev_end mixed fn32 (by simp) [] ?_
  unfold fc32
  refine E_sq ?_
  refine E_reg ?_
  refine E_mv (v' := .nils) rfl ?_
  refine E_nil ?_
  refine E_nx ?_
  refine E_as ?_
  refine E_sq ?_
  refine E_reg ?_
  refine E_mv (v' := (.int .i64 0)) rfl ?_
  refine E_nil ?_
  refine E_nx ?_
  refine E_sq ?_
  refine E_whileO (fun s_1 => [(0, (.ref 0 1 0 (List.length s_1.2.2) none)), (1, (.int .i64 s_1.1)), (5, (.int .i64 s_1.2.1))]) (fun s_1 => [.arr 1 (flat (avI .u8) s_1.2.2)]) h (wk_rn [some (0, 0)] rfl (Nat.le_of_ble_eq_true rfl) ⟨(rn_obV rfl rfl (.refl ((encI .u8).blwf 0 _)) rfl rfl), trivial⟩ ⟨(rn_refL (encI .u8) rfl rfl rfl), (rn_b rfl), (rn_b rfl), trivial⟩) (fun s_1 c h => ?_) (fun s_1 fr' S' h hw => ?_)
  · refine E_as ?_
    refine E_sq ?_
    refine E_reg ?_
    refine E_mv (v' := (.int .i64 s_1.2.1)) rfl ?_
    refine E_op0 (v' := (.bool (decide (s_1.2.1 < 4)))) rfl rfl ?_
    refine E_nil ?_
    refine E_nx ?_
    refine E_sq ?_
    refine E_cs (t := (decide (s_1.2.1 < 4))) rfl (fun hb => ?_) (fun hb => ?_)
    · rw [ite_t hb] at h
      refine E_skip ?_
      refine E_nx ?_
      refine E_sq ?_
      refine E_block ?_
      refine E_sq ?_
      refine E_reg ?_
      refine E_mv (v' := (.ref 0 1 0 (List.length s_1.2.2) none)) rfl ?_
      refine E_mv (v' := (.int .i64 s_1.1)) rfl ?_
      refine E_op0 (v' := (.int .i64 (Int.tmod s_1.1 256))) rfl rfl ?_
      refine E_op0 (v' := (.int .u8 (U8 (Int.tmod s_1.1 256)))) rfl rfl ?_
      refine E_opw (v' := (.sl true 1 (List.map (avI .u8) [(U8 (Int.tmod s_1.1 256))]))) rfl (.refl _) rfl ?_
      obtain ⟨l_2, hl_2, h⟩ := bd_some h
      refine E_apL (S' := [.arr 2 (flat (avI .u8) l_2)]) (encI .u8) rfl (src_sl [(U8 (Int.tmod s_1.1 256))]) rfl hl_2 rfl ?_
      refine E_mv (v' := (.ref 0 2 0 (List.length l_2) none)) rfl ?_
      refine E_nil ?_
      refine E_nx ?_
      refine E_reg ?_
      refine E_mv (v' := (.int .i64 s_1.1)) rfl ?_
      refine E_op0 (v' := (.int .i64 (I64 (Int.tdiv s_1.1 256)))) rfl rfl ?_
      refine E_mv (v' := (.int .i64 (I64 (Int.tdiv s_1.1 256)))) rfl ?_
      refine E_nil ?_
      refine E_bln ?_
      refine E_nx ?_
      refine E_reg ?_
      refine E_mv (v' := (.int .i64 s_1.2.1)) rfl ?_
      refine E_op0 (v' := (.int .i64 (I64 (s_1.2.1 + 1)))) rfl rfl ?_
      refine E_mv (v' := (.int .i64 (I64 (s_1.2.1 + 1)))) rfl ?_
      refine E_nil ?_
      cases h
      exact L_nn rfl (wk_rn [some (0, 0)] rfl (Nat.le_of_ble_eq_true rfl) ⟨(rn_obV rfl rfl (.refl ((encI .u8).blwf 0 _)) rfl rfl), trivial⟩ ⟨(rn_refL (encI .u8) rfl rfl rfl), (rn_b rfl), (rn_b rfl), trivial⟩)
    · rw [ite_f hb] at h
      refine E_exit ?_
      refine E_the ?_
      cases h
      exact L_bk rfl rfl rfl (wk_rn [some (0, 0)] rfl (Nat.le_of_ble_eq_true rfl) ⟨(rn_obV rfl rfl (.refl ((encI .u8).blwf 0 _)) rfl rfl), trivial⟩ ⟨(rn_refL (encI .u8) rfl rfl rfl), (rn_b rfl), (rn_b rfl), trivial⟩)
  · refine X_nx hw ?_
    refine E_sq ?_
    refine E_reg ?_
    refine E_mv (v' := (.ref 0 1 0 (List.length s_1.2.2) none)) rfl ?_
    refine E_mv (v' := (.ref 0 1 0 (List.length s_1.2.2) none)) rfl ?_
    refine E_nil ?_
    refine E_nx ?_
    refine E_ret ?_
    cases h
    exact ⟨trivial, _, _, rfl, gwk_rn [some (0, 0)] rfl (Nat.le_of_ble_eq_true rfl) ⟨(rn_obV rfl rfl (.refl ((encI .u8).blwf 0 _)) rfl rfl), trivial⟩, (rn_refL (encI .u8) rfl rfl rfl)⟩
/- windlass/windlassref19.Bytes -/
def fc17 : FC := (.seq (.reg [⟨(some 1), none, .op (.box (.t 0))⟩,
  ⟨(some 2), none, .op (.mv (.v .nils))⟩] [])
  (.seq (.reg [⟨(some 14), none, .op (.fad 0 (.t 1))⟩,
  ⟨(some 15), none, .op (.load none (.t 14))⟩,
  ⟨(some 16), none, .op (.len .sl (.t 15))⟩,
  ⟨(some 17), none, .call 32 [(.v .nils), (.t 16)]⟩,
  ⟨(some 3), none, .op (.mv (.t 17))⟩] [])
  (.seq (.seq (.reg [⟨(some 18), none, .op (.fad 0 (.t 1))⟩,
  ⟨(some 19), none, .op (.load none (.t 18))⟩,
  ⟨(some 20), none, .op (.len .sl (.t 19))⟩,
  ⟨(some 21), none, .op (.mv (.v (.int .i64 0)))⟩] [])
  (.block 0 (.loop (.seq (.reg [⟨(some 22), none, .op (.bin .none .lss (.t 21) (.t 20))⟩] [])
  (.seq (.cond (.t 22)
  .skip
  (.exit 0))
  (.seq (.block 1 (.seq (.reg [⟨(some 23), none, .op (.iad none (some 6) (.t 19) (.t 21))⟩,
  ⟨(some 24), none, .op (.load (some 6) (.t 23))⟩,
  ⟨(some 5), none, .op (.new [(.int .i64 0), (.int .i64 0), (.int .i64 0), .nils, .nils, (.int .i64 0)])⟩,
  ⟨none, none, .op (.store 6 (.t 5) (.t 24))⟩] [])
  (.seq (.reg [⟨(some 25), none, .op (.mv (.t 3))⟩,
  ⟨(some 26), none, .op (.fad 0 (.t 5))⟩,
  ⟨(some 27), none, .op (.load none (.t 26))⟩,
  ⟨(some 28), none, .call 32 [(.t 25), (.t 27)]⟩,
  ⟨(some 3), none, .op (.mv (.t 28))⟩] [])
  (.seq (.reg [⟨(some 29), none, .op (.mv (.t 3))⟩,
  ⟨(some 30), none, .op (.fad 1 (.t 5))⟩,
  ⟨(some 31), none, .op (.load none (.t 30))⟩,
  ⟨(some 32), none, .call 32 [(.t 29), (.t 31)]⟩,
  ⟨(some 3), none, .op (.mv (.t 32))⟩] [])
  (.seq (.reg [⟨(some 33), none, .op (.mv (.t 3))⟩,
  ⟨(some 34), none, .op (.fad 2 (.t 5))⟩,
  ⟨(some 35), none, .op (.load none (.t 34))⟩,
  ⟨(some 36), none, .call 32 [(.t 33), (.t 35)]⟩,
  ⟨(some 3), none, .op (.mv (.t 36))⟩] [])
  (.seq (.reg [⟨(some 37), none, .op (.mv (.t 3))⟩,
  ⟨(some 38), none, .op (.fad 5 (.t 5))⟩,
  ⟨(some 39), none, .op (.load none (.t 38))⟩,
  ⟨(some 40), none, .op (.bin .none .add (.t 39) (.v (.int .i64 1)))⟩,
  ⟨(some 41), none, .call 32 [(.t 37), (.t 40)]⟩,
  ⟨(some 3), none, .op (.mv (.t 41))⟩] [])
  (.seq (.reg [⟨(some 42), none, .op (.mv (.t 3))⟩,
  ⟨(some 43), none, .op (.fad 3 (.t 5))⟩,
  ⟨(some 44), none, .op (.load none (.t 43))⟩,
  ⟨(some 45), none, .op (.len .sl (.t 44))⟩,
  ⟨(some 46), none, .call 32 [(.t 42), (.t 45)]⟩,
  ⟨(some 3), none, .op (.mv (.t 46))⟩] [])
  (.seq (.seq (.reg [⟨(some 47), none, .op (.fad 3 (.t 5))⟩,
  ⟨(some 48), none, .op (.load none (.t 47))⟩,
  ⟨(some 49), none, .op (.len .sl (.t 48))⟩,
  ⟨(some 50), none, .op (.mv (.v (.int .i64 0)))⟩] [])
  (.block 2 (.loop (.seq (.reg [⟨(some 51), none, .op (.bin .none .lss (.t 50) (.t 49))⟩] [])
  (.seq (.cond (.t 51)
  .skip
  (.exit 2))
  (.seq (.block 3 (.seq (.reg [⟨(some 52), none, .op (.iad none none (.t 48) (.t 50))⟩,
  ⟨(some 53), none, .op (.load none (.t 52))⟩,
  ⟨(some 7), none, .op (.mv (.t 53))⟩] [])
  (.reg [⟨(some 54), none, .op (.mv (.t 3))⟩,
  ⟨(some 55), none, .op (.mv (.t 7))⟩,
  ⟨(some 56), none, .op (.cint .i64 (.t 55))⟩,
  ⟨(some 57), none, .call 32 [(.t 54), (.t 56)]⟩,
  ⟨(some 3), none, .op (.mv (.t 57))⟩] [])))
  (.reg [⟨(some 58), none, .op (.bin .none .add (.t 50) (.v (.int .i64 1)))⟩,
  ⟨(some 50), none, .op (.mv (.t 58))⟩] [])))))))
  (.seq (.reg [⟨(some 59), none, .op (.mv (.t 3))⟩,
  ⟨(some 60), none, .op (.fad 4 (.t 5))⟩,
  ⟨(some 61), none, .op (.load none (.t 60))⟩,
  ⟨(some 62), none, .op (.len .sl (.t 61))⟩,
  ⟨(some 63), none, .call 32 [(.t 59), (.t 62)]⟩,
  ⟨(some 3), none, .op (.mv (.t 63))⟩] [])
  (.seq (.reg [⟨(some 64), none, .op (.fad 4 (.t 5))⟩,
  ⟨(some 65), none, .op (.load none (.t 64))⟩,
  ⟨(some 66), none, .op (.len .sl (.t 65))⟩,
  ⟨(some 67), none, .op (.mv (.v (.int .i64 0)))⟩] [])
  (.block 4 (.loop (.seq (.reg [⟨(some 68), none, .op (.bin .none .lss (.t 67) (.t 66))⟩] [])
  (.seq (.cond (.t 68)
  .skip
  (.exit 4))
  (.seq (.block 5 (.seq (.reg [⟨(some 69), none, .op (.iad none (some 2) (.t 65) (.t 67))⟩,
  ⟨(some 70), none, .op (.load (some 2) (.t 69))⟩,
  ⟨(some 9), none, .op (.new [(.int .i64 0), (.int .i64 0)])⟩,
  ⟨none, none, .op (.store 2 (.t 9) (.t 70))⟩] [])
  (.seq (.reg [⟨(some 71), none, .op (.mv (.t 3))⟩,
  ⟨(some 72), none, .op (.fad 0 (.t 9))⟩,
  ⟨(some 73), none, .op (.load none (.t 72))⟩,
  ⟨(some 74), none, .call 32 [(.t 71), (.t 73)]⟩,
  ⟨(some 3), none, .op (.mv (.t 74))⟩] [])
  (.reg [⟨(some 75), none, .op (.mv (.t 3))⟩,
  ⟨(some 76), none, .op (.fad 1 (.t 9))⟩,
  ⟨(some 77), none, .op (.load none (.t 76))⟩,
  ⟨(some 78), none, .call 32 [(.t 75), (.t 77)]⟩,
  ⟨(some 3), none, .op (.mv (.t 78))⟩] []))))
  (.reg [⟨(some 79), none, .op (.bin .none .add (.t 67) (.v (.int .i64 1)))⟩,
  ⟨(some 67), none, .op (.mv (.t 79))⟩] []))))))))))))))))
  (.reg [⟨(some 80), none, .op (.bin .none .add (.t 21) (.v (.int .i64 1)))⟩,
  ⟨(some 21), none, .op (.mv (.t 80))⟩] [])))))))
  (.seq (.reg [⟨(some 81), none, .op (.mv (.t 3))⟩,
  ⟨(some 82), none, .op (.fad 1 (.t 1))⟩,
  ⟨(some 83), none, .op (.load none (.t 82))⟩,
  ⟨(some 84), none, .op (.len .sl (.t 83))⟩,
  ⟨(some 85), none, .call 32 [(.t 81), (.t 84)]⟩,
  ⟨(some 3), none, .op (.mv (.t 85))⟩] [])
  (.seq (.seq (.reg [⟨(some 86), none, .op (.fad 1 (.t 1))⟩,
  ⟨(some 87), none, .op (.load none (.t 86))⟩,
  ⟨(some 88), none, .op (.len .sl (.t 87))⟩,
  ⟨(some 89), none, .op (.mv (.v (.int .i64 0)))⟩] [])
  (.block 6 (.loop (.seq (.reg [⟨(some 90), none, .op (.bin .none .lss (.t 89) (.t 88))⟩] [])
  (.seq (.cond (.t 90)
  .skip
  (.exit 6))
  (.seq (.block 7 (.seq (.reg [⟨(some 91), none, .op (.iad none (some 2) (.t 87) (.t 89))⟩,
  ⟨(some 92), none, .op (.load (some 2) (.t 91))⟩,
  ⟨(some 11), none, .op (.new [(.int .i64 0), .nils])⟩,
  ⟨none, none, .op (.store 2 (.t 11) (.t 92))⟩] [])
  (.seq (.reg [⟨(some 93), none, .op (.mv (.t 3))⟩,
  ⟨(some 94), none, .op (.fad 0 (.t 11))⟩,
  ⟨(some 95), none, .op (.load none (.t 94))⟩,
  ⟨(some 96), none, .call 32 [(.t 93), (.t 95)]⟩,
  ⟨(some 3), none, .op (.mv (.t 96))⟩] [])
  (.seq (.reg [⟨(some 97), none, .op (.mv (.t 3))⟩,
  ⟨(some 98), none, .op (.fad 1 (.t 11))⟩,
  ⟨(some 99), none, .op (.load none (.t 98))⟩,
  ⟨(some 100), none, .op (.len .sl (.t 99))⟩,
  ⟨(some 101), none, .call 32 [(.t 97), (.t 100)]⟩,
  ⟨(some 3), none, .op (.mv (.t 101))⟩] [])
  (.seq (.reg [⟨(some 102), none, .op (.fad 1 (.t 11))⟩,
  ⟨(some 103), none, .op (.load none (.t 102))⟩,
  ⟨(some 104), none, .op (.len .sl (.t 103))⟩,
  ⟨(some 105), none, .op (.mv (.v (.int .i64 0)))⟩] [])
  (.block 8 (.loop (.seq (.reg [⟨(some 106), none, .op (.bin .none .lss (.t 105) (.t 104))⟩] [])
  (.seq (.cond (.t 106)
  .skip
  (.exit 8))
  (.seq (.block 9 (.seq (.reg [⟨(some 107), none, .op (.iad none none (.t 103) (.t 105))⟩,
  ⟨(some 108), none, .op (.load none (.t 107))⟩,
  ⟨(some 13), none, .op (.mv (.t 108))⟩] [])
  (.reg [⟨(some 109), none, .op (.mv (.t 3))⟩,
  ⟨(some 110), none, .op (.mv (.t 13))⟩,
  ⟨(some 111), none, .call 32 [(.t 109), (.t 110)]⟩,
  ⟨(some 3), none, .op (.mv (.t 111))⟩] [])))
  (.reg [⟨(some 112), none, .op (.bin .none .add (.t 105) (.v (.int .i64 1)))⟩,
  ⟨(some 105), none, .op (.mv (.t 112))⟩] [])))))))))))
  (.reg [⟨(some 113), none, .op (.bin .none .add (.t 89) (.v (.int .i64 1)))⟩,
  ⟨(some 89), none, .op (.mv (.t 113))⟩] [])))))))
  (.seq (.reg [⟨(some 114), none, .op (.mv (.t 3))⟩,
  ⟨(some 2), none, .op (.mv (.t 114))⟩] [])
  .ret))))))
theorem fn17 : Fn3 Try.prog 17 115 [(2, none)] fc17 := ⟨_, _, Try.func17, rfl, rfl, rfl, by kernel_rfl⟩
end Go.Proofs.Ytnmicfhdpnabcaa
