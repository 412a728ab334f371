/- What the functions compute, and that they do (printed by wip/gen/gen.py), part 4. -/
import Derived.Test.YtiocagilhbomgaaGenKc
namespace Go.Proofs.Ytiocagilhbomgaa
open Go Go.Ab
set_option maxRecDepth 20000
set_option maxHeartbeats 2000000
set_option linter.unusedVariables false
set_option linter.unusedSimpArgs false
def windlasslaw05_KindsChecks_s (fuel : Nat) (p_00 : Program) : Option Bool :=
  ((windlasslaw05_first_s fuel).bind fun fir_1 => (if (!fir_1) then (some false) else ((windlassref03_Copy_s p_00).bind fun cop_2 => ((kinds_Check_s fuel p_00).bind fun che_3 => ((windlassref05_Check_s fuel cop_2).bind fun che_4 => ((windlassref03_Same_s p_00 cop_2).bind fun sam_5 => (if (!sam_5) then (some false) else (if (che_4.2 != 0) then (jp (fun (s_7 : Bool) => (some s_7)) (fun k_6 => (if (Option.isNone che_3.1) then (k_6 (che_3.2 == che_4.2)) else (k_6 false)))) else (jp (fun (s_9 : Bool) => (if s_9 then (some false) else ((rni (fun (i_12 : Nat) (s_11 : Unit) => ((jp (fun (s_14 : Bool) => (if s_14 then (some (.ret (some false))) else ((getI che_4.1 (i_12 : Int)).bind fun y_19 => ((rng (fun (i_21 : Nat) (s_22 : ByteArray) (s_20 : Unit) => ((jp (fun (s_25 : Bool) => (if s_25 then (some (.ret (some (.ret (some false))))) else (some (.nxt ())))) (fun k_24 => (che_3.1.bind fun p_26 => ((getI p_26.Reached (i_12 : Int)).bind fun y_27 => ((getI y_27 (i_21 : Int)).bind fun y_28 => (if (!(y_28 == (!(ByteArray.toList s_22 == ByteArray.toList (ByteArray.mk #[63]))))) then (k_24 true) else (if (!(ByteArray.toList s_22 == ByteArray.toList (ByteArray.mk #[63]))) then ((getI p_26.Stacks (i_12 : Int)).bind fun y_29 => ((getI y_29 (i_21 : Int)).bind fun y_30 => ((windlassref05_Told_s y_30 s_22).bind fun tol_31 => (if (!tol_31) then (k_24 true) else (if (ByteArray.toList s_22 == ByteArray.toList (ByteArray.mk #[63])) then (k_24 ((List.length y_30 : Int) != 0)) else (k_24 false)))))) else (if (ByteArray.toList s_22 == ByteArray.toList (ByteArray.mk #[63])) then ((getI p_26.Stacks (i_12 : Int)).bind fun y_32 => ((getI y_32 (i_21 : Int)).bind fun y_33 => (k_24 ((List.length y_33 : Int) != 0)))) else (k_24 false))))))))) : Option (Stp Unit (Option (Stp Unit (Option Bool)))))) y_19 ()).bind (oc (fun (s_20 : Unit) => (some (.nxt ())))))))) (fun k_13 => (che_3.1.bind fun p_15 => ((getI p_15.Reached (i_12 : Int)).bind fun y_16 => ((getI che_4.1 (i_12 : Int)).bind fun y_17 => (if ((List.length y_16 : Int) != (List.length y_17 : Int)) then (k_13 true) else ((getI p_15.Stacks (i_12 : Int)).bind fun y_18 => (k_13 ((List.length y_18 : Int) != (List.length y_17 : Int)))))))))) : Option (Stp Unit (Option Bool)))) (List.length che_4.1 : Int) ()).bind (oc (fun (s_11 : Unit) => (some true)))))) (fun k_8 => (if (Option.isNone che_3.1) then (k_8 true) else (if (che_3.2 != 0) then (k_8 true) else (che_3.1.bind fun p_10 => (if ((List.length p_10.Reached : Int) != (List.length che_4.1 : Int)) then (k_8 true) else (k_8 ((List.length p_10.Stacks : Int) != (List.length che_4.1 : Int)))))))))))))))))
theorem windlasslaw05_KindsChecks_ev {fuel : Nat} {p_00 : Program} {r : Bool} (h : windlasslaw05_KindsChecks_s fuel p_00 = some r) : PureEv Try.prog 3 [(Program.av p_00)] (.bool r) := by
  unfold windlasslaw05_KindsChecks_s at h
  refine PureEv_end mixed fn3 (by simp) [3] 6 ?_
  unfold fc3
  refine E_sq ?_
  refine E_reg ?_
  refine E_op0 (v' := (.cptr (Program.av p_00).cells 0)) rfl rfl ?_
  refine E_mv (v' := (.bool false)) rfl ?_
  refine E_nil ?_
  refine E_nx ?_
  refine E_as ?_
  refine E_sq ?_
  refine E_reg ?_
  obtain ⟨fir_1, hfir_1, h⟩ := bd_some h
  refine E_callW (windlasslaw05_first_ev (fuel := fuel)  hfir_1) rfl trivial (blwL_of trivial) rfl ?_
  refine E_op0 (v' := (.bool (!fir_1))) rfl rfl ?_
  refine E_nil ?_
  refine E_nx ?_
  refine E_sq ?_
  refine E_cs (t := (!fir_1)) rfl (fun hb => ?_) (fun hb => ?_)
  · rw [ite_t hb] at h
    refine E_sq ?_
    refine E_reg ?_
    refine E_mv (v' := (.bool false)) rfl ?_
    refine E_nil ?_
    refine E_nx ?_
    refine E_ret ?_
    refine E_thr ?_
    cases h
    exact ⟨trivial, _, rfl, (fz_b rfl (.refl _))⟩
  · rw [ite_f hb] at h
    refine E_skip ?_
    refine E_nx ?_
    refine E_sq ?_
    refine E_reg ?_
    refine E_op0 (v' := (Program.av p_00)) rfl rfl ?_
    obtain ⟨cop_2, hcop_2, h⟩ := bd_some h
    refine E_callW (windlassref03_Copy_ev  hcop_2) rfl ⟨(.refl _), trivial⟩ (blwL_of ⟨(Program.enc.blw _ 0), trivial⟩) (Program.enc.blw _ 0) ?_
    refine E_op (v' := .ptr 0 0 0) (S' := [.arr 0 [.nils]]) rfl rfl rfl ?_
    refine E_do (S' := [.arr 0 [(.sl false 5 (List.map Func.av cop_2.Funcs))]]) rfl rfl ?_
    refine E_nil ?_
    refine E_nx ?_
    refine E_sq ?_
    refine E_reg ?_
    refine E_op0 (v' := (Program.av p_00)) rfl rfl ?_
    obtain ⟨che_3, hche_3, h⟩ := bd_some h
    refine E_callW (kinds_Check_ev (fuel := fuel)  hche_3) rfl ⟨(.refl _), trivial⟩ (blwL_of ⟨(Program.enc.blw _ 0), trivial⟩) (tup_blw ⟨((encP Types.enc).blw _ 0), rfl, trivial⟩) ?_
    refine E_mv (v' := (.tup [(avP Types.av che_3.1), (.int .i64 che_3.2)])) rfl ?_
    refine E_op0 (v' := (avP Types.av che_3.1)) rfl rfl ?_
    refine E_op0 (v' := (.int .i64 che_3.2)) rfl rfl ?_
    refine E_mv (v' := (avP Types.av che_3.1)) rfl ?_
    refine E_mv (v' := (.int .i64 che_3.2)) rfl ?_
    refine E_nil ?_
    refine E_nx ?_
    refine E_sq ?_
    refine E_reg ?_
    refine E_opw (v' := (Program.av cop_2)) rfl (.aggL ⟨(.refl _), trivial⟩) rfl ?_
    obtain ⟨che_4, hche_4, h⟩ := bd_some h
    refine E_callW (windlassref05_Check_ev (fuel := fuel)  hche_4) rfl ⟨(.refl _), trivial⟩ (blwL_of ⟨(Program.enc.blw _ 0), trivial⟩) (tup_blw ⟨((encL encS 1).blws 0), rfl, trivial⟩) ?_
    refine E_mv (v' := (.tup [(.sl false 1 (List.map (avL 1 avS) che_4.1)), (.int .i64 che_4.2)])) rfl ?_
    refine E_op0 (v' := (.sl false 1 (List.map (avL 1 avS) che_4.1))) rfl rfl ?_
    refine E_op0 (v' := (.int .i64 che_4.2)) rfl rfl ?_
    refine E_mv (v' := (.sl false 1 (List.map (avL 1 avS) che_4.1))) rfl ?_
    refine E_mv (v' := (.int .i64 che_4.2)) rfl ?_
    refine E_nil ?_
    refine E_nx ?_
    refine E_as ?_
    refine E_sq ?_
    refine E_reg ?_
    refine E_op0 (v' := (Program.av p_00)) rfl rfl ?_
    refine E_opw (v' := (Program.av cop_2)) rfl (.aggL ⟨(.refl _), trivial⟩) rfl ?_
    obtain ⟨sam_5, hsam_5, h⟩ := bd_some h
    refine E_callW (windlassref03_Same_ev  hsam_5) rfl ⟨(.refl _), (.refl _), trivial⟩ (blwL_of ⟨(Program.enc.blw _ 0), (Program.enc.blw _ 0), trivial⟩) rfl ?_
    refine E_op0 (v' := (.bool (!sam_5))) rfl rfl ?_
    refine E_nil ?_
    refine E_nx ?_
    refine E_sq ?_
    refine E_cs (t := (!sam_5)) rfl (fun hb => ?_) (fun hb => ?_)
    · rw [ite_t hb] at h
      refine E_sq ?_
      refine E_reg ?_
      refine E_mv (v' := (.bool false)) rfl ?_
      refine E_nil ?_
      refine E_nx ?_
      refine E_ret ?_
      refine E_thr ?_
      cases h
      exact ⟨trivial, _, rfl, (fz_b rfl (.refl _))⟩
    · rw [ite_f hb] at h
      refine E_skip ?_
      refine E_nx ?_
      refine E_as ?_
      refine E_sq ?_
      refine E_reg ?_
      refine E_mv (v' := (.int .i64 che_4.2)) rfl ?_
      refine E_op0 (v' := (.bool (che_4.2 != 0))) rfl rfl ?_
      refine E_nil ?_
      refine E_nx ?_
      refine E_sq ?_
      refine E_cs (t := (che_4.2 != 0)) rfl (fun hb => ?_) (fun hb => ?_)
      · rw [ite_t hb] at h
        refine E_jp h (fun s_7 => [(2, (.bool s_7))]) (fun s_7 => []) (fun k_6 h => ?_) (fun s_7 h => ?_)
        · refine E_reg ?_
          refine E_mv (v' := (avP Types.av che_3.1)) rfl ?_
          refine E_pne (o := che_3.1) rfl rfl ?_
          refine E_mv (v' := (.bool (Option.isNone che_3.1))) rfl ?_
          refine E_gsT (b := (Option.isNone che_3.1)) rfl rfl rfl (fun hb => ?_) (fun hb => ?_)
          · rw [ite_t hb] at h
            refine E_mv (v' := (.int .i64 che_3.2)) rfl ?_
            refine E_gh rfl ?_
            refine E_mv (v' := (.int .i64 che_4.2)) rfl ?_
            refine E_gh rfl ?_
            refine E_op0 (v' := (.bool (che_3.2 == che_4.2))) rfl rfl ?_
            refine E_pt rfl rfl ?_
            refine E_mv (v' := (.bool (che_3.2 == che_4.2))) rfl ?_
            refine E_nil ?_
            exact E_jx _ h (wk_rn [] rfl (Nat.le_of_ble_eq_true rfl) trivial ⟨(rn_b rfl), trivial⟩)
          · rw [ite_f hb] at h
            refine E_gm rfl ?_
            refine E_gm rfl ?_
            refine E_pf rfl rfl ?_
            refine E_mv (v' := (.bool false)) rfl ?_
            refine E_nil ?_
            exact E_jx _ h (wk_rn [] rfl (Nat.le_of_ble_eq_true rfl) trivial ⟨(rn_b rfl), trivial⟩)
        · refine E_ret ?_
          refine E_thr ?_
          cases h
          exact ⟨trivial, _, rfl, (fz_b rfl (.refl _))⟩
      · rw [ite_f hb] at h
        refine E_skip ?_
        refine E_nx ?_
        refine E_as ?_
        refine E_jp h (fun s_9 => [(4, (avP Types.av che_3.1)), (6, (.sl false 1 (List.map (avL 1 avS) che_4.1))), (63, (.bool s_9))]) (fun s_9 => []) (fun k_8 h => ?_) (fun s_9 h => ?_)
        · refine E_reg ?_
          refine E_mv (v' := (avP Types.av che_3.1)) rfl ?_
          refine E_pne (o := che_3.1) rfl rfl ?_
          refine E_mv (v' := (.bool (Option.isNone che_3.1))) rfl ?_
          refine E_gsT (b := (Option.isNone che_3.1)) rfl rfl rfl (fun hb => ?_) (fun hb => ?_)
          · rw [ite_f hb] at h
            refine E_mv (v' := (.int .i64 che_3.2)) rfl ?_
            refine E_gh rfl ?_
            refine E_op0 (v' := (.bool (che_3.2 != 0))) rfl rfl ?_
            refine E_pf rfl rfl ?_
            refine E_mv (v' := (.bool (che_3.2 != 0))) rfl ?_
            refine E_gsT (b := (che_3.2 != 0)) rfl rfl rfl (fun hb => ?_) (fun hb => ?_)
            · rw [ite_f hb] at h
              refine E_mv (v' := (avP Types.av che_3.1)) rfl ?_
              refine E_gh rfl ?_
              obtain ⟨p_10, hp_10, h⟩ := bd_some h
              refine E_nck (f := Types.av) rfl hp_10 ?_
              refine E_gh rfl ?_
              refine E_op0 (v' := (.cptr (Types.av p_10).cells 0)) rfl rfl ?_
              refine E_gh rfl ?_
              refine E_op0 (v' := (.sl false 1 (List.map (avL 1 avB) p_10.Reached))) rfl rfl ?_
              refine E_gh rfl ?_
              refine E_len rfl ?_
              refine E_gh rfl ?_
              refine E_mv (v' := (.sl false 1 (List.map (avL 1 avS) che_4.1))) rfl ?_
              refine E_gh rfl ?_
              refine E_len rfl ?_
              refine E_gh rfl ?_
              refine E_op0 (v' := (.bool ((List.length p_10.Reached : Int) != (List.length che_4.1 : Int)))) rfl rfl ?_
              refine E_pf rfl rfl ?_
              refine E_mv (v' := (.bool ((List.length p_10.Reached : Int) != (List.length che_4.1 : Int)))) rfl ?_
              refine E_gsT (b := ((List.length p_10.Reached : Int) != (List.length che_4.1 : Int))) rfl rfl rfl (fun hb => ?_) (fun hb => ?_)
              · rw [ite_f hb] at h
                refine E_mv (v' := (avP Types.av che_3.1)) rfl ?_
                refine E_gh rfl ?_
                refine E_nck (f := Types.av) rfl hp_10 ?_
                refine E_gh rfl ?_
                refine E_op0 (v' := (.cptr (Types.av p_10).cells 1)) rfl rfl ?_
                refine E_gh rfl ?_
                refine E_op0 (v' := (.sl false 1 (List.map (avL 1 (avL 1 (avI .u8))) p_10.Stacks))) rfl rfl ?_
                refine E_gh rfl ?_
                refine E_len rfl ?_
                refine E_gh rfl ?_
                refine E_mv (v' := (.sl false 1 (List.map (avL 1 avS) che_4.1))) rfl ?_
                refine E_gh rfl ?_
                refine E_len rfl ?_
                refine E_gh rfl ?_
                refine E_op0 (v' := (.bool ((List.length p_10.Stacks : Int) != (List.length che_4.1 : Int)))) rfl rfl ?_
                refine E_pf rfl rfl ?_
                refine E_nil ?_
                exact E_jx _ h (wk_rn [] rfl (Nat.le_of_ble_eq_true rfl) trivial ⟨(rn_b ((encP Types.enc).blw _ 0)), (rn_b ((encL encS 1).blws 0)), (rn_b rfl), trivial⟩)
              · rw [ite_t hb] at h
                refine E_gm rfl ?_
                refine E_gm rfl ?_
                refine E_gm rfl ?_
                refine E_gm rfl ?_
                refine E_gm rfl ?_
                refine E_gm rfl ?_
                refine E_gm rfl ?_
                refine E_pt rfl rfl ?_
                refine E_nil ?_
                exact E_jx _ h (wk_rn [] rfl (Nat.le_of_ble_eq_true rfl) trivial ⟨(rn_b ((encP Types.enc).blw _ 0)), (rn_b ((encL encS 1).blws 0)), (rn_b rfl), trivial⟩)
            · rw [ite_t hb] at h
              refine E_gm rfl ?_
              refine E_gm rfl ?_
              refine E_gm rfl ?_
              refine E_gm rfl ?_
              refine E_gm rfl ?_
              refine E_gm rfl ?_
              refine E_gm rfl ?_
              refine E_pt rfl rfl ?_
              refine E_mv (v' := (.bool true)) rfl ?_
              refine E_gm rfl ?_
              refine E_gm rfl ?_
              refine E_gm rfl ?_
              refine E_gm rfl ?_
              refine E_gm rfl ?_
              refine E_gm rfl ?_
              refine E_gm rfl ?_
              refine E_gm rfl ?_
              refine E_pt rfl rfl ?_
              refine E_nil ?_
              exact E_jx _ h (wk_rn [] rfl (Nat.le_of_ble_eq_true rfl) trivial ⟨(rn_b ((encP Types.enc).blw _ 0)), (rn_b ((encL encS 1).blws 0)), (rn_b rfl), trivial⟩)
          · rw [ite_t hb] at h
            refine E_gm rfl ?_
            refine E_pt rfl rfl ?_
            refine E_mv (v' := (.bool true)) rfl ?_
            refine E_gm rfl ?_
            refine E_gm rfl ?_
            refine E_gm rfl ?_
            refine E_gm rfl ?_
            refine E_gm rfl ?_
            refine E_gm rfl ?_
            refine E_gm rfl ?_
            refine E_gm rfl ?_
            refine E_pt rfl rfl ?_
            refine E_mv (v' := (.bool true)) rfl ?_
            refine E_gm rfl ?_
            refine E_gm rfl ?_
            refine E_gm rfl ?_
            refine E_gm rfl ?_
            refine E_gm rfl ?_
            refine E_gm rfl ?_
            refine E_gm rfl ?_
            refine E_gm rfl ?_
            refine E_pt rfl rfl ?_
            refine E_nil ?_
            exact E_jx _ h (wk_rn [] rfl (Nat.le_of_ble_eq_true rfl) trivial ⟨(rn_b ((encP Types.enc).blw _ 0)), (rn_b ((encL encS 1).blws 0)), (rn_b rfl), trivial⟩)
        · refine E_sq ?_
          refine E_cs (t := s_9) rfl (fun hb => ?_) (fun hb => ?_)
          · rw [ite_t hb] at h
            refine E_sq ?_
            refine E_reg ?_
            refine E_mv (v' := (.bool false)) rfl ?_
            refine E_nil ?_
            refine E_nx ?_
            refine E_ret ?_
            refine E_thr ?_
            cases h
            exact ⟨trivial, _, rfl, (fz_b rfl (.refl _))⟩
          · rw [ite_f hb] at h
            refine E_skip ?_
            refine E_nx ?_
            refine E_as ?_
            refine E_sq ?_
            refine E_reg ?_
            refine E_mv (v' := (.sl false 1 (List.map (avL 1 avS) che_4.1))) rfl ?_
            refine E_len rfl ?_
            refine E_mv (v' := (.int .i64 0)) rfl ?_
            refine E_nil ?_
            refine E_nx ?_
            refine E_sq ?_
            refine E_rniO (fun s_11 => [(4, (avP Types.av che_3.1)), (6, (.sl false 1 (List.map (avL 1 avS) che_4.1)))]) (fun s_11 => []) h (by decide) (by decide) (fun _ => ⟨rfl, rfl, rfl, rfl⟩) (wk_aw ⟨(.refl _), (.refl _), (.refl _), (.refl _), trivial⟩) (fun i_12 s_11 c hlt h => ?_) (fun s_11 fr' S' h hw => ?_)
            · refine E_sq ?_
              refine E_reg ?_
              refine E_mv (v' := (.int .i64 (i_12 : Int))) rfl ?_
              refine E_mv (v' := (.int .i64 (i_12 : Int))) rfl ?_
              refine E_nil ?_
              refine E_nx ?_
              refine E_as ?_
              refine E_jp h (fun s_14 => [(4, (avP Types.av che_3.1)), (6, (.sl false 1 (List.map (avL 1 avS) che_4.1))), (8, (.int .i64 (i_12 : Int))), (65, (.int .i64 (List.length che_4.1 : Int))), (66, (.int .i64 (i_12 : Int))), (98, (.bool s_14))]) (fun s_14 => []) (fun k_13 h => ?_) (fun s_14 h => ?_)
              · refine E_reg ?_
                refine E_mv (v' := (avP Types.av che_3.1)) rfl ?_
                obtain ⟨p_15, hp_15, h⟩ := bd_some h
                refine E_nck (f := Types.av) rfl hp_15 ?_
                refine E_op0 (v' := (.cptr (Types.av p_15).cells 0)) rfl rfl ?_
                refine E_op0 (v' := (.sl false 1 (List.map (avL 1 avB) p_15.Reached))) rfl rfl ?_
                refine E_mv (v' := (.int .i64 (i_12 : Int))) rfl ?_
                obtain ⟨y_16, hy_16, h⟩ := bd_some h
                refine E_iadF rfl rfl hy_16 ?_
                refine E_op0 (v' := (.sl false 1 (List.map avB y_16))) rfl rfl ?_
                refine E_len rfl ?_
                refine E_mv (v' := (.sl false 1 (List.map (avL 1 avS) che_4.1))) rfl ?_
                refine E_mv (v' := (.int .i64 (i_12 : Int))) rfl ?_
                obtain ⟨y_17, hy_17, h⟩ := bd_some h
                refine E_iadF rfl rfl hy_17 ?_
                refine E_op0 (v' := (.sl false 1 (List.map avS y_17))) rfl rfl ?_
                refine E_len rfl ?_
                refine E_op0 (v' := (.bool ((List.length y_16 : Int) != (List.length y_17 : Int)))) rfl rfl ?_
                refine E_mv (v' := (.bool ((List.length y_16 : Int) != (List.length y_17 : Int)))) rfl ?_
                refine E_gsT (b := ((List.length y_16 : Int) != (List.length y_17 : Int))) rfl rfl rfl (fun hb => ?_) (fun hb => ?_)
                · rw [ite_f hb] at h
                  refine E_mv (v' := (avP Types.av che_3.1)) rfl ?_
                  refine E_gh rfl ?_
                  refine E_nck (f := Types.av) rfl hp_15 ?_
                  refine E_gh rfl ?_
                  refine E_op0 (v' := (.cptr (Types.av p_15).cells 1)) rfl rfl ?_
                  refine E_gh rfl ?_
                  refine E_op0 (v' := (.sl false 1 (List.map (avL 1 (avL 1 (avI .u8))) p_15.Stacks))) rfl rfl ?_
                  refine E_gh rfl ?_
                  refine E_mv (v' := (.int .i64 (i_12 : Int))) rfl ?_
                  refine E_gh rfl ?_
                  obtain ⟨y_18, hy_18, h⟩ := bd_some h
                  refine E_iadF rfl rfl hy_18 ?_
                  refine E_gh rfl ?_
                  refine E_op0 (v' := (.sl false 1 (List.map (avL 1 (avI .u8)) y_18))) rfl rfl ?_
                  refine E_gh rfl ?_
                  refine E_len rfl ?_
                  refine E_gh rfl ?_
                  refine E_mv (v' := (.sl false 1 (List.map (avL 1 avS) che_4.1))) rfl ?_
                  refine E_gh rfl ?_
                  refine E_mv (v' := (.int .i64 (i_12 : Int))) rfl ?_
                  refine E_gh rfl ?_
                  refine E_iadF rfl rfl hy_17 ?_
                  refine E_gh rfl ?_
                  refine E_op0 (v' := (.sl false 1 (List.map avS y_17))) rfl rfl ?_
                  refine E_gh rfl ?_
                  refine E_len rfl ?_
                  refine E_gh rfl ?_
                  refine E_op0 (v' := (.bool ((List.length y_18 : Int) != (List.length y_17 : Int)))) rfl rfl ?_
                  refine E_pf rfl rfl ?_
                  refine E_nil ?_
                  exact E_jx _ h (wk_aw ⟨(.refl _), (.refl _), (.refl _), (.refl _), (.refl _), (.refl _), trivial⟩)
                · rw [ite_t hb] at h
                  refine E_gm rfl ?_
                  refine E_gm rfl ?_
                  refine E_gm rfl ?_
                  refine E_gm rfl ?_
                  refine E_gm rfl ?_
                  refine E_gm rfl ?_
                  refine E_gm rfl ?_
                  refine E_gm rfl ?_
                  refine E_gm rfl ?_
                  refine E_gm rfl ?_
                  refine E_gm rfl ?_
                  refine E_gm rfl ?_
                  refine E_gm rfl ?_
                  refine E_pt rfl rfl ?_
                  refine E_nil ?_
                  exact E_jx _ h (wk_aw ⟨(.refl _), (.refl _), (.refl _), (.refl _), (.refl _), (.refl _), trivial⟩)
              · refine E_sq ?_
                refine E_cs (t := s_14) rfl (fun hb => ?_) (fun hb => ?_)
                · rw [ite_t hb] at h
                  refine E_sq ?_
                  refine E_reg ?_
                  refine E_mv (v' := (.bool false)) rfl ?_
                  refine E_nil ?_
                  refine E_nx ?_
                  refine E_ret ?_
                  refine E_thr ?_
                  cases h
                  refine L_rrO rfl (fun h => ?_)
                  refine E_thr ?_
                  cases h
                  exact ⟨trivial, _, rfl, (fz_b rfl (.refl _))⟩
                · rw [ite_f hb] at h
                  refine E_skip ?_
                  refine E_nx ?_
                  refine E_sq ?_
                  refine E_reg ?_
                  refine E_mv (v' := (.sl false 1 (List.map (avL 1 avS) che_4.1))) rfl ?_
                  refine E_mv (v' := (.int .i64 (i_12 : Int))) rfl ?_
                  obtain ⟨y_19, hy_19, h⟩ := bd_some h
                  refine E_iadF rfl rfl hy_19 ?_
                  refine E_op0 (v' := (.sl false 1 (List.map avS y_19))) rfl rfl ?_
                  refine E_len rfl ?_
                  refine E_mv (v' := (.int .i64 0)) rfl ?_
                  refine E_nil ?_
                  refine E_nx ?_
                  refine E_rngO (fun s_20 => [(4, (avP Types.av che_3.1)), (6, (.sl false 1 (List.map (avL 1 avS) che_4.1))), (8, (.int .i64 (i_12 : Int))), (65, (.int .i64 (List.length che_4.1 : Int))), (66, (.int .i64 (i_12 : Int))), (102, (.sl false 1 (List.map avS y_19)))]) (fun s_20 => []) h (by decide) (by decide) (fun _ => ⟨rfl, rfl, rfl, rfl⟩) (wk_aw ⟨(.refl _), (.refl _), (.refl _), (.refl _), (.refl _), (.refl _), (.refl _), (.refl _), trivial⟩) (fun i_21 s_22 s_20 c hx_23 hlt h => ?_) (fun s_20 fr' S' h hw => ?_)
                  · refine E_sq ?_
                    refine E_reg ?_
                    refine E_mv (v' := (.int .i64 (i_21 : Int))) rfl ?_
                    refine E_iadF rfl rfl (getI_of hx_23) ?_
                    refine E_op0 (v' := (.str s_22)) rfl rfl ?_
                    refine E_mv (v' := (.int .i64 (i_21 : Int))) rfl ?_
                    refine E_mv (v' := (.str s_22)) rfl ?_
                    refine E_nil ?_
                    refine E_nx ?_
                    refine E_jp h (fun s_25 => [(4, (avP Types.av che_3.1)), (6, (.sl false 1 (List.map (avL 1 avS) che_4.1))), (8, (.int .i64 (i_12 : Int))), (65, (.int .i64 (List.length che_4.1 : Int))), (66, (.int .i64 (i_12 : Int))), (102, (.sl false 1 (List.map avS y_19))), (103, (.int .i64 (List.length y_19 : Int))), (104, (.int .i64 (i_21 : Int))), (158, (.bool s_25))]) (fun s_25 => []) (fun k_24 h => ?_) (fun s_25 h => ?_)
                    · refine E_reg ?_
                      refine E_mv (v' := (avP Types.av che_3.1)) (by kernel_rfl) ?_
                      obtain ⟨p_26, hp_26, h⟩ := bd_some h
                      refine E_nck (f := Types.av) rfl hp_26 ?_
                      refine E_op0 (v := (.cptr (Types.av p_26).cells 0)) (v' := (.cptr (Types.av p_26).cells 0)) (by kernel_rfl) rfl ?_
                      refine E_op0 (v := (.sl false 1 (List.map (avL 1 avB) p_26.Reached))) (v' := (.sl false 1 (List.map (avL 1 avB) p_26.Reached))) (by kernel_rfl) rfl ?_
                      refine E_mv (v' := (.int .i64 (i_12 : Int))) (by kernel_rfl) ?_
                      obtain ⟨y_27, hy_27, h⟩ := bd_some h
                      refine E_iadF rfl rfl hy_27 ?_
                      refine E_op0 (v := (.sl false 1 (List.map avB y_27))) (v' := (.sl false 1 (List.map avB y_27))) (by kernel_rfl) rfl ?_
                      refine E_mv (v' := (.int .i64 (i_21 : Int))) (by kernel_rfl) ?_
                      obtain ⟨y_28, hy_28, h⟩ := bd_some h
                      refine E_iadF rfl rfl hy_28 ?_
                      refine E_op0 (v := (.bool y_28)) (v' := (.bool y_28)) (by kernel_rfl) rfl ?_
                      refine E_mv (v' := (.str s_22)) (by kernel_rfl) ?_
                      refine E_op0 (v := (.bool (!(ByteArray.toList s_22 == ByteArray.toList (ByteArray.mk #[63]))))) (v' := (.bool (!(ByteArray.toList s_22 == ByteArray.toList (ByteArray.mk #[63]))))) (by kernel_rfl) rfl ?_
                      refine E_op0 (v := (.bool (!(y_28 == (!(ByteArray.toList s_22 == ByteArray.toList (ByteArray.mk #[63]))))))) (v' := (.bool (!(y_28 == (!(ByteArray.toList s_22 == ByteArray.toList (ByteArray.mk #[63]))))))) (by kernel_rfl) rfl ?_
                      refine E_mv (v' := (.bool (!(y_28 == (!(ByteArray.toList s_22 == ByteArray.toList (ByteArray.mk #[63]))))))) (by kernel_rfl) ?_
                      refine E_gsT (b := (!(y_28 == (!(ByteArray.toList s_22 == ByteArray.toList (ByteArray.mk #[63])))))) rfl rfl rfl (fun hb => ?_) (fun hb => ?_)
                      · rw [ite_f hb] at h
                        refine E_mv (v' := (.str s_22)) (by kernel_rfl) ?_
                        refine E_gh rfl ?_
                        refine E_op0 (v := (.bool (!(ByteArray.toList s_22 == ByteArray.toList (ByteArray.mk #[63]))))) (v' := (.bool (!(ByteArray.toList s_22 == ByteArray.toList (ByteArray.mk #[63]))))) (by kernel_rfl) rfl ?_
                        refine E_gh rfl ?_
                        refine E_mv (v' := (.bool (!(ByteArray.toList s_22 == ByteArray.toList (ByteArray.mk #[63]))))) (by kernel_rfl) ?_
                        refine E_gsT (b := (!(ByteArray.toList s_22 == ByteArray.toList (ByteArray.mk #[63])))) rfl rfl rfl (fun hb => ?_) (fun hb => ?_)
                        · rw [ite_t hb] at h
                          refine E_mv (v' := (avP Types.av che_3.1)) (by kernel_rfl) ?_
                          refine E_gh rfl ?_
                          refine E_nck (f := Types.av) rfl hp_26 ?_
                          refine E_gh rfl ?_
                          refine E_op0 (v := (.cptr (Types.av p_26).cells 1)) (v' := (.cptr (Types.av p_26).cells 1)) (by kernel_rfl) rfl ?_
                          refine E_gh rfl ?_
                          refine E_op0 (v := (.sl false 1 (List.map (avL 1 (avL 1 (avI .u8))) p_26.Stacks))) (v' := (.sl false 1 (List.map (avL 1 (avL 1 (avI .u8))) p_26.Stacks))) (by kernel_rfl) rfl ?_
                          refine E_gh rfl ?_
                          refine E_mv (v' := (.int .i64 (i_12 : Int))) (by kernel_rfl) ?_
                          refine E_gh rfl ?_
                          obtain ⟨y_29, hy_29, h⟩ := bd_some h
                          refine E_iadF rfl rfl hy_29 ?_
                          refine E_gh rfl ?_
                          refine E_op0 (v := (.sl false 1 (List.map (avL 1 (avI .u8)) y_29))) (v' := (.sl false 1 (List.map (avL 1 (avI .u8)) y_29))) (by kernel_rfl) rfl ?_
                          refine E_gh rfl ?_
                          refine E_mv (v' := (.int .i64 (i_21 : Int))) (by kernel_rfl) ?_
                          refine E_gh rfl ?_
                          obtain ⟨y_30, hy_30, h⟩ := bd_some h
                          refine E_iadF rfl rfl hy_30 ?_
                          refine E_gh rfl ?_
                          refine E_op0 (v := (.sl false 1 (List.map (avI .u8) y_30))) (v' := (.sl false 1 (List.map (avI .u8) y_30))) (by kernel_rfl) rfl ?_
                          refine E_gh rfl ?_
                          refine E_mv (v' := (.str s_22)) (by kernel_rfl) ?_
                          refine E_gh rfl ?_
                          obtain ⟨tol_31, htol_31, h⟩ := bd_some h
                          refine E_callW (windlassref05_Told_ev  htol_31) rfl ⟨(.refl _), (.refl _), trivial⟩ (blwL_of ⟨((encI .u8).blws 0), rfl, trivial⟩) rfl ?_
                          refine E_gh rfl ?_
                          refine E_op0 (v := (.bool (!tol_31))) (v' := (.bool (!tol_31))) (by kernel_rfl) rfl ?_
                          refine E_gh rfl ?_
                          refine E_pt rfl rfl ?_
                          refine E_pf rfl rfl ?_
                          refine E_mv (v' := (.bool (!tol_31))) (by kernel_rfl) ?_
                          refine E_gsT (b := (!tol_31)) rfl rfl rfl (fun hb => ?_) (fun hb => ?_)
                          · rw [ite_f hb] at h
                            refine E_mv (v' := (.str s_22)) (by kernel_rfl) ?_
                            refine E_gh rfl ?_
                            refine E_op0 (v := (.bool (ByteArray.toList s_22 == ByteArray.toList (ByteArray.mk #[63])))) (v' := (.bool (ByteArray.toList s_22 == ByteArray.toList (ByteArray.mk #[63])))) (by kernel_rfl) rfl ?_
                            refine E_gh rfl ?_
                            refine E_mv (v' := (.bool (ByteArray.toList s_22 == ByteArray.toList (ByteArray.mk #[63])))) (by kernel_rfl) ?_
                            refine E_gsT (b := (ByteArray.toList s_22 == ByteArray.toList (ByteArray.mk #[63]))) rfl rfl rfl (fun hb => ?_) (fun hb => ?_)
                            · rw [ite_t hb] at h
                              refine E_mv (v' := (avP Types.av che_3.1)) (by kernel_rfl) ?_
                              refine E_gh rfl ?_
                              refine E_nck (f := Types.av) rfl hp_26 ?_
                              refine E_gh rfl ?_
                              refine E_op0 (v := (.cptr (Types.av p_26).cells 1)) (v' := (.cptr (Types.av p_26).cells 1)) (by kernel_rfl) rfl ?_
                              refine E_gh rfl ?_
                              refine E_op0 (v := (.sl false 1 (List.map (avL 1 (avL 1 (avI .u8))) p_26.Stacks))) (v' := (.sl false 1 (List.map (avL 1 (avL 1 (avI .u8))) p_26.Stacks))) (by kernel_rfl) rfl ?_
                              refine E_gh rfl ?_
                              refine E_mv (v' := (.int .i64 (i_12 : Int))) (by kernel_rfl) ?_
                              refine E_gh rfl ?_
                              refine E_iadF rfl rfl hy_29 ?_
                              refine E_gh rfl ?_
                              refine E_op0 (v := (.sl false 1 (List.map (avL 1 (avI .u8)) y_29))) (v' := (.sl false 1 (List.map (avL 1 (avI .u8)) y_29))) (by kernel_rfl) rfl ?_
                              refine E_gh rfl ?_
                              refine E_mv (v' := (.int .i64 (i_21 : Int))) (by kernel_rfl) ?_
                              refine E_gh rfl ?_
                              refine E_iadF rfl rfl hy_30 ?_
                              refine E_gh rfl ?_
                              refine E_op0 (v := (.sl false 1 (List.map (avI .u8) y_30))) (v' := (.sl false 1 (List.map (avI .u8) y_30))) (by kernel_rfl) rfl ?_
                              refine E_gh rfl ?_
                              refine E_len rfl ?_
                              refine E_gh rfl ?_
                              refine E_op0 (v := (.bool ((List.length y_30 : Int) != 0))) (v' := (.bool ((List.length y_30 : Int) != 0))) (by kernel_rfl) rfl ?_
                              refine E_gh rfl ?_
                              refine E_pt rfl rfl ?_
                              refine E_pf rfl rfl ?_
                              refine E_nil ?_
                              exact E_jx _ h (wk_aw ⟨(.refl _), (.refl _), (.refl _), (.refl _), (.refl _), (.refl _), (.refl _), (.refl _), (.refl _), trivial⟩)
                            · rw [ite_f hb] at h
                              refine E_gm rfl ?_
                              refine E_gm rfl ?_
                              refine E_gm rfl ?_
                              refine E_gm rfl ?_
                              refine E_gm rfl ?_
                              refine E_gm rfl ?_
                              refine E_gm rfl ?_
                              refine E_gm rfl ?_
                              refine E_gm rfl ?_
                              refine E_gm rfl ?_
                              refine E_gm rfl ?_
                              refine E_gh rfl ?_
                              refine E_pf rfl rfl ?_
                              refine E_pf rfl rfl ?_
                              refine E_nil ?_
                              exact E_jx _ h (wk_aw ⟨(.refl _), (.refl _), (.refl _), (.refl _), (.refl _), (.refl _), (.refl _), (.refl _), (.refl _), trivial⟩)
                          · rw [ite_t hb] at h
                            refine E_gm rfl ?_
                            refine E_gm rfl ?_
                            refine E_gz rfl ?_
                            refine E_gz rfl ?_
                            refine E_gz rfl ?_
                            refine E_gz rfl ?_
                            refine E_gz rfl ?_
                            refine E_gz rfl ?_
                            refine E_gz rfl ?_
                            refine E_gz rfl ?_
                            refine E_gz rfl ?_
                            refine E_gz rfl ?_
                            refine E_gz rfl ?_
                            refine E_gz rfl ?_
                            refine E_gm rfl ?_
                            refine E_pt rfl rfl ?_
                            refine E_nil ?_
                            exact E_jx _ h (wk_aw ⟨(.refl _), (.refl _), (.refl _), (.refl _), (.refl _), (.refl _), (.refl _), (.refl _), (.refl _), trivial⟩)
                        · rw [ite_f hb] at h
                          refine E_gm rfl ?_
                          refine E_gm rfl ?_
                          refine E_gm rfl ?_
                          refine E_gm rfl ?_
                          refine E_gm rfl ?_
                          refine E_gm rfl ?_
                          refine E_gm rfl ?_
                          refine E_gm rfl ?_
                          refine E_gm rfl ?_
                          refine E_gm rfl ?_
                          refine E_gm rfl ?_
                          refine E_gm rfl ?_
                          refine E_gh rfl ?_
                          refine E_pf rfl rfl ?_
                          refine E_pf rfl rfl ?_
                          refine E_mv (v' := (.bool false)) (by kernel_rfl) ?_
                          refine E_gh rfl ?_
                          refine E_mv (v' := (.str s_22)) (by kernel_rfl) ?_
                          refine E_gh rfl ?_
                          refine E_op0 (v := (.bool (ByteArray.toList s_22 == ByteArray.toList (ByteArray.mk #[63])))) (v' := (.bool (ByteArray.toList s_22 == ByteArray.toList (ByteArray.mk #[63])))) (by kernel_rfl) rfl ?_
                          refine E_gh rfl ?_
                          refine E_mv (v' := (.bool (ByteArray.toList s_22 == ByteArray.toList (ByteArray.mk #[63])))) (by kernel_rfl) ?_
                          refine E_gsT (b := (ByteArray.toList s_22 == ByteArray.toList (ByteArray.mk #[63]))) rfl rfl rfl (fun hb => ?_) (fun hb => ?_)
                          · rw [ite_t hb] at h
                            refine E_mv (v' := (avP Types.av che_3.1)) (by kernel_rfl) ?_
                            refine E_gh rfl ?_
                            refine E_nck (f := Types.av) rfl hp_26 ?_
                            refine E_gh rfl ?_
                            refine E_op0 (v := (.cptr (Types.av p_26).cells 1)) (v' := (.cptr (Types.av p_26).cells 1)) (by kernel_rfl) rfl ?_
                            refine E_gh rfl ?_
                            refine E_op0 (v := (.sl false 1 (List.map (avL 1 (avL 1 (avI .u8))) p_26.Stacks))) (v' := (.sl false 1 (List.map (avL 1 (avL 1 (avI .u8))) p_26.Stacks))) (by kernel_rfl) rfl ?_
                            refine E_gh rfl ?_
                            refine E_mv (v' := (.int .i64 (i_12 : Int))) (by kernel_rfl) ?_
                            refine E_gh rfl ?_
                            obtain ⟨y_32, hy_32, h⟩ := bd_some h
                            refine E_iadF rfl rfl hy_32 ?_
                            refine E_gh rfl ?_
                            refine E_op0 (v := (.sl false 1 (List.map (avL 1 (avI .u8)) y_32))) (v' := (.sl false 1 (List.map (avL 1 (avI .u8)) y_32))) (by kernel_rfl) rfl ?_
                            refine E_gh rfl ?_
                            refine E_mv (v' := (.int .i64 (i_21 : Int))) (by kernel_rfl) ?_
                            refine E_gh rfl ?_
                            obtain ⟨y_33, hy_33, h⟩ := bd_some h
                            refine E_iadF rfl rfl hy_33 ?_
                            refine E_gh rfl ?_
                            refine E_op0 (v := (.sl false 1 (List.map (avI .u8) y_33))) (v' := (.sl false 1 (List.map (avI .u8) y_33))) (by kernel_rfl) rfl ?_
                            refine E_gh rfl ?_
                            refine E_len rfl ?_
                            refine E_gh rfl ?_
                            refine E_op0 (v := (.bool ((List.length y_33 : Int) != 0))) (v' := (.bool ((List.length y_33 : Int) != 0))) (by kernel_rfl) rfl ?_
                            refine E_gh rfl ?_
                            refine E_pt rfl rfl ?_
                            refine E_pf rfl rfl ?_
                            refine E_nil ?_
                            exact E_jx _ h (wk_aw ⟨(.refl _), (.refl _), (.refl _), (.refl _), (.refl _), (.refl _), (.refl _), (.refl _), (.refl _), trivial⟩)
                          · rw [ite_f hb] at h
                            refine E_gm rfl ?_
                            refine E_gm rfl ?_
                            refine E_gm rfl ?_
                            refine E_gm rfl ?_
                            refine E_gm rfl ?_
                            refine E_gm rfl ?_
                            refine E_gm rfl ?_
                            refine E_gm rfl ?_
                            refine E_gm rfl ?_
                            refine E_gm rfl ?_
                            refine E_gm rfl ?_
                            refine E_gh rfl ?_
                            refine E_pf rfl rfl ?_
                            refine E_pf rfl rfl ?_
                            refine E_nil ?_
                            exact E_jx _ h (wk_aw ⟨(.refl _), (.refl _), (.refl _), (.refl _), (.refl _), (.refl _), (.refl _), (.refl _), (.refl _), trivial⟩)
                      · rw [ite_t hb] at h
                        refine E_gm rfl ?_
                        refine E_gm rfl ?_
                        refine E_gz rfl ?_
                        refine E_gz rfl ?_
                        refine E_gz rfl ?_
                        refine E_gz rfl ?_
                        refine E_gz rfl ?_
                        refine E_gz rfl ?_
                        refine E_gz rfl ?_
                        refine E_gz rfl ?_
                        refine E_gz rfl ?_
                        refine E_gz rfl ?_
                        refine E_gz rfl ?_
                        refine E_gz rfl ?_
                        refine E_gz rfl ?_
                        refine E_gm rfl ?_
                        refine E_pt rfl rfl ?_
                        refine E_mv (v' := (.bool true)) (by kernel_rfl) ?_
                        refine E_gm rfl ?_
                        refine E_gm rfl ?_
                        refine E_gm rfl ?_
                        refine E_gz rfl ?_
                        refine E_gz rfl ?_
                        refine E_gz rfl ?_
                        refine E_gz rfl ?_
                        refine E_gz rfl ?_
                        refine E_gz rfl ?_
                        refine E_gz rfl ?_
                        refine E_gz rfl ?_
                        refine E_gz rfl ?_
                        refine E_gz rfl ?_
                        refine E_gz rfl ?_
                        refine E_gz rfl ?_
                        refine E_gm rfl ?_
                        refine E_pt rfl rfl ?_
                        refine E_nil ?_
                        exact E_jx _ h (wk_aw ⟨(.refl _), (.refl _), (.refl _), (.refl _), (.refl _), (.refl _), (.refl _), (.refl _), (.refl _), trivial⟩)
                    · refine E_cs (t := s_25) rfl (fun hb => ?_) (fun hb => ?_)
                      · rw [ite_t hb] at h
                        refine E_sq ?_
                        refine E_reg ?_
                        refine E_mv (v' := (.bool false)) rfl ?_
                        refine E_nil ?_
                        refine E_nx ?_
                        refine E_ret ?_
                        cases h
                        refine L_rrO rfl (fun h => ?_)
                        cases h
                        refine L_rrO rfl (fun h => ?_)
                        refine E_thr ?_
                        cases h
                        exact ⟨trivial, _, rfl, (fz_b rfl (.refl _))⟩
                      · rw [ite_f hb] at h
                        refine E_skip ?_
                        cases h
                        exact L_nn rfl (wk_aw ⟨(.refl _), (.refl _), (.refl _), (.refl _), (.refl _), (.refl _), (.refl _), (.refl _), trivial⟩)
                  · cases h
                    exact X_nn rfl hw (wk_aw ⟨(.refl _), (.refl _), (.refl _), (.refl _), trivial⟩)
            · refine X_nx hw ?_
              refine E_sq ?_
              refine E_reg ?_
              refine E_mv (v' := (.bool true)) rfl ?_
              refine E_nil ?_
              refine E_nx ?_
              refine E_ret ?_
              cases h
              exact ⟨trivial, _, rfl, (fz_b rfl (.refl _))⟩
end Go.Proofs.Ytiocagilhbomgaa
