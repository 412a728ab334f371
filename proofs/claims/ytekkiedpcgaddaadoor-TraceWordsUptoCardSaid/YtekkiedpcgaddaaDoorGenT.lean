/- What the functions compute, and that they do (printed by wip/gen/gen.py), part 2. -/
import Derived.Test.YtekkiedpcgaddaaDoorGenTa
namespace Go.Proofs.YtekkiedpcgaddaaDoor
open Go Go.Ab
set_option maxRecDepth 20000
set_option maxHeartbeats 2000000
set_option linter.unusedVariables false
set_option linter.unusedSimpArgs false
def windlasslaw02_TraceOrder_s (a_00 : (List Event)) (cuts_01 : St45) : Option Bool :=
  (windlasslaw02_first_s.bind fun fir_1 => (if (!fir_1) then (some false) else (gd ((U64 (I64 ((List.length a_00 : Int) + 1))) ≠ 0) (gd ((U64 (I64 ((List.length a_00 : Int) + 1))) ≠ 0) ((subL a_00 0 (I64 (Int.tmod (U64 cuts_01.e0) (U64 (I64 ((List.length a_00 : Int) + 1)))))).bind fun l_4 => ((subL a_00 0 (I64 (Int.tmod (U64 cuts_01.e1) (U64 (I64 ((List.length a_00 : Int) + 1)))))).bind fun l_5 => (jp (fun (s_7 : Bool) => (jp (fun (s_11 : Bool) => (some s_11)) (fun k_10 => ((trace_Prefix_s a_00 a_00).bind fun pre_12 => (if pre_12 then ((trace_Prefix_s l_4 a_00).bind fun pre_13 => (if pre_13 then ((trace_Prefix_s l_5 a_00).bind fun pre_14 => (if pre_14 then ((trace_Prefix_s l_4 l_5).bind fun pre_15 => (if pre_15 then ((trace_Same_s l_4 l_5).bind fun sam_19 => (if (s_7 == sam_19) then ((trace_Prefix_s [] a_00).bind fun pre_20 => (k_10 pre_20)) else (k_10 false))) else ((trace_Prefix_s l_5 l_4).bind fun pre_16 => (if pre_16 then ((trace_Same_s l_4 l_5).bind fun sam_17 => (if (s_7 == sam_17) then ((trace_Prefix_s [] a_00).bind fun pre_18 => (k_10 pre_18)) else (k_10 false))) else (k_10 false))))) else (k_10 false))) else (k_10 false))) else (k_10 false)))))) (fun k_6 => ((trace_Prefix_s l_4 l_5).bind fun pre_8 => (if pre_8 then ((trace_Prefix_s l_5 l_4).bind fun pre_9 => (k_6 pre_9)) else (k_6 false)))))))))))
theorem windlasslaw02_TraceOrder_ev {a_00 : (List Event)} {cuts_01 : St45} {r : Bool} (h : windlasslaw02_TraceOrder_s a_00 cuts_01 = some r) : PureEv Tryd.prog 7 [(.sl false 2 (List.map Event.av a_00)), (St45.av cuts_01)] (.bool r) := by
  unfold windlasslaw02_TraceOrder_s at h
  refine PureEv_end mixed fn7 (by simp) [] 6 ?_
  unfold fc7
  refine E_sq ?_
  refine E_reg ?_
  refine E_op0 (v' := (.cptr (St45.av cuts_01).cells 0)) rfl rfl ?_
  refine E_mv (v' := (.bool false)) rfl ?_
  refine E_nil ?_
  refine E_nx ?_
  refine E_as ?_
  refine E_sq ?_
  refine E_reg ?_
  obtain ⟨fir_1, hfir_1, h⟩ := bd_some h
  refine E_callW (windlasslaw02_first_ev  hfir_1) rfl trivial (blwL_of trivial) rfl ?_
  refine E_op0 (v' := (.bool (!fir_1))) rfl rfl ?_
  refine E_nil ?_
  refine E_nx ?_
  refine E_sq ?_
  refine E_cs (t := (!fir_1)) rfl (fun hb => ?_) (fun hb => ?_)
  · rw [ite_t hb] at h
    refine E_sq ?_
    refine E_reg ?_
    refine E_mv (v' := (.bool false)) rfl ?_
    refine E_nil ?_
    refine E_nx ?_
    refine E_ret ?_
    refine E_thr ?_
    cases h
    exact ⟨trivial, _, rfl, (fz_b rfl (.refl _))⟩
  · rw [ite_f hb] at h
    refine E_skip ?_
    refine E_nx ?_
    refine E_sq ?_
    refine E_reg ?_
    refine E_op0 (v' := (.cptr (St45.av cuts_01).cells 0)) rfl rfl ?_
    refine E_op0 (v' := (.int .i64 cuts_01.e0)) rfl rfl ?_
    refine E_op0 (v' := (.int .u64 (U64 cuts_01.e0))) rfl rfl ?_
    refine E_mv (v' := (.sl false 2 (List.map Event.av a_00))) rfl ?_
    refine E_len rfl ?_
    refine E_op0 (v' := (.int .i64 (I64 ((List.length a_00 : Int) + 1)))) rfl rfl ?_
    refine E_op0 (v' := (.int .u64 (U64 (I64 ((List.length a_00 : Int) + 1))))) rfl rfl ?_
    obtain ⟨hg_2, h⟩ := gd_some h
    refine E_rem rfl rfl hg_2 ?_
    refine E_op0 (v' := (.int .i64 (I64 (Int.tmod (U64 cuts_01.e0) (U64 (I64 ((List.length a_00 : Int) + 1))))))) rfl rfl ?_
    refine E_op0 (v' := (.cptr (St45.av cuts_01).cells 1)) rfl rfl ?_
    refine E_op0 (v' := (.int .i64 cuts_01.e1)) rfl rfl ?_
    refine E_op0 (v' := (.int .u64 (U64 cuts_01.e1))) rfl rfl ?_
    refine E_mv (v' := (.sl false 2 (List.map Event.av a_00))) rfl ?_
    refine E_len rfl ?_
    refine E_op0 (v' := (.int .i64 (I64 ((List.length a_00 : Int) + 1)))) rfl rfl ?_
    refine E_op0 (v' := (.int .u64 (U64 (I64 ((List.length a_00 : Int) + 1))))) rfl rfl ?_
    obtain ⟨hg_3, h⟩ := gd_some h
    refine E_rem rfl rfl hg_3 ?_
    refine E_op0 (v' := (.int .i64 (I64 (Int.tmod (U64 cuts_01.e1) (U64 (I64 ((List.length a_00 : Int) + 1))))))) rfl rfl ?_
    refine E_mv (v' := (.int .i64 (I64 (Int.tmod (U64 cuts_01.e0) (U64 (I64 ((List.length a_00 : Int) + 1))))))) rfl ?_
    refine E_mv (v' := (.int .i64 (I64 (Int.tmod (U64 cuts_01.e1) (U64 (I64 ((List.length a_00 : Int) + 1))))))) rfl ?_
    refine E_nil ?_
    refine E_nx ?_
    refine E_sq ?_
    refine E_reg ?_
    refine E_mv (v' := (.sl false 2 (List.map Event.av a_00))) rfl ?_
    refine E_mv (v' := (.int .i64 (I64 (Int.tmod (U64 cuts_01.e0) (U64 (I64 ((List.length a_00 : Int) + 1))))))) rfl ?_
    obtain ⟨l_4, hl_4, h⟩ := bd_some h
    refine E_slcL rfl (fun _ => rfl) (fun h0 => hiN_int h0) hl_4 ?_
    refine E_mv (v' := (.sl false 2 (List.map Event.av a_00))) rfl ?_
    refine E_mv (v' := (.int .i64 (I64 (Int.tmod (U64 cuts_01.e1) (U64 (I64 ((List.length a_00 : Int) + 1))))))) rfl ?_
    obtain ⟨l_5, hl_5, h⟩ := bd_some h
    refine E_slcL rfl (fun _ => rfl) (fun h0 => hiN_int h0) hl_5 ?_
    refine E_mv (v' := (.sl false 2 (List.map Event.av l_4))) rfl ?_
    refine E_mv (v' := (.sl false 2 (List.map Event.av l_5))) rfl ?_
    refine E_nil ?_
    refine E_nx ?_
    refine E_jp h (fun s_7 => [(0, (.sl false 2 (List.map Event.av a_00))), (7, (.sl false 2 (List.map Event.av l_4))), (8, (.sl false 2 (List.map Event.av l_5))), (9, (.bool s_7))]) (fun s_7 => []) (fun k_6 h => ?_) (fun s_7 h => ?_)
    · refine E_reg ?_
      refine E_mv (v' := (.sl false 2 (List.map Event.av l_4))) rfl ?_
      refine E_mv (v' := (.sl false 2 (List.map Event.av l_5))) rfl ?_
      obtain ⟨pre_8, hpre_8, h⟩ := bd_some h
      refine E_callW (trace_Prefix_ev  hpre_8) rfl ⟨(.refl _), (.refl _), trivial⟩ (blwL_of ⟨(Event.enc.blws 0), (Event.enc.blws 0), trivial⟩) rfl ?_
      refine E_mv (v' := (.bool pre_8)) rfl ?_
      refine E_gsT (b := pre_8) rfl rfl rfl (fun hb => ?_) (fun hb => ?_)
      · rw [ite_t hb] at h
        refine E_mv (v' := (.sl false 2 (List.map Event.av l_5))) rfl ?_
        refine E_gh rfl ?_
        refine E_mv (v' := (.sl false 2 (List.map Event.av l_4))) rfl ?_
        refine E_gh rfl ?_
        obtain ⟨pre_9, hpre_9, h⟩ := bd_some h
        refine E_callW (trace_Prefix_ev  hpre_9) rfl ⟨(.refl _), (.refl _), trivial⟩ (blwL_of ⟨(Event.enc.blws 0), (Event.enc.blws 0), trivial⟩) rfl ?_
        refine E_pt rfl rfl ?_
        refine E_mv (v' := (.bool pre_9)) rfl ?_
        refine E_nil ?_
        exact E_jx _ h (wk_aw ⟨(.refl _), (.refl _), (.refl _), (.refl _), trivial⟩)
      · rw [ite_f hb] at h
        refine E_gm rfl ?_
        refine E_gm rfl ?_
        refine E_pf rfl rfl ?_
        refine E_mv (v' := (.bool false)) rfl ?_
        refine E_nil ?_
        exact E_jx _ h (wk_aw ⟨(.refl _), (.refl _), (.refl _), (.refl _), trivial⟩)
    · refine E_jp h (fun s_11 => [(4, (.bool s_11))]) (fun s_11 => []) (fun k_10 h => ?_) (fun s_11 h => ?_)
      · refine E_reg ?_
        refine E_mv (v' := (.sl false 2 (List.map Event.av a_00))) rfl ?_
        refine E_mv (v' := (.sl false 2 (List.map Event.av a_00))) rfl ?_
        obtain ⟨pre_12, hpre_12, h⟩ := bd_some h
        refine E_callW (trace_Prefix_ev  hpre_12) rfl ⟨(.refl _), (.refl _), trivial⟩ (blwL_of ⟨(Event.enc.blws 0), (Event.enc.blws 0), trivial⟩) rfl ?_
        refine E_mv (v' := (.bool pre_12)) rfl ?_
        refine E_gsT (b := pre_12) rfl rfl rfl (fun hb => ?_) (fun hb => ?_)
        · rw [ite_t hb] at h
          refine E_mv (v' := (.sl false 2 (List.map Event.av l_4))) rfl ?_
          refine E_gh rfl ?_
          refine E_mv (v' := (.sl false 2 (List.map Event.av a_00))) rfl ?_
          refine E_gh rfl ?_
          obtain ⟨pre_13, hpre_13, h⟩ := bd_some h
          refine E_callW (trace_Prefix_ev  hpre_13) rfl ⟨(.refl _), (.refl _), trivial⟩ (blwL_of ⟨(Event.enc.blws 0), (Event.enc.blws 0), trivial⟩) rfl ?_
          refine E_pt rfl rfl ?_
          refine E_mv (v' := (.bool pre_13)) rfl ?_
          refine E_gsT (b := pre_13) rfl rfl rfl (fun hb => ?_) (fun hb => ?_)
          · rw [ite_t hb] at h
            refine E_mv (v' := (.sl false 2 (List.map Event.av l_5))) rfl ?_
            refine E_gh rfl ?_
            refine E_mv (v' := (.sl false 2 (List.map Event.av a_00))) rfl ?_
            refine E_gh rfl ?_
            obtain ⟨pre_14, hpre_14, h⟩ := bd_some h
            refine E_callW (trace_Prefix_ev  hpre_14) rfl ⟨(.refl _), (.refl _), trivial⟩ (blwL_of ⟨(Event.enc.blws 0), (Event.enc.blws 0), trivial⟩) rfl ?_
            refine E_pt rfl rfl ?_
            refine E_mv (v' := (.bool pre_14)) rfl ?_
            refine E_gsT (b := pre_14) rfl rfl rfl (fun hb => ?_) (fun hb => ?_)
            · rw [ite_t hb] at h
              refine E_mv (v' := (.sl false 2 (List.map Event.av l_4))) rfl ?_
              refine E_gh rfl ?_
              refine E_mv (v' := (.sl false 2 (List.map Event.av l_5))) rfl ?_
              refine E_gh rfl ?_
              obtain ⟨pre_15, hpre_15, h⟩ := bd_some h
              refine E_callW (trace_Prefix_ev  hpre_15) rfl ⟨(.refl _), (.refl _), trivial⟩ (blwL_of ⟨(Event.enc.blws 0), (Event.enc.blws 0), trivial⟩) rfl ?_
              refine E_gh rfl ?_
              refine E_mv (v' := (.bool pre_15)) rfl ?_
              refine E_gsT (b := pre_15) rfl rfl rfl (fun hb => ?_) (fun hb => ?_)
              · rw [ite_f hb] at h
                refine E_mv (v' := (.sl false 2 (List.map Event.av l_5))) rfl ?_
                refine E_gh rfl ?_
                refine E_mv (v' := (.sl false 2 (List.map Event.av l_4))) rfl ?_
                refine E_gh rfl ?_
                obtain ⟨pre_16, hpre_16, h⟩ := bd_some h
                refine E_callW (trace_Prefix_ev  hpre_16) rfl ⟨(.refl _), (.refl _), trivial⟩ (blwL_of ⟨(Event.enc.blws 0), (Event.enc.blws 0), trivial⟩) rfl ?_
                refine E_gh rfl ?_
                refine E_pf rfl rfl ?_
                refine E_pt rfl rfl ?_
                refine E_mv (v' := (.bool pre_16)) rfl ?_
                refine E_gsT (b := pre_16) rfl rfl rfl (fun hb => ?_) (fun hb => ?_)
                · rw [ite_t hb] at h
                  refine E_mv (v' := (.bool s_7)) rfl ?_
                  refine E_gh rfl ?_
                  refine E_mv (v' := (.sl false 2 (List.map Event.av l_4))) rfl ?_
                  refine E_gh rfl ?_
                  refine E_mv (v' := (.sl false 2 (List.map Event.av l_5))) rfl ?_
                  refine E_gh rfl ?_
                  obtain ⟨sam_17, hsam_17, h⟩ := bd_some h
                  refine E_callW (trace_Same_ev  hsam_17) rfl ⟨(.refl _), (.refl _), trivial⟩ (blwL_of ⟨(Event.enc.blws 0), (Event.enc.blws 0), trivial⟩) rfl ?_
                  refine E_gh rfl ?_
                  refine E_op0 (v' := (.bool (s_7 == sam_17))) rfl rfl ?_
                  refine E_pt rfl rfl ?_
                  refine E_mv (v' := (.bool (s_7 == sam_17))) rfl ?_
                  refine E_gsT (b := (s_7 == sam_17)) rfl rfl rfl (fun hb => ?_) (fun hb => ?_)
                  · rw [ite_t hb] at h
                    refine E_mv (v' := (.sl false 2 (List.map Event.av a_00))) rfl ?_
                    refine E_gh rfl ?_
                    obtain ⟨pre_18, hpre_18, h⟩ := bd_some h
                    refine E_callW (trace_Prefix_ev  hpre_18) rfl ⟨.nil, (.refl _), trivial⟩ (blwL_of ⟨rfl, (Event.enc.blws 0), trivial⟩) rfl ?_
                    refine E_pt rfl rfl ?_
                    refine E_mv (v' := (.bool pre_18)) rfl ?_
                    refine E_nil ?_
                    exact E_jx _ h (wk_aw ⟨(.refl _), trivial⟩)
                  · rw [ite_f hb] at h
                    refine E_gm rfl ?_
                    refine E_pf rfl rfl ?_
                    refine E_mv (v' := (.bool false)) rfl ?_
                    refine E_nil ?_
                    exact E_jx _ h (wk_aw ⟨(.refl _), trivial⟩)
                · rw [ite_f hb] at h
                  refine E_gm rfl ?_
                  refine E_gm rfl ?_
                  refine E_gm rfl ?_
                  refine E_gm rfl ?_
                  refine E_pf rfl rfl ?_
                  refine E_mv (v' := (.bool false)) rfl ?_
                  refine E_gm rfl ?_
                  refine E_gm rfl ?_
                  refine E_pf rfl rfl ?_
                  refine E_mv (v' := (.bool false)) rfl ?_
                  refine E_nil ?_
                  exact E_jx _ h (wk_aw ⟨(.refl _), trivial⟩)
              · rw [ite_t hb] at h
                refine E_gm rfl ?_
                refine E_gm rfl ?_
                refine E_gh rfl ?_
                refine E_pt rfl rfl ?_
                refine E_pt rfl rfl ?_
                refine E_mv (v' := (.bool true)) rfl ?_
                refine E_gh rfl ?_
                refine E_mv (v' := (.bool s_7)) rfl ?_
                refine E_gh rfl ?_
                refine E_mv (v' := (.sl false 2 (List.map Event.av l_4))) rfl ?_
                refine E_gh rfl ?_
                refine E_mv (v' := (.sl false 2 (List.map Event.av l_5))) rfl ?_
                refine E_gh rfl ?_
                obtain ⟨sam_19, hsam_19, h⟩ := bd_some h
                refine E_callW (trace_Same_ev  hsam_19) rfl ⟨(.refl _), (.refl _), trivial⟩ (blwL_of ⟨(Event.enc.blws 0), (Event.enc.blws 0), trivial⟩) rfl ?_
                refine E_gh rfl ?_
                refine E_op0 (v' := (.bool (s_7 == sam_19))) rfl rfl ?_
                refine E_pt rfl rfl ?_
                refine E_mv (v' := (.bool (s_7 == sam_19))) rfl ?_
                refine E_gsT (b := (s_7 == sam_19)) rfl rfl rfl (fun hb => ?_) (fun hb => ?_)
                · rw [ite_t hb] at h
                  refine E_mv (v' := (.sl false 2 (List.map Event.av a_00))) rfl ?_
                  refine E_gh rfl ?_
                  obtain ⟨pre_20, hpre_20, h⟩ := bd_some h
                  refine E_callW (trace_Prefix_ev  hpre_20) rfl ⟨.nil, (.refl _), trivial⟩ (blwL_of ⟨rfl, (Event.enc.blws 0), trivial⟩) rfl ?_
                  refine E_pt rfl rfl ?_
                  refine E_mv (v' := (.bool pre_20)) rfl ?_
                  refine E_nil ?_
                  exact E_jx _ h (wk_aw ⟨(.refl _), trivial⟩)
                · rw [ite_f hb] at h
                  refine E_gm rfl ?_
                  refine E_pf rfl rfl ?_
                  refine E_mv (v' := (.bool false)) rfl ?_
                  refine E_nil ?_
                  exact E_jx _ h (wk_aw ⟨(.refl _), trivial⟩)
            · rw [ite_f hb] at h
              refine E_gm rfl ?_
              refine E_gm rfl ?_
              refine E_gm rfl ?_
              refine E_gz rfl ?_
              refine E_gz rfl ?_
              refine E_gz rfl ?_
              refine E_gm rfl ?_
              refine E_pf rfl rfl ?_
              refine E_mv (v' := (.bool false)) rfl ?_
              refine E_gm rfl ?_
              refine E_gm rfl ?_
              refine E_gm rfl ?_
              refine E_gm rfl ?_
              refine E_gm rfl ?_
              refine E_pf rfl rfl ?_
              refine E_mv (v' := (.bool false)) rfl ?_
              refine E_gm rfl ?_
              refine E_gm rfl ?_
              refine E_pf rfl rfl ?_
              refine E_mv (v' := (.bool false)) rfl ?_
              refine E_nil ?_
              exact E_jx _ h (wk_aw ⟨(.refl _), trivial⟩)
          · rw [ite_f hb] at h
            refine E_gm rfl ?_
            refine E_gm rfl ?_
            refine E_pf rfl rfl ?_
            refine E_mv (v' := (.bool false)) rfl ?_
            refine E_gm rfl ?_
            refine E_gm rfl ?_
            refine E_gm rfl ?_
            refine E_gm rfl ?_
            refine E_gz rfl ?_
            refine E_gz rfl ?_
            refine E_gz rfl ?_
            refine E_gm rfl ?_
            refine E_pf rfl rfl ?_
            refine E_mv (v' := (.bool false)) rfl ?_
            refine E_gm rfl ?_
            refine E_gm rfl ?_
            refine E_gm rfl ?_
            refine E_gm rfl ?_
            refine E_gm rfl ?_
            refine E_pf rfl rfl ?_
            refine E_mv (v' := (.bool false)) rfl ?_
            refine E_gm rfl ?_
            refine E_gm rfl ?_
            refine E_pf rfl rfl ?_
            refine E_mv (v' := (.bool false)) rfl ?_
            refine E_nil ?_
            exact E_jx _ h (wk_aw ⟨(.refl _), trivial⟩)
        · rw [ite_f hb] at h
          refine E_gm rfl ?_
          refine E_gm rfl ?_
          refine E_pf rfl rfl ?_
          refine E_mv (v' := (.bool false)) rfl ?_
          refine E_gm rfl ?_
          refine E_gm rfl ?_
          refine E_gm rfl ?_
          refine E_pf rfl rfl ?_
          refine E_mv (v' := (.bool false)) rfl ?_
          refine E_gm rfl ?_
          refine E_gm rfl ?_
          refine E_gm rfl ?_
          refine E_gm rfl ?_
          refine E_gz rfl ?_
          refine E_gz rfl ?_
          refine E_gz rfl ?_
          refine E_gm rfl ?_
          refine E_pf rfl rfl ?_
          refine E_mv (v' := (.bool false)) rfl ?_
          refine E_gm rfl ?_
          refine E_gm rfl ?_
          refine E_gm rfl ?_
          refine E_gm rfl ?_
          refine E_gm rfl ?_
          refine E_pf rfl rfl ?_
          refine E_mv (v' := (.bool false)) rfl ?_
          refine E_gm rfl ?_
          refine E_gm rfl ?_
          refine E_pf rfl rfl ?_
          refine E_mv (v' := (.bool false)) rfl ?_
          refine E_nil ?_
          exact E_jx _ h (wk_aw ⟨(.refl _), trivial⟩)
      · refine E_ret ?_
        cases h
        exact ⟨trivial, _, rfl, (fz_b rfl (.refl _))⟩
end Go.Proofs.YtekkiedpcgaddaaDoor
