/- What the functions compute, and that they do (printed by wip/gen/gen.py), part 2. -/
import Derived.Test.YtiocagilhbomgaaGenKa
namespace Go.Proofs.Ytiocagilhbomgaa
open Go Go.Ab
set_option maxRecDepth 20000
set_option maxHeartbeats 2000000
set_option linter.unusedVariables false
set_option linter.unusedSimpArgs false
def kinds_function_s (fuel : Nat) (p_00 : Program) (f_01 : Func) : Option ((List Bool) × (List (List Int)) × Bool × Int) :=
  ((mkL 1 (List.length f_01.Code : Int) (List.length f_01.Code : Int) false).bind fun m_1 => ((mkL 24 (List.length f_01.Code : Int) (List.length f_01.Code : Int) []).bind fun m_2 => ((getI m_1 0).bind fun y_3 => ((whileN (fun (s_5 : (Bool × (List Bool) × (List (List Int)) × (List Int))) => ((if (decide ((List.length s_5.2.2.2 : Int) > 0)) then ((getI s_5.2.2.2 (I64 ((List.length s_5.2.2.2 : Int) - 1))).bind fun y_6 => ((subL s_5.2.2.2 0 (I64 ((List.length s_5.2.2.2 : Int) - 1))).bind fun l_7 => ((getI s_5.2.2.1 y_6).bind fun y_8 => ((getI f_01.Code y_6).bind fun y_9 => (jp (fun (s_11 : Int) => ((kinds_effect_s p_00 f_01 y_9 s_11).bind fun eff_13 => (jp (fun (s_15 : Bool) => (if s_15 then (some (.ret (some ([], [], false, 50)))) else ((subL y_8 0 (I64 ((List.length y_8 : Int) - (List.length eff_13.1 : Int)))).bind fun l_18 => ((slices_Clone_s l_18).bind fun (clo_19 : (List Int)) => ((appL 1 clo_19 eff_13.2).bind fun l_20 => (jp (fun (s_22 : Bool) => ((kinds_follow_s y_9 y_6).bind fun fol_23 => ((rng (fun (i_25 : Nat) (vto_26 : Int) (s_24 : ((List Bool) × (List (List Int)) × (List Int))) => ((if (decide (vto_26 ≥ (List.length f_01.Code : Int))) then (some (.ret (some (.ret (some ([], [], false, 50)))))) else ((getI s_24.1 vto_26).bind fun y_28 => (if (!y_28) then ((getI s_24.1 vto_26).bind fun y_29 => ((getI s_24.2.1 vto_26).bind fun y_31 => ((appL 8 s_24.2.2 [vto_26]).bind fun l_33 => (some (.nxt ((List.set s_24.1 (Int.toNat vto_26) true), (List.set s_24.2.1 (Int.toNat vto_26) l_20), l_33)))))) else ((getI s_24.2.1 vto_26).bind fun y_34 => ((slices_Equal_s y_34 l_20).bind fun equ_35 => (if (!equ_35) then (some (.ret (some (.ret (some ([], [], false, 50)))))) else (some (.nxt (s_24.1, s_24.2.1, s_24.2.2))))))))) : Option (Stp ((List Bool) × (List (List Int)) × (List Int)) (Option (Stp (Bool × (List Bool) × (List (List Int)) × (List Int)) (Option ((List Bool) × (List (List Int)) × Bool × Int))))))) fol_23 (s_5.2.1, s_5.2.2.1, l_7)).bind (oc (fun (s_24 : ((List Bool) × (List (List Int)) × (List Int))) => (some (.nxt (s_22, s_24.1, s_24.2.1, s_24.2.2)))))))) (fun k_21 => (if s_5.1 then (k_21 true) else (k_21 (decide ((List.length l_20 : Int) > 16))))))))))) (fun k_14 => (if (decide ((I64 ((List.length y_8 : Int) - (List.length eff_13.1 : Int))) < 0)) then (k_14 true) else ((subL y_8 (I64 ((List.length y_8 : Int) - (List.length eff_13.1 : Int))) (List.length y_8 : Int)).bind fun l_16 => ((slices_Equal_s l_16 eff_13.1).bind fun equ_17 => (if (!equ_17) then (k_14 true) else (if (y_9.Op == 24) then (k_14 (decide ((I64 ((List.length y_8 : Int) - (List.length eff_13.1 : Int))) > 0))) else (k_14 false)))))))))) (fun k_10 => (if (decide ((List.length y_8 : Int) > 0)) then ((getI y_8 (I64 ((List.length y_8 : Int) - 1))).bind fun y_12 => (k_10 y_12)) else (k_10 0)))))))) else (some (.brk (s_5.1, s_5.2.1, s_5.2.2.1, s_5.2.2.2)))) : Option (Stp (Bool × (List Bool) × (List (List Int)) × (List Int)) (Option ((List Bool) × (List (List Int)) × Bool × Int))))) fuel (false, (List.set m_1 (Int.toNat 0) true), m_2, ([0] : List Int))).bind (oc (fun (s_5 : (Bool × (List Bool) × (List (List Int)) × (List Int))) => ((rni (fun (i_37 : Nat) (s_36 : (List (List Int))) => (((getI s_36 (i_37 : Int)).bind fun y_38 => ((slices_Clone_z_s y_38).bind fun clo_39 => ((getI s_36 (i_37 : Int)).bind fun y_40 => (some (.nxt (List.set s_36 (Int.toNat (i_37 : Int)) clo_39)))))) : Option (Stp (List (List Int)) (Option ((List Bool) × (List (List Int)) × Bool × Int))))) (List.length s_5.2.2.1 : Int) s_5.2.2.1).bind (oc (fun (s_36 : (List (List Int))) => (some (s_5.2.1, s_36, s_5.1, 0)))))))))))
theorem kinds_function_ev {fuel : Nat} {p_00 : Program} {f_01 : Func} {r : ((List Bool) × (List (List Int)) × Bool × Int)} (h : kinds_function_s fuel p_00 f_01 = some r) : PureEv Try.prog 17 [(Program.av p_00), (Func.av f_01)] (.tup [(.sl false 1 (List.map avB r.1)), (.sl false 1 (List.map (avL 1 (avI .u8)) r.2.1)), (.bool r.2.2.1), (.int .i64 r.2.2.2)]) := by
  unfold kinds_function_s at h
  refine PureEv_endS mixed gn_kinds_function (by simp) [14, 26, 30, 33] 6 ?_
  unfold gc_kinds_function
  refine E_sq ?_
  refine E_reg ?_
  refine E_op0 (v' := (.cptr (Program.av p_00).cells 0)) rfl rfl ?_
  refine E_op0 (v' := (.cptr (Func.av f_01).cells 0)) rfl rfl ?_
  refine E_mv (v' := .nils) rfl ?_
  refine E_mv (v' := .nils) rfl ?_
  refine E_mv (v' := (.bool false)) rfl ?_
  refine E_mv (v' := (.int .i64 0)) rfl ?_
  refine E_nil ?_
  refine E_nx ?_
  refine E_sq ?_
  refine E_regp ?_
  refine E_op0 (v' := (.cptr (Func.av f_01).cells 4)) rfl rfl ?_
  refine E_op0 (v' := (.sl false 3 (List.map Instr.av f_01.Code))) rfl rfl ?_
  refine E_len rfl ?_
  obtain ⟨m_1, hm_1, h⟩ := bd_some h
  refine E_mkL (x := false) (S' := [.arr 0 (flat avB m_1)]) encB rfl rfl rfl rfl hm_1 rfl ?_
  refine E_op0 (v' := (.cptr (Func.av f_01).cells 4)) rfl rfl ?_
  refine E_op0 (v' := (.sl false 3 (List.map Instr.av f_01.Code))) rfl rfl ?_
  refine E_len rfl ?_
  obtain ⟨m_2, hm_2, h⟩ := bd_some h
  refine E_mkL (f := (fun (_ : (List Int)) => .nils)) (x := []) (S' := [.arr 0 (flat avB m_1), .arr 0 (flat (fun (_ : (List Int)) => .nils) m_2)]) (⟨fun _ => rfl, fun _ => rfl, fun _ => rfl, fun _ _ => rfl⟩ : Enc (fun (_ : (List Int)) => .nils) none) rfl rfl rfl rfl hm_2 rfl ?_
  refine E_mv (v' := (.ref 0 0 0 (List.length m_1) none)) rfl ?_
  refine E_mv (v' := (.ref 1 0 0 (List.length m_2) none)) rfl ?_
  refine E_nil ?_
  refine And.intro (by simp [okLog, nthL, okPair, hp, fpOf]) ?_
  refine E_nxw (F := [(2, (.cptr (Program.av p_00).cells 0)), (3, (.cptr (Func.av f_01).cells 0)), (8, (.ref 0 1 0 (List.length m_1) none)), (9, (.ref 1 1 0 (List.length m_2) none))]) (T := [.arr 1 (flat avB m_1), .arr 1 (flat (avL 1 (avI .u8)) m_2)]) (wk_rn (fr' := [(2, (.cptr (Program.av p_00).cells 0)), (3, (.cptr (Func.av f_01).cells 0)), (8, (.ref 0 1 0 (List.length m_1) none)), (9, (.ref 1 1 0 (List.length m_2) none))]) (S' := [.arr 1 (flat avB m_1), .arr 1 (flat (avL 1 (avI .u8)) m_2)]) [some (0, 0), some (1, 0)] rfl (Nat.le_of_ble_eq_true rfl) ⟨(rn_ob rfl rfl (.refl (encB.blwf 0 _)) rfl), (rn_ob rfl rfl (rnl_raw (f := (avL 1 (avI .u8))) (⟨fun _ => rfl, fun _ => rfl, fun _ => rfl, fun _ _ => rfl⟩ : Enc (fun (_ : (List Int)) => .nils) none) hm_2 ⟨.nil, trivial⟩) rfl), trivial⟩ ⟨(rn_b (cp_blw (Program.enc.blw _ 0))), (rn_b (cp_blw (Func.enc.blw _ 0))), (rn_refL encB rfl rfl rfl), (rn_refW (encL (encI .u8) 1) rfl rfl rfl), trivial⟩) ?_
  refine E_sq ?_
  refine E_reg ?_
  refine E_mv (v' := (.ref 0 1 0 (List.length m_1) none)) rfl ?_
  obtain ⟨y_3, hy_3, h⟩ := bd_some h
  refine E_iadR rfl rfl ⟨(getI_some hy_3).1, (getI_some hy_3).2.1⟩ ?_
  refine E_stR (y := y_3) (y' := true) (S' := [.arr 1 (flat avB (List.set m_1 (Int.toNat 0) true)), .arr 1 (flat (avL 1 (avI .u8)) m_2)]) encB rfl rfl rfl (by first | rfl | exact (Nat.add_zero _).symm | (simp only [Nat.zero_add]; exact (Nat.add_zero _).symm) | (simp only [Nat.zero_add, Nat.add_zero])) (getI_some hy_3).2.2 rfl rfl (Nat.le_of_ble_eq_true rfl) rfl rfl ?_
  try rw [show List.length m_1 = List.length (List.set m_1 (Int.toNat 0) true) by simp only [List.length_set]]
  refine E_nil ?_
  refine E_nx ?_
  refine E_sq ?_
  refine E_reg ?_
  refine E_mv (v' := (.bool false)) rfl ?_
  refine E_nil ?_
  refine E_nx ?_
  refine E_as ?_
  refine E_sq ?_
  refine E_reg ?_
  refine E_op (v' := (.ref 2 0 0 (List.length ([0] : List Int)) none)) (S' := [.arr 1 (flat avB (List.set m_1 (Int.toNat 0) true)), .arr 1 (flat (avL 1 (avI .u8)) m_2), .arr 0 (flat (avI .i64) ([0] : List Int))]) rfl rfl rfl ?_
  refine E_mv (v' := (.ref 2 0 0 (List.length ([0] : List Int)) none)) rfl ?_
  refine E_nil ?_
  refine E_nx ?_
  refine E_sq ?_
  refine E_whileO (fun s_5 => [(2, (.cptr (Program.av p_00).cells 0)), (3, (.cptr (Func.av f_01).cells 0)), (8, (.ref 0 1 0 (List.length s_5.2.1) none)), (9, (.ref 1 1 0 (List.length s_5.2.2.1) none)), (10, (.bool s_5.1)), (11, (.ref 2 1 0 (List.length s_5.2.2.2) none))]) (fun s_5 => [.arr 1 (flat avB s_5.2.1), .arr 1 (flat (avL 1 (avI .u8)) s_5.2.2.1), .arr 1 (flat (avI .i64) s_5.2.2.2)]) h (wk_rn [some (0, 0), some (1, 0), some (2, 0)] rfl (Nat.le_of_ble_eq_true rfl) ⟨(rn_ob rfl rfl (.refl (encB.blwf 0 _)) rfl), (rn_ob rfl rfl (.refl ((encL (encI .u8) 1).blwf 0 _)) rfl), (rn_ob rfl rfl (.refl ((encI .i64).blwf 0 _)) rfl), trivial⟩ ⟨(rn_b (cp_blw (Program.enc.blw _ 0))), (rn_b (cp_blw (Func.enc.blw _ 0))), (rn_refL encB rfl rfl rfl), (rn_refL (encL (encI .u8) 1) rfl rfl rfl), (rn_b rfl), (rn_refL (encI .i64) rfl rfl rfl), trivial⟩) (fun s_5 c h => ?_) (fun s_5 fr' S' h hw => ?_)
  · refine E_as ?_
    refine E_sq ?_
    refine E_reg ?_
    refine E_mv (v' := (.ref 2 1 0 (List.length s_5.2.2.2) none)) rfl ?_
    refine E_lenR rfl ?_
    refine E_op0 (v' := (.bool (decide ((List.length s_5.2.2.2 : Int) > 0)))) rfl rfl ?_
    refine E_nil ?_
    refine E_nx ?_
    refine E_sq ?_
    refine E_cs (t := (decide ((List.length s_5.2.2.2 : Int) > 0))) rfl (fun hb => ?_) (fun hb => ?_)
    · rw [ite_t hb] at h
      refine E_skip ?_
      refine E_nx ?_
      refine E_block ?_
      refine E_sq ?_
      refine E_reg ?_
      refine E_mv (v' := (.ref 2 1 0 (List.length s_5.2.2.2) none)) rfl ?_
      refine E_mv (v' := (.ref 2 1 0 (List.length s_5.2.2.2) none)) rfl ?_
      refine E_lenR rfl ?_
      refine E_op0 (v' := (.int .i64 (I64 ((List.length s_5.2.2.2 : Int) - 1)))) rfl rfl ?_
      obtain ⟨y_6, hy_6, h⟩ := bd_some h
      refine E_iadR rfl rfl ⟨(getI_some hy_6).1, (getI_some hy_6).2.1⟩ ?_
      refine E_ldR (encI .i64) rfl rfl (by first | rfl | exact (Nat.add_zero _).symm | (simp only [Nat.zero_add]; exact (Nat.add_zero _).symm) | (simp only [Nat.zero_add, Nat.add_zero])) (getI_some hy_6).2.2 rfl (.refl _) ?_
      refine E_mv (v' := (.int .i64 y_6)) rfl ?_
      refine E_nil ?_
      refine E_nx ?_
      refine E_sq ?_
      refine E_reg ?_
      refine E_mv (v' := (.ref 2 1 0 (List.length s_5.2.2.2) none)) rfl ?_
      refine E_mv (v' := (.ref 2 1 0 (List.length s_5.2.2.2) none)) rfl ?_
      refine E_lenR rfl ?_
      refine E_op0 (v' := (.int .i64 (I64 ((List.length s_5.2.2.2 : Int) - 1)))) rfl rfl ?_
      obtain ⟨l_7, hl_7, h⟩ := bd_some h
      refine E_slcP rfl rfl hl_7 ?_
      refine E_mv (v' := (.ref 2 1 (0 + 0 * szOf none) (Int.toNat (I64 ((List.length s_5.2.2.2 : Int) - 1))) none)) rfl ?_
      refine E_nil ?_
      refine E_nx ?_
      refine E_sq ?_
      refine E_regp ?_
      refine E_mv (v' := (.ref 1 1 0 (List.length s_5.2.2.1) none)) rfl ?_
      refine E_mv (v' := (.int .i64 y_6)) rfl ?_
      obtain ⟨y_8, hy_8, h⟩ := bd_some h
      refine E_iadR rfl rfl ⟨(getI_some hy_8).1, (getI_some hy_8).2.1⟩ ?_
      refine E_ldR (encL (encI .u8) 1) rfl rfl (by first | rfl | exact (Nat.add_zero _).symm | (simp only [Nat.zero_add]; exact (Nat.add_zero _).symm) | (simp only [Nat.zero_add, Nat.add_zero])) (getI_some hy_8).2.2 rfl (.refl _) ?_
      refine E_op0 (v' := (.cptr (Func.av f_01).cells 4)) rfl rfl ?_
      refine E_op0 (v' := (.sl false 3 (List.map Instr.av f_01.Code))) rfl rfl ?_
      refine E_mv (v' := (.int .i64 y_6)) rfl ?_
      obtain ⟨y_9, hy_9, h⟩ := bd_some h
      refine E_iadF rfl rfl hy_9 ?_
      refine E_op0 (v' := (Instr.av y_9)) rfl rfl ?_
      refine E_op (v' := .ptr 3 0 0) (S' := [.arr 1 (flat avB s_5.2.1), .arr 1 (flat (avL 1 (avI .u8)) s_5.2.2.1), .arr 1 (flat (avI .i64) s_5.2.2.2), .arr 0 [(.int .u8 0), (.int .i64 0), (.int .u64 0)]]) rfl rfl rfl ?_
      refine E_mv (v' := (.sl false 1 (List.map (avI .u8) y_8))) rfl ?_
      refine E_do (S' := [.arr 1 (flat avB s_5.2.1), .arr 1 (flat (avL 1 (avI .u8)) s_5.2.2.1), .arr 1 (flat (avI .i64) s_5.2.2.2), .arr 0 [(.int .u8 y_9.Op), (.int .i64 y_9.Arg), (.int .u64 y_9.Imm)]]) rfl rfl ?_
      refine E_nil ?_
      refine And.intro (by simp [okLog, nthL, okPair, hp, fpOf]) ?_
      refine E_nx ?_
      refine E_sq ?_
      refine E_reg ?_
      refine E_mv (v' := (.int .u8 0)) rfl ?_
      refine E_nil ?_
      refine E_nx ?_
      refine E_as ?_
      refine E_sq ?_
      refine E_reg ?_
      refine E_mv (v' := (.sl false 1 (List.map (avI .u8) y_8))) rfl ?_
      refine E_len rfl ?_
      refine E_op0 (v' := (.bool (decide ((List.length y_8 : Int) > 0)))) rfl rfl ?_
      refine E_nil ?_
      refine E_nx ?_
      refine E_jp h (fun s_11 => [(2, (.cptr (Program.av p_00).cells 0)), (3, (.cptr (Func.av f_01).cells 0)), (8, (.ref 0 1 0 (List.length s_5.2.1) none)), (9, (.ref 1 1 0 (List.length s_5.2.2.1) none)), (10, (.bool s_5.1)), (11, (.ref 2 1 0 (List.length l_7) none)), (12, (.int .i64 y_6)), (13, (.sl false 1 (List.map (avI .u8) y_8))), (14, (.ptr 3 0 0)), (15, (.int .u8 s_11))]) (fun s_11 => [.arr 1 (flat avB s_5.2.1), .arr 1 (flat (avL 1 (avI .u8)) s_5.2.2.1), .arr 1 (flat (avI .i64) l_7), .arr 0 [(.int .u8 y_9.Op), (.int .i64 y_9.Arg), (.int .u64 y_9.Imm)]]) (fun k_10 h => ?_) (fun s_11 h => ?_)
      · refine E_cs (t := (decide ((List.length y_8 : Int) > 0))) rfl (fun hb => ?_) (fun hb => ?_)
        · rw [ite_t hb] at h
          refine E_reg ?_
          refine E_mv (v' := (.sl false 1 (List.map (avI .u8) y_8))) rfl ?_
          refine E_mv (v' := (.sl false 1 (List.map (avI .u8) y_8))) rfl ?_
          refine E_len rfl ?_
          refine E_op0 (v' := (.int .i64 (I64 ((List.length y_8 : Int) - 1)))) rfl rfl ?_
          obtain ⟨y_12, hy_12, h⟩ := bd_some h
          refine E_iadF rfl rfl hy_12 ?_
          refine E_op0 (v' := (.int .u8 y_12)) rfl rfl ?_
          refine E_mv (v' := (.int .u8 y_12)) rfl ?_
          refine E_nil ?_
          exact E_jx _ h (wk_rn [some (0, 0), some (1, 0), some (2, 0 + 0 * szOf none), some (3, 0)] rfl (Nat.le_of_ble_eq_true rfl) ⟨(rn_ob rfl rfl (.refl (encB.blwf 0 _)) rfl), (rn_ob rfl rfl (.refl ((encL (encI .u8) 1).blwf 0 _)) rfl), (rn_ob rfl rfl (rnl_view (encI .i64) hl_7 rfl) rfl), (rn_ob rfl rfl (.cons (rn_b rfl) (.cons (rn_b rfl) (.cons (rn_b rfl) (.nil (Nat.zero_le _))))) rfl), trivial⟩ ⟨(rn_b (cp_blw (Program.enc.blw _ 0))), (rn_b (cp_blw (Func.enc.blw _ 0))), (rn_refL encB rfl rfl rfl), (rn_refL (encL (encI .u8) 1) rfl rfl rfl), (rn_b rfl), (rn_refV (encI .i64) rfl rfl rfl hl_7 rfl rfl), (rn_b rfl), (rn_b ((encI .u8).blws 0)), (rn_ptr rfl rfl rfl rfl), (rn_b rfl), trivial⟩)
        · rw [ite_f hb] at h
          refine E_skip ?_
          exact E_jx _ h (wk_rn [some (0, 0), some (1, 0), some (2, 0 + 0 * szOf none), some (3, 0)] rfl (Nat.le_of_ble_eq_true rfl) ⟨(rn_ob rfl rfl (.refl (encB.blwf 0 _)) rfl), (rn_ob rfl rfl (.refl ((encL (encI .u8) 1).blwf 0 _)) rfl), (rn_ob rfl rfl (rnl_view (encI .i64) hl_7 rfl) rfl), (rn_ob rfl rfl (.cons (rn_b rfl) (.cons (rn_b rfl) (.cons (rn_b rfl) (.nil (Nat.zero_le _))))) rfl), trivial⟩ ⟨(rn_b (cp_blw (Program.enc.blw _ 0))), (rn_b (cp_blw (Func.enc.blw _ 0))), (rn_refL encB rfl rfl rfl), (rn_refL (encL (encI .u8) 1) rfl rfl rfl), (rn_b rfl), (rn_refV (encI .i64) rfl rfl rfl hl_7 rfl rfl), (rn_b rfl), (rn_b ((encI .u8).blws 0)), (rn_ptr rfl rfl rfl rfl), (rn_b rfl), trivial⟩)
      · refine E_sq ?_
        refine E_reg ?_
        refine E_op0 (v' := (Program.av p_00)) rfl rfl ?_
        refine E_op0 (v' := (Func.av f_01)) rfl rfl ?_
        refine E_opw (v' := (Instr.av y_9)) rfl (.aggL ⟨(.refl _), (.refl _), (.refl _), trivial⟩) rfl ?_
        refine E_mv (v' := (.int .u8 s_11)) rfl ?_
        obtain ⟨eff_13, heff_13, h⟩ := bd_some h
        refine E_callW (kinds_effect_ev  heff_13) rfl ⟨(.refl _), (.refl _), (.refl _), (.refl _), trivial⟩ (blwL_of ⟨(Program.enc.blw _ 0), (Func.enc.blw _ 0), (Instr.enc.blw _ 0), rfl, trivial⟩) (tup_blw ⟨((encI .u8).blws 0), ((encI .u8).blws 0), trivial⟩) ?_
        refine E_mv (v' := (.tup [(.sl false 1 (List.map (avI .u8) eff_13.1)), (.sl false 1 (List.map (avI .u8) eff_13.2))])) rfl ?_
        refine E_op0 (v' := (.sl false 1 (List.map (avI .u8) eff_13.1))) rfl rfl ?_
        refine E_op0 (v' := (.sl false 1 (List.map (avI .u8) eff_13.2))) rfl rfl ?_
        refine E_mv (v' := (.sl false 1 (List.map (avI .u8) eff_13.1))) rfl ?_
        refine E_mv (v' := (.sl false 1 (List.map (avI .u8) eff_13.2))) rfl ?_
        refine E_nil ?_
        refine E_nx ?_
        refine E_sq ?_
        refine E_reg ?_
        refine E_mv (v' := (.sl false 1 (List.map (avI .u8) y_8))) rfl ?_
        refine E_len rfl ?_
        refine E_mv (v' := (.sl false 1 (List.map (avI .u8) eff_13.1))) rfl ?_
        refine E_len rfl ?_
        refine E_op0 (v' := (.int .i64 (I64 ((List.length y_8 : Int) - (List.length eff_13.1 : Int))))) rfl rfl ?_
        refine E_mv (v' := (.int .i64 (I64 ((List.length y_8 : Int) - (List.length eff_13.1 : Int))))) rfl ?_
        refine E_nil ?_
        refine E_nx ?_
        refine E_as ?_
        refine E_jp h (fun s_15 => [(2, (.cptr (Program.av p_00).cells 0)), (3, (.cptr (Func.av f_01).cells 0)), (8, (.ref 0 1 0 (List.length s_5.2.1) none)), (9, (.ref 1 1 0 (List.length s_5.2.2.1) none)), (10, (.bool s_5.1)), (11, (.ref 2 1 0 (List.length l_7) none)), (12, (.int .i64 y_6)), (13, (.sl false 1 (List.map (avI .u8) y_8))), (14, (.ptr 3 0 0)), (17, (.sl false 1 (List.map (avI .u8) eff_13.2))), (18, (.int .i64 (I64 ((List.length y_8 : Int) - (List.length eff_13.1 : Int))))), (97, (.bool s_15))]) (fun s_15 => [.arr 1 (flat avB s_5.2.1), .arr 1 (flat (avL 1 (avI .u8)) s_5.2.2.1), .arr 1 (flat (avI .i64) l_7), .arr 0 [(.int .u8 y_9.Op), (.int .i64 y_9.Arg), (.int .u64 y_9.Imm)]]) (fun k_14 h => ?_) (fun s_15 h => ?_)
        · refine E_reg ?_
          refine E_mv (v' := (.int .i64 (I64 ((List.length y_8 : Int) - (List.length eff_13.1 : Int))))) rfl ?_
          refine E_op0 (v' := (.bool (decide ((I64 ((List.length y_8 : Int) - (List.length eff_13.1 : Int))) < 0)))) rfl rfl ?_
          refine E_mv (v' := (.bool (decide ((I64 ((List.length y_8 : Int) - (List.length eff_13.1 : Int))) < 0)))) rfl ?_
          refine E_gsT (b := (decide ((I64 ((List.length y_8 : Int) - (List.length eff_13.1 : Int))) < 0))) rfl rfl rfl (fun hb => ?_) (fun hb => ?_)
          · rw [ite_f hb] at h
            refine E_mv (v' := (.sl false 1 (List.map (avI .u8) y_8))) rfl ?_
            refine E_gh rfl ?_
            refine E_mv (v' := (.int .i64 (I64 ((List.length y_8 : Int) - (List.length eff_13.1 : Int))))) rfl ?_
            refine E_gh rfl ?_
            obtain ⟨l_16, hl_16, h⟩ := bd_some h
            refine E_slcL rfl (fun h0 => loN_int h0) (fun _ => by simp [evO, hiN]) hl_16 ?_
            refine E_gh rfl ?_
            refine E_mv (v' := (.sl false 1 (List.map (avI .u8) eff_13.1))) rfl ?_
            refine E_gh rfl ?_
            obtain ⟨equ_17, hequ_17, h⟩ := bd_some h
            refine E_callW (slices_Equal_ev  hequ_17) rfl ⟨(.refl _), (.refl _), trivial⟩ (blwL_of ⟨((encI .u8).blws 0), ((encI .u8).blws 0), trivial⟩) rfl ?_
            refine E_gh rfl ?_
            refine E_op0 (v' := (.bool (!equ_17))) rfl rfl ?_
            refine E_pf rfl rfl ?_
            refine E_mv (v' := (.bool (!equ_17))) rfl ?_
            refine E_gsT (b := (!equ_17)) rfl rfl rfl (fun hb => ?_) (fun hb => ?_)
            · rw [ite_f hb] at h
              refine E_op0 (v' := (.ptr 3 0 0)) rfl rfl ?_
              refine E_gh rfl ?_
              refine E_op (v' := (.int .u8 y_9.Op)) (S' := [.arr 1 (flat avB s_5.2.1), .arr 1 (flat (avL 1 (avI .u8)) s_5.2.2.1), .arr 1 (flat (avI .i64) l_7), .arr 0 [(.int .u8 y_9.Op), (.int .i64 y_9.Arg), (.int .u64 y_9.Imm)]]) rfl rfl rfl ?_
              refine E_gh rfl ?_
              refine E_op0 (v' := (.bool (y_9.Op == 24))) rfl rfl ?_
              refine E_gh rfl ?_
              refine E_mv (v' := (.bool (y_9.Op == 24))) rfl ?_
              refine E_gsT (b := (y_9.Op == 24)) rfl rfl rfl (fun hb => ?_) (fun hb => ?_)
              · rw [ite_t hb] at h
                refine E_mv (v' := (.int .i64 (I64 ((List.length y_8 : Int) - (List.length eff_13.1 : Int))))) rfl ?_
                refine E_gh rfl ?_
                refine E_op0 (v' := (.bool (decide ((I64 ((List.length y_8 : Int) - (List.length eff_13.1 : Int))) > 0)))) rfl rfl ?_
                refine E_gh rfl ?_
                refine E_pt rfl rfl ?_
                refine E_pf rfl rfl ?_
                refine E_nil ?_
                exact E_jx _ h (wk_rn [some (0, 0), some (1, 0), some (2, 0), some (3, 0)] rfl (Nat.le_of_ble_eq_true rfl) ⟨(rn_ob rfl rfl (.refl (encB.blwf 0 _)) rfl), (rn_ob rfl rfl (.refl ((encL (encI .u8) 1).blwf 0 _)) rfl), (rn_ob rfl rfl (.refl ((encI .i64).blwf 0 _)) rfl), (rn_ob rfl rfl (.cons (rn_b rfl) (.cons (rn_b rfl) (.cons (rn_b rfl) (.nil (Nat.zero_le _))))) rfl), trivial⟩ ⟨(rn_b (cp_blw (Program.enc.blw _ 0))), (rn_b (cp_blw (Func.enc.blw _ 0))), (rn_refL encB rfl rfl rfl), (rn_refL (encL (encI .u8) 1) rfl rfl rfl), (rn_b rfl), (rn_refL (encI .i64) rfl rfl rfl), (rn_b rfl), (rn_b ((encI .u8).blws 0)), (rn_ptr rfl rfl rfl rfl), (rn_b ((encI .u8).blws 0)), (rn_b rfl), (rn_b rfl), trivial⟩)
              · rw [ite_f hb] at h
                refine E_gm rfl ?_
                refine E_gh rfl ?_
                refine E_pf rfl rfl ?_
                refine E_pf rfl rfl ?_
                refine E_nil ?_
                exact E_jx _ h (wk_rn [some (0, 0), some (1, 0), some (2, 0), some (3, 0)] rfl (Nat.le_of_ble_eq_true rfl) ⟨(rn_ob rfl rfl (.refl (encB.blwf 0 _)) rfl), (rn_ob rfl rfl (.refl ((encL (encI .u8) 1).blwf 0 _)) rfl), (rn_ob rfl rfl (.refl ((encI .i64).blwf 0 _)) rfl), (rn_ob rfl rfl (.cons (rn_b rfl) (.cons (rn_b rfl) (.cons (rn_b rfl) (.nil (Nat.zero_le _))))) rfl), trivial⟩ ⟨(rn_b (cp_blw (Program.enc.blw _ 0))), (rn_b (cp_blw (Func.enc.blw _ 0))), (rn_refL encB rfl rfl rfl), (rn_refL (encL (encI .u8) 1) rfl rfl rfl), (rn_b rfl), (rn_refL (encI .i64) rfl rfl rfl), (rn_b rfl), (rn_b ((encI .u8).blws 0)), (rn_ptr rfl rfl rfl rfl), (rn_b ((encI .u8).blws 0)), (rn_b rfl), (rn_b rfl), trivial⟩)
            · rw [ite_t hb] at h
              refine E_gm rfl ?_
              refine E_gm rfl ?_
              refine E_gm rfl ?_
              refine E_gz rfl ?_
              refine E_gz rfl ?_
              refine E_gm rfl ?_
              refine E_pt rfl rfl ?_
              refine E_nil ?_
              exact E_jx _ h (wk_rn [some (0, 0), some (1, 0), some (2, 0), some (3, 0)] rfl (Nat.le_of_ble_eq_true rfl) ⟨(rn_ob rfl rfl (.refl (encB.blwf 0 _)) rfl), (rn_ob rfl rfl (.refl ((encL (encI .u8) 1).blwf 0 _)) rfl), (rn_ob rfl rfl (.refl ((encI .i64).blwf 0 _)) rfl), (rn_ob rfl rfl (.cons (rn_b rfl) (.cons (rn_b rfl) (.cons (rn_b rfl) (.nil (Nat.zero_le _))))) rfl), trivial⟩ ⟨(rn_b (cp_blw (Program.enc.blw _ 0))), (rn_b (cp_blw (Func.enc.blw _ 0))), (rn_refL encB rfl rfl rfl), (rn_refL (encL (encI .u8) 1) rfl rfl rfl), (rn_b rfl), (rn_refL (encI .i64) rfl rfl rfl), (rn_b rfl), (rn_b ((encI .u8).blws 0)), (rn_ptr rfl rfl rfl rfl), (rn_b ((encI .u8).blws 0)), (rn_b rfl), (rn_b rfl), trivial⟩)
          · rw [ite_t hb] at h
            refine E_gm rfl ?_
            refine E_gm rfl ?_
            refine E_gm rfl ?_
            refine E_gm rfl ?_
            refine E_gm rfl ?_
            refine E_pt rfl rfl ?_
            refine E_mv (v' := (.bool true)) rfl ?_
            refine E_gm rfl ?_
            refine E_gm rfl ?_
            refine E_gm rfl ?_
            refine E_gm rfl ?_
            refine E_gz rfl ?_
            refine E_gz rfl ?_
            refine E_gm rfl ?_
            refine E_pt rfl rfl ?_
            refine E_nil ?_
            exact E_jx _ h (wk_rn [some (0, 0), some (1, 0), some (2, 0), some (3, 0)] rfl (Nat.le_of_ble_eq_true rfl) ⟨(rn_ob rfl rfl (.refl (encB.blwf 0 _)) rfl), (rn_ob rfl rfl (.refl ((encL (encI .u8) 1).blwf 0 _)) rfl), (rn_ob rfl rfl (.refl ((encI .i64).blwf 0 _)) rfl), (rn_ob rfl rfl (.cons (rn_b rfl) (.cons (rn_b rfl) (.cons (rn_b rfl) (.nil (Nat.zero_le _))))) rfl), trivial⟩ ⟨(rn_b (cp_blw (Program.enc.blw _ 0))), (rn_b (cp_blw (Func.enc.blw _ 0))), (rn_refL encB rfl rfl rfl), (rn_refL (encL (encI .u8) 1) rfl rfl rfl), (rn_b rfl), (rn_refL (encI .i64) rfl rfl rfl), (rn_b rfl), (rn_b ((encI .u8).blws 0)), (rn_ptr rfl rfl rfl rfl), (rn_b ((encI .u8).blws 0)), (rn_b rfl), (rn_b rfl), trivial⟩)
        · refine E_sq ?_
          refine E_cs (t := s_15) rfl (fun hb => ?_) (fun hb => ?_)
          · rw [ite_t hb] at h
            refine E_sq ?_
            refine E_reg ?_
            refine E_mv (v' := .nils) rfl ?_
            refine E_mv (v' := .nils) rfl ?_
            refine E_mv (v' := (.bool false)) rfl ?_
            refine E_mv (v' := (.int .i64 50)) rfl ?_
            refine E_nil ?_
            refine E_nx ?_
            refine E_ret ?_
            refine E_thr ?_
            refine E_blr ?_
            cases h
            refine L_rrO rfl (fun h => ?_)
            refine E_thr ?_
            cases h
            exact ⟨trivial, _, rfl, (fz_tup ⟨(fz_b rfl .nil), (fz_b rfl .nil), (fz_b rfl (.refl _)), (fz_b rfl (.refl _)), trivial⟩)⟩
          · rw [ite_f hb] at h
            refine E_skip ?_
            refine E_nx ?_
            refine E_sq ?_
            refine E_reg ?_
            refine E_mv (v' := (.sl false 1 (List.map (avI .u8) y_8))) rfl ?_
            refine E_mv (v' := (.int .i64 (I64 ((List.length y_8 : Int) - (List.length eff_13.1 : Int))))) rfl ?_
            obtain ⟨l_18, hl_18, h⟩ := bd_some h
            refine E_slcL rfl (fun _ => rfl) (fun h0 => hiN_int h0) hl_18 ?_
            obtain ⟨clo_19, hclo_19, h⟩ := bd_some h
            refine E_callF (S' := [.arr 1 (flat avB s_5.2.1), .arr 1 (flat (avL 1 (avI .u8)) s_5.2.2.1), .arr 1 (flat (avI .i64) l_7), .arr 0 [(.int .u8 y_9.Op), (.int .i64 y_9.Arg), (.int .u64 y_9.Imm)], .arr 1 (flat (avI .u8) clo_19)]) (r' := (.ref 4 1 0 (List.length clo_19) none)) (slices_Clone_ev hclo_19) [] rfl rfl (by decide) rfl rfl trivial ⟨(fr_outN rfl rfl (.refl ((encI .u8).blwf 0 _)) rfl), trivial⟩ ⟨.inr rfl, .inr rfl, .inr rfl, .inr rfl, trivial⟩ rfl (.cons (.base ((encI .u8).blws 0) (.refl _)) (.nil (Nat.zero_le _))) (fo_ref rfl rfl rfl rfl) ?_
            refine E_mv (v' := (.sl false 1 (List.map (avI .u8) eff_13.2))) rfl ?_
            obtain ⟨l_20, hl_20, h⟩ := bd_some h
            refine E_apL (S' := [.arr 1 (flat avB s_5.2.1), .arr 1 (flat (avL 1 (avI .u8)) s_5.2.2.1), .arr 1 (flat (avI .i64) l_7), .arr 0 [(.int .u8 y_9.Op), (.int .i64 y_9.Arg), (.int .u64 y_9.Imm)], .arr 2 (flat (avI .u8) l_20)]) (encI .u8) rfl (src_sl eff_13.2) rfl hl_20 rfl ?_
            refine E_mv (v' := (.ref 4 2 0 (List.length l_20) none)) rfl ?_
            refine E_nil ?_
            refine E_nx ?_
            refine E_jp h (fun s_22 => [(2, (.cptr (Program.av p_00).cells 0)), (3, (.cptr (Func.av f_01).cells 0)), (8, (.ref 0 1 0 (List.length s_5.2.1) none)), (9, (.ref 1 1 0 (List.length s_5.2.2.1) none)), (10, (.bool s_22)), (11, (.ref 2 1 0 (List.length l_7) none)), (12, (.int .i64 y_6)), (14, (.ptr 3 0 0)), (19, (.ref 4 1 0 (List.length l_20) none))]) (fun s_22 => [.arr 1 (flat avB s_5.2.1), .arr 1 (flat (avL 1 (avI .u8)) s_5.2.2.1), .arr 1 (flat (avI .i64) l_7), .arr 0 [(.int .u8 y_9.Op), (.int .i64 y_9.Arg), (.int .u64 y_9.Imm)], .arr 1 (flat (avI .u8) l_20)]) (fun k_21 h => ?_) (fun s_22 h => ?_)
            · refine E_reg ?_
              refine E_mv (v' := (.bool s_5.1)) rfl ?_
              refine E_mv (v' := (.bool s_5.1)) rfl ?_
              refine E_gsT (b := s_5.1) rfl rfl rfl (fun hb => ?_) (fun hb => ?_)
              · rw [ite_f hb] at h
                refine E_mv (v' := (.ref 4 2 0 (List.length l_20) none)) rfl ?_
                refine E_gh rfl ?_
                refine E_lenR rfl ?_
                refine E_gh rfl ?_
                refine E_op0 (v' := (.bool (decide ((List.length l_20 : Int) > 16)))) rfl rfl ?_
                refine E_pf rfl rfl ?_
                refine E_mv (v' := (.bool (decide ((List.length l_20 : Int) > 16)))) rfl ?_
                refine E_nil ?_
                exact E_jx _ h (wk_rn [some (0, 0), some (1, 0), some (2, 0), some (3, 0), some (4, 0)] rfl (Nat.le_of_ble_eq_true rfl) ⟨(rn_ob rfl rfl (.refl (encB.blwf 0 _)) rfl), (rn_ob rfl rfl (.refl ((encL (encI .u8) 1).blwf 0 _)) rfl), (rn_ob rfl rfl (.refl ((encI .i64).blwf 0 _)) rfl), (rn_ob rfl rfl (.cons (rn_b rfl) (.cons (rn_b rfl) (.cons (rn_b rfl) (.nil (Nat.zero_le _))))) rfl), (rn_ob rfl rfl (.refl ((encI .u8).blwf 0 _)) rfl), trivial⟩ ⟨(rn_b (cp_blw (Program.enc.blw _ 0))), (rn_b (cp_blw (Func.enc.blw _ 0))), (rn_refL encB rfl rfl rfl), (rn_refL (encL (encI .u8) 1) rfl rfl rfl), (rn_b rfl), (rn_refL (encI .i64) rfl rfl rfl), (rn_b rfl), (rn_ptr rfl rfl rfl rfl), (rn_refL (encI .u8) rfl rfl rfl), trivial⟩)
              · rw [ite_t hb] at h
                refine E_gm rfl ?_
                refine E_gm rfl ?_
                refine E_pt rfl rfl ?_
                refine E_mv (v' := (.bool true)) rfl ?_
                refine E_nil ?_
                exact E_jx _ h (wk_rn [some (0, 0), some (1, 0), some (2, 0), some (3, 0), some (4, 0)] rfl (Nat.le_of_ble_eq_true rfl) ⟨(rn_ob rfl rfl (.refl (encB.blwf 0 _)) rfl), (rn_ob rfl rfl (.refl ((encL (encI .u8) 1).blwf 0 _)) rfl), (rn_ob rfl rfl (.refl ((encI .i64).blwf 0 _)) rfl), (rn_ob rfl rfl (.cons (rn_b rfl) (.cons (rn_b rfl) (.cons (rn_b rfl) (.nil (Nat.zero_le _))))) rfl), (rn_ob rfl rfl (.refl ((encI .u8).blwf 0 _)) rfl), trivial⟩ ⟨(rn_b (cp_blw (Program.enc.blw _ 0))), (rn_b (cp_blw (Func.enc.blw _ 0))), (rn_refL encB rfl rfl rfl), (rn_refL (encL (encI .u8) 1) rfl rfl rfl), (rn_b rfl), (rn_refL (encI .i64) rfl rfl rfl), (rn_b rfl), (rn_ptr rfl rfl rfl rfl), (rn_refL (encI .u8) rfl rfl rfl), trivial⟩)
            · refine E_sq ?_
              refine E_reg ?_
              refine E_opw (v' := (Instr.av y_9)) rfl (.aggL ⟨(.refl _), (.refl _), (.refl _), trivial⟩) rfl ?_
              refine E_mv (v' := (.int .i64 y_6)) rfl ?_
              obtain ⟨fol_23, hfol_23, h⟩ := bd_some h
              refine E_callW (kinds_follow_ev  hfol_23) rfl ⟨(.refl _), (.refl _), trivial⟩ (blwL_of ⟨(Instr.enc.blw _ 0), rfl, trivial⟩) ((encI .i64).blws 0) ?_
              refine E_len rfl ?_
              refine E_mv (v' := (.int .i64 0)) rfl ?_
              refine E_nil ?_
              refine E_nxw (F := [(2, (.cptr (Program.av p_00).cells 0)), (3, (.cptr (Func.av f_01).cells 0)), (8, (.ref 0 1 0 (List.length s_5.2.1) none)), (9, (.ref 1 1 0 (List.length s_5.2.2.1) none)), (10, (.bool s_22)), (11, (.ref 2 1 0 (List.length l_7) none)), (19, (.sl false 1 (List.map (avI .u8) l_20))), (112, (.sl false 1 (List.map (avI .i64) fol_23))), (113, (.int .i64 (List.length fol_23 : Int))), (114, (.int .i64 0))]) (T := [.arr 1 (flat avB s_5.2.1), .arr 1 (flat (avL 1 (avI .u8)) s_5.2.2.1), .arr 1 (flat (avI .i64) l_7)]) (wk_trans (fr'' := [(2, (.cptr (Program.av p_00).cells 0)), (3, (.cptr (Func.av f_01).cells 0)), (8, (.ref 0 1 0 (List.length s_5.2.1) none)), (9, (.ref 1 1 0 (List.length s_5.2.2.1) none)), (10, (.bool s_22)), (11, (.ref 2 1 0 (List.length l_7) none)), (19, (.sl false 1 (List.map (avI .u8) l_20))), (112, (.sl false 1 (List.map (avI .i64) fol_23))), (113, (.int .i64 (List.length fol_23 : Int))), (114, (.int .i64 0))]) (S'' := [.arr 1 (flat avB s_5.2.1), .arr 1 (flat (avL 1 (avI .u8)) s_5.2.2.1), .arr 1 (flat (avI .i64) l_7)]) (wk_rn (fr' := [(2, (.cptr (Program.av p_00).cells 0)), (3, (.cptr (Func.av f_01).cells 0)), (8, (.ref 0 1 0 (List.length s_5.2.1) none)), (9, (.ref 1 1 0 (List.length s_5.2.2.1) none)), (10, (.bool s_22)), (11, (.ref 2 1 0 (List.length l_7) none)), (19, (.ref 3 1 0 (List.length l_20) none)), (112, (.sl false 1 (List.map (avI .i64) fol_23))), (113, (.int .i64 (List.length fol_23 : Int))), (114, (.int .i64 0))]) (S' := [.arr 1 (flat avB s_5.2.1), .arr 1 (flat (avL 1 (avI .u8)) s_5.2.2.1), .arr 1 (flat (avI .i64) l_7), .arr 1 (flat (avI .u8) l_20)]) [some (0, 0), some (1, 0), some (2, 0), some (4, 0)] rfl (Nat.le_of_ble_eq_true rfl) ⟨(rn_ob rfl rfl (.refl (encB.blwf 0 _)) rfl), (rn_ob rfl rfl (.refl ((encL (encI .u8) 1).blwf 0 _)) rfl), (rn_ob rfl rfl (.refl ((encI .i64).blwf 0 _)) rfl), (rn_ob rfl rfl (.refl ((encI .u8).blwf 0 _)) rfl), trivial⟩ ⟨(rn_b (cp_blw (Program.enc.blw _ 0))), (rn_b (cp_blw (Func.enc.blw _ 0))), (rn_refL encB rfl rfl rfl), (rn_refL (encL (encI .u8) 1) rfl rfl rfl), (rn_b rfl), (rn_refL (encI .i64) rfl rfl rfl), (rn_refL (encI .u8) rfl rfl rfl), (rn_b ((encI .i64).blws 0)), (rn_b rfl), (rn_b rfl), trivial⟩) (wk_fz 3 6 rfl ⟨⟨rfl, fzL_id (encB.blwf 3 _)⟩, ⟨rfl, fzL_id ((encL (encI .u8) 1).blwf 3 _)⟩, ⟨rfl, fzL_id ((encI .i64).blwf 3 _)⟩, trivial⟩ ⟨(fz_b (cp_blw (Program.enc.blw _ 3)) (.refl _)), (fz_b (cp_blw (Func.enc.blw _ 3)) (.refl _)), (fz_b rfl (.refl _)), (fz_b rfl (.refl _)), (fz_b rfl (.refl _)), (fz_b rfl (.refl _)), (fz_ref (encI .u8) (Nat.le_of_ble_eq_true rfl) rfl), (fz_b ((encI .i64).blws 3) (.refl _)), (fz_b rfl (.refl _)), (fz_b rfl (.refl _)), trivial⟩)) ?_
              refine E_rngO (fun s_24 => [(2, (.cptr (Program.av p_00).cells 0)), (3, (.cptr (Func.av f_01).cells 0)), (8, (.ref 0 1 0 (List.length s_24.1) none)), (9, (.ref 1 1 0 (List.length s_24.2.1) none)), (10, (.bool s_22)), (11, (.ref 2 1 0 (List.length s_24.2.2) none)), (19, (.sl false 1 (List.map (avI .u8) l_20))), (112, (.sl false 1 (List.map (avI .i64) fol_23)))]) (fun s_24 => [.arr 1 (flat avB s_24.1), .arr 1 (flat (avL 1 (avI .u8)) s_24.2.1), .arr 1 (flat (avI .i64) s_24.2.2)]) h (by decide) (by decide) (fun _ => ⟨rfl, rfl, rfl, rfl⟩) (wk_rn [some (0, 0), some (1, 0), some (2, 0)] rfl (Nat.le_of_ble_eq_true rfl) ⟨(rn_ob rfl rfl (.refl (encB.blwf 0 _)) rfl), (rn_ob rfl rfl (.refl ((encL (encI .u8) 1).blwf 0 _)) rfl), (rn_ob rfl rfl (.refl ((encI .i64).blwf 0 _)) rfl), trivial⟩ ⟨(rn_b rfl), (rn_b rfl), (rn_b (cp_blw (Program.enc.blw _ 0))), (rn_b (cp_blw (Func.enc.blw _ 0))), (rn_refL encB rfl rfl rfl), (rn_refL (encL (encI .u8) 1) rfl rfl rfl), (rn_b rfl), (rn_refL (encI .i64) rfl rfl rfl), (rn_b ((encI .u8).blws 0)), (rn_b ((encI .i64).blws 0)), trivial⟩) (fun i_25 vto_26 s_24 c hx_27 hlt h => ?_) (fun s_24 fr' S' h hw => ?_)
              · refine E_sq ?_
                refine E_reg ?_
                refine E_iadF rfl rfl (getI_of hx_27) ?_
                refine E_op0 (v' := (.int .i64 vto_26)) rfl rfl ?_
                refine E_mv (v' := (.int .i64 vto_26)) rfl ?_
                refine E_nil ?_
                refine E_nx ?_
                refine E_block ?_
                refine E_sq ?_
                refine E_reg ?_
                refine E_mv (v' := (.int .i64 vto_26)) rfl ?_
                refine E_op0 (v' := (.cptr (Func.av f_01).cells 4)) rfl rfl ?_
                refine E_op0 (v' := (.sl false 3 (List.map Instr.av f_01.Code))) rfl rfl ?_
                refine E_len rfl ?_
                refine E_op0 (v' := (.bool (decide (vto_26 ≥ (List.length f_01.Code : Int))))) rfl rfl ?_
                refine E_mv (v' := (.bool (decide (vto_26 ≥ (List.length f_01.Code : Int))))) rfl ?_
                refine E_nil ?_
                refine E_nx ?_
                refine E_cs (t := (decide (vto_26 ≥ (List.length f_01.Code : Int)))) rfl (fun hb => ?_) (fun hb => ?_)
                · rw [ite_t hb] at h
                  refine E_sq ?_
                  refine E_reg ?_
                  refine E_mv (v' := .nils) rfl ?_
                  refine E_mv (v' := .nils) rfl ?_
                  refine E_mv (v' := (.bool false)) rfl ?_
                  refine E_mv (v' := (.int .i64 50)) rfl ?_
                  refine E_nil ?_
                  refine E_nx ?_
                  refine E_ret ?_
                  refine E_blr ?_
                  cases h
                  refine L_rrO rfl (fun h => ?_)
                  refine E_blr ?_
                  cases h
                  refine L_rrO rfl (fun h => ?_)
                  refine E_thr ?_
                  cases h
                  exact ⟨trivial, _, rfl, (fz_tup ⟨(fz_b rfl .nil), (fz_b rfl .nil), (fz_b rfl (.refl _)), (fz_b rfl (.refl _)), trivial⟩)⟩
                · rw [ite_f hb] at h
                  refine E_sq ?_
                  refine E_reg ?_
                  refine E_mv (v' := (.ref 0 1 0 (List.length s_24.1) none)) rfl ?_
                  refine E_mv (v' := (.int .i64 vto_26)) rfl ?_
                  obtain ⟨y_28, hy_28, h⟩ := bd_some h
                  refine E_iadR rfl rfl ⟨(getI_some hy_28).1, (getI_some hy_28).2.1⟩ ?_
                  refine E_ldR encB rfl rfl (by first | rfl | exact (Nat.add_zero _).symm | (simp only [Nat.zero_add]; exact (Nat.add_zero _).symm) | (simp only [Nat.zero_add, Nat.add_zero])) (getI_some hy_28).2.2 rfl (.refl _) ?_
                  refine E_op0 (v' := (.bool (!y_28))) rfl rfl ?_
                  refine E_mv (v' := (.bool (!y_28))) rfl ?_
                  refine E_nil ?_
                  refine E_nx ?_
                  refine E_cs (t := (!y_28)) rfl (fun hb => ?_) (fun hb => ?_)
                  · rw [ite_t hb] at h
                    refine E_sq ?_
                    refine E_block ?_
                    refine E_sq ?_
                    refine E_reg ?_
                    refine E_mv (v' := (.ref 0 1 0 (List.length s_24.1) none)) rfl ?_
                    refine E_mv (v' := (.int .i64 vto_26)) rfl ?_
                    refine E_mv (v' := (.ref 1 1 0 (List.length s_24.2.1) none)) rfl ?_
                    refine E_mv (v' := (.int .i64 vto_26)) rfl ?_
                    refine E_mv (v' := (.sl false 1 (List.map (avI .u8) l_20))) rfl ?_
                    obtain ⟨y_29, hy_29, h⟩ := bd_some h
                    refine E_iadR rfl rfl ⟨(getI_some hy_29).1, (getI_some hy_29).2.1⟩ ?_
                    refine E_stR (y := y_29) (y' := true) (S' := [.arr 1 (flat avB (List.set s_24.1 (Int.toNat vto_26) true)), .arr 1 (flat (avL 1 (avI .u8)) s_24.2.1), .arr 1 (flat (avI .i64) s_24.2.2)]) encB rfl rfl rfl (by first | rfl | exact (Nat.add_zero _).symm | (simp only [Nat.zero_add]; exact (Nat.add_zero _).symm) | (simp only [Nat.zero_add, Nat.add_zero])) (getI_some hy_29).2.2 rfl rfl (Nat.le_of_ble_eq_true rfl) rfl rfl ?_
                    try rw [show List.length s_24.1 = List.length (List.set s_24.1 (Int.toNat vto_26) true) by simp only [List.length_set]]
                    obtain ⟨y_31, hy_31, h⟩ := bd_some h
                    refine E_iadR rfl rfl ⟨(getI_some hy_31).1, (getI_some hy_31).2.1⟩ ?_
                    refine E_nil ?_
                    refine E_nx ?_
                    refine E_reg ?_
                    refine E_stR (y := y_31) (y' := l_20) (S' := [.arr 1 (flat avB (List.set s_24.1 (Int.toNat vto_26) true)), .arr 1 (flat (avL 1 (avI .u8)) (List.set s_24.2.1 (Int.toNat vto_26) l_20)), .arr 1 (flat (avI .i64) s_24.2.2)]) (encL (encI .u8) 1) rfl rfl rfl (by first | rfl | exact (Nat.add_zero _).symm | (simp only [Nat.zero_add]; exact (Nat.add_zero _).symm) | (simp only [Nat.zero_add, Nat.add_zero])) (getI_some hy_31).2.2 rfl rfl (Nat.le_of_ble_eq_true rfl) rfl rfl ?_
                    try rw [show List.length s_24.2.1 = List.length (List.set s_24.2.1 (Int.toNat vto_26) l_20) by simp only [List.length_set]]
                    refine E_nil ?_
                    refine E_bln ?_
                    refine E_nx ?_
                    refine E_reg ?_
                    refine E_mv (v' := (.ref 2 1 0 (List.length s_24.2.2) none)) rfl ?_
                    refine E_mv (v' := (.int .i64 vto_26)) rfl ?_
                    refine E_opw (v' := (.sl true 1 (List.map (avI .i64) [vto_26]))) rfl (.refl _) rfl ?_
                    obtain ⟨l_33, hl_33, h⟩ := bd_some h
                    refine E_apL (S' := [.arr 1 (flat avB (List.set s_24.1 (Int.toNat vto_26) true)), .arr 1 (flat (avL 1 (avI .u8)) (List.set s_24.2.1 (Int.toNat vto_26) l_20)), .arr 2 (flat (avI .i64) l_33)]) (encI .i64) rfl (src_sl [vto_26]) rfl hl_33 rfl ?_
                    refine E_mv (v' := (.ref 2 2 0 (List.length l_33) none)) rfl ?_
                    refine E_nil ?_
                    refine E_bln ?_
                    cases h
                    exact L_nn rfl (wk_rn [some (0, 0), some (1, 0), some (2, 0)] rfl (Nat.le_of_ble_eq_true rfl) ⟨(rn_ob rfl rfl (.refl (encB.blwf 0 _)) rfl), (rn_ob rfl rfl (.refl ((encL (encI .u8) 1).blwf 0 _)) rfl), (rn_ob rfl rfl (.refl ((encI .i64).blwf 0 _)) rfl), trivial⟩ ⟨(rn_b rfl), (rn_b rfl), (rn_b (cp_blw (Program.enc.blw _ 0))), (rn_b (cp_blw (Func.enc.blw _ 0))), (rn_refL encB rfl rfl rfl), (rn_refL (encL (encI .u8) 1) rfl rfl rfl), (rn_b rfl), (rn_refL (encI .i64) rfl rfl rfl), (rn_b ((encI .u8).blws 0)), (rn_b ((encI .i64).blws 0)), trivial⟩)
                  · rw [ite_f hb] at h
                    refine E_sq ?_
                    refine E_reg ?_
                    refine E_mv (v' := (.ref 1 1 0 (List.length s_24.2.1) none)) rfl ?_
                    refine E_mv (v' := (.int .i64 vto_26)) rfl ?_
                    obtain ⟨y_34, hy_34, h⟩ := bd_some h
                    refine E_iadR rfl rfl ⟨(getI_some hy_34).1, (getI_some hy_34).2.1⟩ ?_
                    refine E_ldR (encL (encI .u8) 1) rfl rfl (by first | rfl | exact (Nat.add_zero _).symm | (simp only [Nat.zero_add]; exact (Nat.add_zero _).symm) | (simp only [Nat.zero_add, Nat.add_zero])) (getI_some hy_34).2.2 rfl (.refl _) ?_
                    refine E_mv (v' := (.sl false 1 (List.map (avI .u8) l_20))) rfl ?_
                    obtain ⟨equ_35, hequ_35, h⟩ := bd_some h
                    refine E_callW (slices_Equal_ev  hequ_35) rfl ⟨(.refl _), (.refl _), trivial⟩ (blwL_of ⟨((encI .u8).blws 0), ((encI .u8).blws 0), trivial⟩) rfl ?_
                    refine E_op0 (v' := (.bool (!equ_35))) rfl rfl ?_
                    refine E_mv (v' := (.bool (!equ_35))) rfl ?_
                    refine E_nil ?_
                    refine E_nx ?_
                    refine E_cs (t := (!equ_35)) rfl (fun hb => ?_) (fun hb => ?_)
                    · rw [ite_t hb] at h
                      refine E_sq ?_
                      refine E_reg ?_
                      refine E_mv (v' := .nils) rfl ?_
                      refine E_mv (v' := .nils) rfl ?_
                      refine E_mv (v' := (.bool false)) rfl ?_
                      refine E_mv (v' := (.int .i64 50)) rfl ?_
                      refine E_nil ?_
                      refine E_nx ?_
                      refine E_ret ?_
                      refine E_blr ?_
                      cases h
                      refine L_rrO rfl (fun h => ?_)
                      refine E_blr ?_
                      cases h
                      refine L_rrO rfl (fun h => ?_)
                      refine E_thr ?_
                      cases h
                      exact ⟨trivial, _, rfl, (fz_tup ⟨(fz_b rfl .nil), (fz_b rfl .nil), (fz_b rfl (.refl _)), (fz_b rfl (.refl _)), trivial⟩)⟩
                    · rw [ite_f hb] at h
                      refine E_skip ?_
                      refine E_bln ?_
                      cases h
                      exact L_nn rfl (wk_rn [some (0, 0), some (1, 0), some (2, 0)] rfl (Nat.le_of_ble_eq_true rfl) ⟨(rn_ob rfl rfl (.refl (encB.blwf 0 _)) rfl), (rn_ob rfl rfl (.refl ((encL (encI .u8) 1).blwf 0 _)) rfl), (rn_ob rfl rfl (.refl ((encI .i64).blwf 0 _)) rfl), trivial⟩ ⟨(rn_b rfl), (rn_b rfl), (rn_b (cp_blw (Program.enc.blw _ 0))), (rn_b (cp_blw (Func.enc.blw _ 0))), (rn_refL encB rfl rfl rfl), (rn_refL (encL (encI .u8) 1) rfl rfl rfl), (rn_b rfl), (rn_refL (encI .i64) rfl rfl rfl), (rn_b ((encI .u8).blws 0)), (rn_b ((encI .i64).blws 0)), trivial⟩)
              · refine E_bln ?_
                cases h
                exact X_nn rfl hw (wk_rn [some (0, 0), some (1, 0), some (2, 0)] rfl (Nat.le_of_ble_eq_true rfl) ⟨(rn_ob rfl rfl (.refl (encB.blwf 0 _)) rfl), (rn_ob rfl rfl (.refl ((encL (encI .u8) 1).blwf 0 _)) rfl), (rn_ob rfl rfl (.refl ((encI .i64).blwf 0 _)) rfl), trivial⟩ ⟨(rn_b (cp_blw (Program.enc.blw _ 0))), (rn_b (cp_blw (Func.enc.blw _ 0))), (rn_refL encB rfl rfl rfl), (rn_refL (encL (encI .u8) 1) rfl rfl rfl), (rn_b rfl), (rn_refL (encI .i64) rfl rfl rfl), trivial⟩)
    · rw [ite_f hb] at h
      refine E_exit ?_
      refine E_the ?_
      cases h
      exact L_bk rfl rfl rfl (wk_rn [some (0, 0), some (1, 0), some (2, 0)] rfl (Nat.le_of_ble_eq_true rfl) ⟨(rn_ob rfl rfl (.refl (encB.blwf 0 _)) rfl), (rn_ob rfl rfl (.refl ((encL (encI .u8) 1).blwf 0 _)) rfl), (rn_ob rfl rfl (.refl ((encI .i64).blwf 0 _)) rfl), trivial⟩ ⟨(rn_b (cp_blw (Program.enc.blw _ 0))), (rn_b (cp_blw (Func.enc.blw _ 0))), (rn_refL encB rfl rfl rfl), (rn_refL (encL (encI .u8) 1) rfl rfl rfl), (rn_b rfl), (rn_refL (encI .i64) rfl rfl rfl), trivial⟩)
  · refine X_nx hw ?_
    refine E_as ?_
    refine E_sq ?_
    refine E_reg ?_
    refine E_mv (v' := (.ref 1 1 0 (List.length s_5.2.2.1) none)) rfl ?_
    refine E_lenR rfl ?_
    refine E_mv (v' := (.int .i64 0)) rfl ?_
    refine E_nil ?_
    refine E_nx ?_
    refine E_sq ?_
    refine E_rniO (fun s_36 => [(8, (.ref 0 1 0 (List.length s_5.2.1) none)), (9, (.ref 1 1 0 (List.length s_36) none)), (10, (.bool s_5.1))]) (fun s_36 => [.arr 1 (flat avB s_5.2.1), .arr 1 (flat (avL 1 (avI .u8)) s_36)]) h (by decide) (by decide) (fun _ => ⟨rfl, rfl, rfl, rfl⟩) (wk_rn [some (0, 0), some (1, 0)] rfl (Nat.le_of_ble_eq_true rfl) ⟨(rn_ob rfl rfl (.refl (encB.blwf 0 _)) rfl), (rn_ob rfl rfl (.refl ((encL (encI .u8) 1).blwf 0 _)) rfl), trivial⟩ ⟨(rn_b rfl), (rn_b rfl), (rn_refL encB rfl rfl rfl), (rn_refL (encL (encI .u8) 1) rfl rfl rfl), (rn_b rfl), trivial⟩) (fun i_37 s_36 c hlt h => ?_) (fun s_36 fr' S' h hw => ?_)
    · refine E_sq ?_
      refine E_reg ?_
      refine E_mv (v' := (.int .i64 (i_37 : Int))) rfl ?_
      refine E_mv (v' := (.int .i64 (i_37 : Int))) rfl ?_
      refine E_nil ?_
      refine E_nx ?_
      refine E_reg ?_
      refine E_mv (v' := (.ref 1 1 0 (List.length s_36) none)) rfl ?_
      refine E_mv (v' := (.int .i64 (i_37 : Int))) rfl ?_
      refine E_mv (v' := (.ref 1 1 0 (List.length s_36) none)) rfl ?_
      refine E_mv (v' := (.int .i64 (i_37 : Int))) rfl ?_
      obtain ⟨y_38, hy_38, h⟩ := bd_some h
      refine E_iadR rfl rfl ⟨(getI_some hy_38).1, (getI_some hy_38).2.1⟩ ?_
      refine E_ldR (encL (encI .u8) 1) rfl rfl (by first | rfl | exact (Nat.add_zero _).symm | (simp only [Nat.zero_add]; exact (Nat.add_zero _).symm) | (simp only [Nat.zero_add, Nat.add_zero])) (getI_some hy_38).2.2 rfl (.refl _) ?_
      obtain ⟨clo_39, hclo_39, h⟩ := bd_some h
      refine E_callW (slices_Clone_z_ev  hclo_39) rfl ⟨(.refl _), trivial⟩ (blwL_of ⟨((encI .u8).blws 0), trivial⟩) ((encI .u8).blws 0) ?_
      obtain ⟨y_40, hy_40, h⟩ := bd_some h
      refine E_iadR rfl rfl ⟨(getI_some hy_40).1, (getI_some hy_40).2.1⟩ ?_
      refine E_stR (y := y_40) (y' := clo_39) (S' := [.arr 1 (flat avB s_5.2.1), .arr 1 (flat (avL 1 (avI .u8)) (List.set s_36 (Int.toNat (i_37 : Int)) clo_39))]) (encL (encI .u8) 1) rfl rfl rfl (by first | rfl | exact (Nat.add_zero _).symm | (simp only [Nat.zero_add]; exact (Nat.add_zero _).symm) | (simp only [Nat.zero_add, Nat.add_zero])) (getI_some hy_40).2.2 rfl rfl (Nat.le_of_ble_eq_true rfl) rfl rfl ?_
      try rw [show List.length s_36 = List.length (List.set s_36 (Int.toNat (i_37 : Int)) clo_39) by simp only [List.length_set]]
      refine E_nil ?_
      cases h
      exact L_nn rfl (wk_rn [some (0, 0), some (1, 0)] rfl (Nat.le_of_ble_eq_true rfl) ⟨(rn_ob rfl rfl (.refl (encB.blwf 0 _)) rfl), (rn_ob rfl rfl (.refl ((encL (encI .u8) 1).blwf 0 _)) rfl), trivial⟩ ⟨(rn_b rfl), (rn_b rfl), (rn_refL encB rfl rfl rfl), (rn_refL (encL (encI .u8) 1) rfl rfl rfl), (rn_b rfl), trivial⟩)
    · refine X_nx hw ?_
      refine E_sq ?_
      refine E_reg ?_
      refine E_mv (v' := (.ref 0 1 0 (List.length s_5.2.1) none)) rfl ?_
      refine E_mv (v' := (.ref 1 1 0 (List.length s_36) none)) rfl ?_
      refine E_mv (v' := (.bool s_5.1)) rfl ?_
      refine E_mv (v' := (.ref 0 1 0 (List.length s_5.2.1) none)) rfl ?_
      refine E_mv (v' := (.ref 1 1 0 (List.length s_36) none)) rfl ?_
      refine E_mv (v' := (.bool s_5.1)) rfl ?_
      refine E_mv (v' := (.int .i64 0)) rfl ?_
      refine E_nil ?_
      refine E_nx ?_
      refine E_ret ?_
      cases h
      exact ⟨trivial, _, rfl, (fz_tup ⟨(fz_ref encB (Nat.zero_le _) rfl), (fz_ref (encL (encI .u8) 1) (Nat.zero_le _) rfl), (fz_b rfl (.refl _)), (fz_b rfl (.refl _)), trivial⟩)⟩
/- windlass/kinds.Check -/
def fc10 : FC := (.seq (.reg [⟨(some 1), none, .op (.box (.t 0))⟩,
  ⟨(some 2), none, .op (.mv (.v .nilp))⟩,
  ⟨(some 3), none, .op (.mv (.v (.int .i64 0)))⟩] [])
  (.seq (.seq (.reg [⟨(some 17), none, .op (.load (some 1) (.t 1))⟩,
  ⟨(some 18), none, .call 14 [(.t 17)]⟩,
  ⟨(some 16), none, .op (.mv (.t 18))⟩,
  ⟨(some 19), none, .op (.ext 0 (.t 16))⟩,
  ⟨(some 20), none, .op (.ext 1 (.t 16))⟩,
  ⟨(some 4), none, .op (.mv (.t 19))⟩,
  ⟨(some 5), none, .op (.mv (.t 20))⟩] [])
  (.seq (.reg [⟨(some 21), none, .op (.mv (.t 5))⟩,
  ⟨(some 22), none, .op (.bin .none .neq (.t 21) (.v (.int .i64 0)))⟩] [])
  (.cond (.t 22)
  (.seq (.reg [⟨(some 23), none, .op (.mv (.t 5))⟩,
  ⟨(some 2), none, .op (.mv (.v .nilp))⟩,
  ⟨(some 3), none, .op (.mv (.t 23))⟩] [])
  .ret)
  .skip)))
  (.seq (.seq (.reg [⟨(some 24), none, .op (.load (some 1) (.t 1))⟩,
  ⟨(some 25), none, .call 15 [(.t 24)]⟩,
  ⟨(some 26), none, .op (.un .not (.t 25))⟩] [])
  (.cond (.t 26)
  (.seq (.reg [⟨(some 2), none, .op (.mv (.v .nilp))⟩,
  ⟨(some 3), none, .op (.mv (.v (.int .i64 31)))⟩] [])
  .ret)
  .skip))
  (.seq (.seq (.reg [⟨(some 27), none, .op (.fad 0 (.t 1))⟩,
  ⟨(some 28), none, .op (.load none (.t 27))⟩,
  ⟨(some 29), none, .op (.iad none (some 5) (.t 28) (.v (.int .i64 0)))⟩,
  ⟨(some 30), none, .op (.fad 0 (.t 29))⟩,
  ⟨(some 31), none, .op (.load none (.t 30))⟩,
  ⟨(some 32), none, .op (.bin .none .gtr (.t 31) (.v (.int .i64 0)))⟩,
  ⟨(some 33), none, .op (.mv (.t 32))⟩,
  ⟨(some 34), some (33, false), .op (.fad 0 (.t 1))⟩,
  ⟨(some 35), some (33, false), .op (.load none (.t 34))⟩,
  ⟨(some 36), some (33, false), .op (.iad none (some 5) (.t 35) (.v (.int .i64 0)))⟩,
  ⟨(some 37), some (33, false), .op (.fad 2 (.t 36))⟩,
  ⟨(some 38), some (33, false), .op (.load none (.t 37))⟩,
  ⟨(some 39), none, .op (.pick (.t 33) (.v (.bool true)) (.t 38))⟩] [])
  (.cond (.t 39)
  (.seq (.reg [⟨(some 2), none, .op (.mv (.v .nilp))⟩,
  ⟨(some 3), none, .op (.mv (.v (.int .i64 50)))⟩] [])
  .ret)
  .skip))
  (.seq (.seq (.reg [⟨(some 40), none, .op (.fad 0 (.t 1))⟩,
  ⟨(some 41), none, .op (.load none (.t 40))⟩,
  ⟨(some 42), none, .op (.len .sl (.t 41))⟩,
  ⟨(some 43), none, .op (.mv (.v (.int .i64 0)))⟩] [])
  (.block 0 (.loop (.seq (.reg [⟨(some 44), none, .op (.bin .none .lss (.t 43) (.t 42))⟩] [])
  (.seq (.cond (.t 44)
  .skip
  (.exit 0))
  (.seq (.block 1 (.seq (.reg [⟨(some 45), none, .op (.iad none (some 5) (.t 41) (.t 43))⟩,
  ⟨(some 46), none, .op (.load (some 5) (.t 45))⟩,
  ⟨(some 7), none, .op (.new [(.int .i64 0), .nils, (.bool false), (.int .i64 0), .nils])⟩,
  ⟨none, none, .op (.store 5 (.t 7) (.t 46))⟩] [])
  (.seq (.reg [⟨(some 47), none, .op (.load (some 1) (.t 1))⟩,
  ⟨(some 48), none, .op (.load (some 5) (.t 7))⟩,
  ⟨(some 49), none, .call 16 [(.t 47), (.t 48)]⟩,
  ⟨(some 50), none, .op (.un .not (.t 49))⟩] [])
  (.cond (.t 50)
  (.seq (.reg [⟨(some 2), none, .op (.mv (.v .nilp))⟩,
  ⟨(some 3), none, .op (.mv (.v (.int .i64 50)))⟩] [])
  .ret)
  .skip))))
  (.reg [⟨(some 51), none, .op (.bin .none .add (.t 43) (.v (.int .i64 1)))⟩,
  ⟨(some 43), none, .op (.mv (.t 51))⟩] [])))))))
  (.seq (.reg [⟨(some 52), none, .op (.build [.nils, .nils] [])⟩,
  ⟨(some 53), none, .op (.box (.t 52))⟩,
  ⟨(some 8), none, .op (.mv (.t 53))⟩] [])
  (.seq (.reg [⟨(some 9), none, .op (.mv (.v (.bool false)))⟩] [])
  (.seq (.seq (.reg [⟨(some 54), none, .op (.fad 0 (.t 1))⟩,
  ⟨(some 55), none, .op (.load none (.t 54))⟩,
  ⟨(some 56), none, .op (.len .sl (.t 55))⟩,
  ⟨(some 57), none, .op (.mv (.v (.int .i64 0)))⟩] [])
  (.block 2 (.loop (.seq (.reg [⟨(some 58), none, .op (.bin .none .lss (.t 57) (.t 56))⟩] [])
  (.seq (.cond (.t 58)
  .skip
  (.exit 2))
  (.seq (.block 3 (.seq (.reg [⟨(some 59), none, .op (.iad none (some 5) (.t 55) (.t 57))⟩,
  ⟨(some 60), none, .op (.load (some 5) (.t 59))⟩,
  ⟨(some 11), none, .op (.new [(.int .i64 0), .nils, (.bool false), (.int .i64 0), .nils])⟩,
  ⟨none, none, .op (.store 5 (.t 11) (.t 60))⟩] [])
  (.seq (.reg [⟨(some 62), none, .op (.load (some 1) (.t 1))⟩,
  ⟨(some 63), none, .op (.load (some 5) (.t 11))⟩,
  ⟨(some 64), none, .call 17 [(.t 62), (.t 63)]⟩,
  ⟨(some 61), none, .op (.mv (.t 64))⟩,
  ⟨(some 65), none, .op (.ext 0 (.t 61))⟩,
  ⟨(some 66), none, .op (.ext 1 (.t 61))⟩,
  ⟨(some 67), none, .op (.ext 2 (.t 61))⟩,
  ⟨(some 68), none, .op (.ext 3 (.t 61))⟩,
  ⟨(some 12), none, .op (.mv (.t 65))⟩,
  ⟨(some 13), none, .op (.mv (.t 66))⟩,
  ⟨(some 14), none, .op (.mv (.t 67))⟩,
  ⟨(some 15), none, .op (.mv (.t 68))⟩] [])
  (.seq (.seq (.reg [⟨(some 69), none, .op (.mv (.t 15))⟩,
  ⟨(some 70), none, .op (.bin .none .neq (.t 69) (.v (.int .i64 0)))⟩] [])
  (.cond (.t 70)
  (.seq (.reg [⟨(some 71), none, .op (.mv (.t 15))⟩,
  ⟨(some 2), none, .op (.mv (.v .nilp))⟩,
  ⟨(some 3), none, .op (.mv (.t 71))⟩] [])
  .ret)
  .skip))
  (.seq (.reg [⟨(some 72), none, .op (.mv (.t 9))⟩,
  ⟨(some 73), none, .op (.mv (.t 72))⟩,
  ⟨(some 74), some (73, false), .op (.mv (.t 14))⟩,
  ⟨(some 75), none, .op (.pick (.t 73) (.v (.bool true)) (.t 74))⟩,
  ⟨(some 9), none, .op (.mv (.t 75))⟩] [])
  (.reg [⟨(some 76), none, .op (.mv (.t 8))⟩,
  ⟨(some 77), none, .op (.mv (.t 8))⟩,
  ⟨(some 78), none, .op (.mv (.t 8))⟩,
  ⟨(some 79), none, .op (.nchk (.t 78))⟩,
  ⟨(some 80), none, .op (.fad 0 (.t 79))⟩,
  ⟨(some 81), none, .op (.load none (.t 80))⟩,
  ⟨(some 82), none, .op (.mv (.t 12))⟩,
  ⟨(some 83), none, .op (.bsl none [.nils] 1 [(0, 1, (.t 82))])⟩,
  ⟨(some 84), none, .op (.app none 24 (.t 81) (.t 83))⟩,
  ⟨(some 85), none, .op (.mv (.t 8))⟩,
  ⟨(some 86), none, .op (.nchk (.t 85))⟩,
  ⟨(some 87), none, .op (.fad 1 (.t 86))⟩,
  ⟨(some 88), none, .op (.load none (.t 87))⟩,
  ⟨(some 89), none, .op (.mv (.t 13))⟩,
  ⟨(some 90), none, .op (.bsl none [.nils] 1 [(0, 1, (.t 89))])⟩,
  ⟨(some 91), none, .op (.app none 24 (.t 88) (.t 90))⟩,
  ⟨(some 92), none, .op (.nchk (.t 76))⟩,
  ⟨(some 93), none, .op (.fad 0 (.t 92))⟩,
  ⟨none, none, .op (.store 1 (.t 93) (.t 84))⟩,
  ⟨(some 94), none, .op (.nchk (.t 77))⟩,
  ⟨(some 95), none, .op (.fad 1 (.t 94))⟩,
  ⟨none, none, .op (.store 1 (.t 95) (.t 91))⟩] [(5, 7), (7, 12), (8, 12), (5, 14), (7, 14), (8, 14), (12, 14)]))))))
  (.reg [⟨(some 96), none, .op (.bin .none .add (.t 57) (.v (.int .i64 1)))⟩,
  ⟨(some 57), none, .op (.mv (.t 96))⟩] [])))))))
  (.seq (.seq (.reg [⟨(some 97), none, .op (.mv (.t 9))⟩] [])
  (.cond (.t 97)
  (.seq (.reg [⟨(some 2), none, .op (.mv (.v .nilp))⟩,
  ⟨(some 3), none, .op (.mv (.v (.int .i64 31)))⟩] [])
  .ret)
  .skip))
  (.seq (.reg [⟨(some 98), none, .op (.mv (.t 8))⟩,
  ⟨(some 2), none, .op (.mv (.t 98))⟩,
  ⟨(some 3), none, .op (.mv (.v (.int .i64 0)))⟩] [])
  .ret))))))))))
theorem fn10 : Fn3 Try.prog 10 99 [(2, none), (3, none)] fc10 := ⟨_, _, Try.func10, rfl, rfl, rfl, by kernel_rfl⟩
def kinds_Check_s (fuel : Nat) (p_00 : Program) : Option ((Option Types) × Int) :=
  ((code_Encode_s p_00).bind fun enc_1 => (if (enc_1.2 != 0) then (some (none, enc_1.2)) else ((code_Bounded_s p_00).bind fun bou_2 => (if (!bou_2) then (some (none, 31)) else (jp (fun (s_4 : Bool) => (if s_4 then (some (none, 50)) else ((rng (fun (i_7 : Nat) (f_8 : Func) (s_6 : Unit) => (((kinds_head_s p_00 f_8).bind fun hea_10 => (if (!hea_10) then (some (.ret (some (none, 50)))) else (some (.nxt ())))) : Option (Stp Unit (Option ((Option Types) × Int))))) p_00.Funcs ()).bind (oc (fun (s_6 : Unit) => ((rng (fun (i_12 : Nat) (f_13 : Func) (s_11 : (Bool × (List (List Bool)) × (List (List (List Int))))) => (((kinds_function_s fuel p_00 f_13).bind fun vfun_15 => (if (vfun_15.2.2.2 != 0) then (some (.ret (some (none, vfun_15.2.2.2)))) else (jp (fun (s_17 : Bool) => ((appL 24 s_11.2.1 [vfun_15.1]).bind fun l_18 => ((appL 24 s_11.2.2 [vfun_15.2.1]).bind fun l_19 => (some (.nxt (s_17, l_18, l_19)))))) (fun k_16 => (if s_11.1 then (k_16 true) else (k_16 vfun_15.2.2.1)))))) : Option (Stp (Bool × (List (List Bool)) × (List (List (List Int)))) (Option ((Option Types) × Int))))) p_00.Funcs (false, [], [])).bind (oc (fun (s_11 : (Bool × (List (List Bool)) × (List (List (List Int))))) => (if s_11.1 then (some (none, 31)) else (some ((some (Types.mk s_11.2.1 s_11.2.2)), 0))))))))))) (fun k_3 => ((getI p_00.Funcs 0).bind fun y_5 => (if (decide (y_5.Params > 0)) then (k_3 true) else (k_3 y_5.Result)))))))))
theorem kinds_Check_ev {fuel : Nat} {p_00 : Program} {r : ((Option Types) × Int)} (h : kinds_Check_s fuel p_00 = some r) : PureEv Try.prog 10 [(Program.av p_00)] (.tup [(avP Types.av r.1), (.int .i64 r.2)]) := by
  unfold kinds_Check_s at h
  refine PureEv_end mixed fn10 (by simp) [7, 11, 53, 84, 91] 6 ?_
  unfold fc10
  refine E_sq ?_
  refine E_reg ?_
  refine E_op0 (v' := (.cptr (Program.av p_00).cells 0)) rfl rfl ?_
  refine E_mv (v' := .nilp) rfl ?_
  refine E_mv (v' := (.int .i64 0)) rfl ?_
  refine E_nil ?_
  refine E_nx ?_
  refine E_as ?_
  refine E_sq ?_
  refine E_reg ?_
  refine E_op0 (v' := (Program.av p_00)) rfl rfl ?_
  obtain ⟨enc_1, henc_1, h⟩ := bd_some h
  refine E_callW (code_Encode_ev  henc_1) rfl ⟨(.refl _), trivial⟩ (blwL_of ⟨(Program.enc.blw _ 0), trivial⟩) (tup_blw ⟨((encI .u8).blws 0), rfl, trivial⟩) ?_
  refine E_mv (v' := (.tup [(.sl false 1 (List.map (avI .u8) enc_1.1)), (.int .i64 enc_1.2)])) rfl ?_
  refine E_op0 (v' := (.sl false 1 (List.map (avI .u8) enc_1.1))) rfl rfl ?_
  refine E_op0 (v' := (.int .i64 enc_1.2)) rfl rfl ?_
  refine E_mv (v' := (.sl false 1 (List.map (avI .u8) enc_1.1))) rfl ?_
  refine E_mv (v' := (.int .i64 enc_1.2)) rfl ?_
  refine E_nil ?_
  refine E_nx ?_
  refine E_as ?_
  refine E_sq ?_
  refine E_reg ?_
  refine E_mv (v' := (.int .i64 enc_1.2)) rfl ?_
  refine E_op0 (v' := (.bool (enc_1.2 != 0))) rfl rfl ?_
  refine E_nil ?_
  refine E_nx ?_
  refine E_sq ?_
  refine E_cs (t := (enc_1.2 != 0)) rfl (fun hb => ?_) (fun hb => ?_)
  · rw [ite_t hb] at h
    refine E_sq ?_
    refine E_reg ?_
    refine E_mv (v' := (.int .i64 enc_1.2)) rfl ?_
    refine E_mv (v' := .nilp) rfl ?_
    refine E_mv (v' := (.int .i64 enc_1.2)) rfl ?_
    refine E_nil ?_
    refine E_nx ?_
    refine E_ret ?_
    refine E_thr ?_
    cases h
    exact ⟨trivial, _, rfl, (fz_tup ⟨(fz_b rfl (.refl _)), (fz_b rfl (.refl _)), trivial⟩)⟩
  · rw [ite_f hb] at h
    refine E_skip ?_
    refine E_nx ?_
    refine E_as ?_
    refine E_sq ?_
    refine E_reg ?_
    refine E_op0 (v' := (Program.av p_00)) rfl rfl ?_
    obtain ⟨bou_2, hbou_2, h⟩ := bd_some h
    refine E_callW (code_Bounded_ev  hbou_2) rfl ⟨(.refl _), trivial⟩ (blwL_of ⟨(Program.enc.blw _ 0), trivial⟩) rfl ?_
    refine E_op0 (v' := (.bool (!bou_2))) rfl rfl ?_
    refine E_nil ?_
    refine E_nx ?_
    refine E_sq ?_
    refine E_cs (t := (!bou_2)) rfl (fun hb => ?_) (fun hb => ?_)
    · rw [ite_t hb] at h
      refine E_sq ?_
      refine E_reg ?_
      refine E_mv (v' := .nilp) rfl ?_
      refine E_mv (v' := (.int .i64 31)) rfl ?_
      refine E_nil ?_
      refine E_nx ?_
      refine E_ret ?_
      refine E_thr ?_
      cases h
      exact ⟨trivial, _, rfl, (fz_tup ⟨(fz_b rfl (.refl _)), (fz_b rfl (.refl _)), trivial⟩)⟩
    · rw [ite_f hb] at h
      refine E_skip ?_
      refine E_nx ?_
      refine E_as ?_
      refine E_jp h (fun s_4 => [(1, (.cptr (Program.av p_00).cells 0)), (39, (.bool s_4))]) (fun s_4 => []) (fun k_3 h => ?_) (fun s_4 h => ?_)
      · refine E_reg ?_
        refine E_op0 (v' := (.cptr (Program.av p_00).cells 0)) rfl rfl ?_
        refine E_op0 (v' := (.sl false 5 (List.map Func.av p_00.Funcs))) rfl rfl ?_
        obtain ⟨y_5, hy_5, h⟩ := bd_some h
        refine E_iadF rfl rfl hy_5 ?_
        refine E_op0 (v' := (.cptr (Func.av y_5).cells 0)) rfl rfl ?_
        refine E_op0 (v' := (.int .i64 y_5.Params)) rfl rfl ?_
        refine E_op0 (v' := (.bool (decide (y_5.Params > 0)))) rfl rfl ?_
        refine E_mv (v' := (.bool (decide (y_5.Params > 0)))) rfl ?_
        refine E_gsT (b := (decide (y_5.Params > 0))) rfl rfl rfl (fun hb => ?_) (fun hb => ?_)
        · rw [ite_f hb] at h
          refine E_op0 (v' := (.cptr (Program.av p_00).cells 0)) rfl rfl ?_
          refine E_gh rfl ?_
          refine E_op0 (v' := (.sl false 5 (List.map Func.av p_00.Funcs))) rfl rfl ?_
          refine E_gh rfl ?_
          refine E_iadF rfl rfl hy_5 ?_
          refine E_gh rfl ?_
          refine E_op0 (v' := (.cptr (Func.av y_5).cells 2)) rfl rfl ?_
          refine E_gh rfl ?_
          refine E_op0 (v' := (.bool y_5.Result)) rfl rfl ?_
          refine E_pf rfl rfl ?_
          refine E_nil ?_
          exact E_jx _ h (wk_aw ⟨(.refl _), (.refl _), trivial⟩)
        · rw [ite_t hb] at h
          refine E_gm rfl ?_
          refine E_gm rfl ?_
          refine E_gm rfl ?_
          refine E_gm rfl ?_
          refine E_pt rfl rfl ?_
          refine E_nil ?_
          exact E_jx _ h (wk_aw ⟨(.refl _), (.refl _), trivial⟩)
      · refine E_sq ?_
        refine E_cs (t := s_4) rfl (fun hb => ?_) (fun hb => ?_)
        · rw [ite_t hb] at h
          refine E_sq ?_
          refine E_reg ?_
          refine E_mv (v' := .nilp) rfl ?_
          refine E_mv (v' := (.int .i64 50)) rfl ?_
          refine E_nil ?_
          refine E_nx ?_
          refine E_ret ?_
          refine E_thr ?_
          cases h
          exact ⟨trivial, _, rfl, (fz_tup ⟨(fz_b rfl (.refl _)), (fz_b rfl (.refl _)), trivial⟩)⟩
        · rw [ite_f hb] at h
          refine E_skip ?_
          refine E_nx ?_
          refine E_as ?_
          refine E_sq ?_
          refine E_reg ?_
          refine E_op0 (v' := (.cptr (Program.av p_00).cells 0)) rfl rfl ?_
          refine E_op0 (v' := (.sl false 5 (List.map Func.av p_00.Funcs))) rfl rfl ?_
          refine E_len rfl ?_
          refine E_mv (v' := (.int .i64 0)) rfl ?_
          refine E_nil ?_
          refine E_nx ?_
          refine E_sq ?_
          refine E_rngO (fun s_6 => [(1, (.cptr (Program.av p_00).cells 0)), (41, (.sl false 5 (List.map Func.av p_00.Funcs)))]) (fun s_6 => []) h (by decide) (by decide) (fun _ => ⟨rfl, rfl, rfl, rfl⟩) (wk_aw ⟨(.refl _), (.refl _), (.refl _), (.refl _), trivial⟩) (fun i_7 f_8 s_6 c hx_9 hlt h => ?_) (fun s_6 fr' S' h hw => ?_)
          · refine E_sq ?_
            refine E_reg ?_
            refine E_iadF rfl rfl (getI_of hx_9) ?_
            refine E_op0 (v' := (Func.av f_8)) rfl rfl ?_
            refine E_op (v' := .ptr 0 0 0) (S' := [.arr 0 [(.int .i64 0), .nils, (.bool false), (.int .i64 0), .nils]]) rfl rfl rfl ?_
            refine E_do (S' := [.arr 0 [(.int .i64 f_8.Params), (.sl false 1 (List.map (avI .u8) f_8.Locals)), (.bool f_8.Result), (.int .i64 f_8.Keep), (.sl false 3 (List.map Instr.av f_8.Code))]]) rfl rfl ?_
            refine E_nil ?_
            refine E_nx ?_
            refine E_sq ?_
            refine E_reg ?_
            refine E_op0 (v' := (Program.av p_00)) rfl rfl ?_
            refine E_opw (v' := (Func.av f_8)) rfl (.aggL ⟨(.refl _), (.refl _), (.refl _), (.refl _), (.refl _), trivial⟩) rfl ?_
            obtain ⟨hea_10, hhea_10, h⟩ := bd_some h
            refine E_callW (kinds_head_ev  hhea_10) rfl ⟨(.refl _), (.refl _), trivial⟩ (blwL_of ⟨(Program.enc.blw _ 0), (Func.enc.blw _ 0), trivial⟩) rfl ?_
            refine E_op0 (v' := (.bool (!hea_10))) rfl rfl ?_
            refine E_nil ?_
            refine E_nx ?_
            refine E_cs (t := (!hea_10)) rfl (fun hb => ?_) (fun hb => ?_)
            · rw [ite_t hb] at h
              refine E_sq ?_
              refine E_reg ?_
              refine E_mv (v' := .nilp) rfl ?_
              refine E_mv (v' := (.int .i64 50)) rfl ?_
              refine E_nil ?_
              refine E_nx ?_
              refine E_ret ?_
              cases h
              refine L_rrO rfl (fun h => ?_)
              refine E_thr ?_
              cases h
              exact ⟨trivial, _, rfl, (fz_tup ⟨(fz_b rfl (.refl _)), (fz_b rfl (.refl _)), trivial⟩)⟩
            · rw [ite_f hb] at h
              refine E_skip ?_
              cases h
              exact L_nn rfl (wk_rn [] rfl (Nat.le_of_ble_eq_true rfl) trivial ⟨(rn_b rfl), (rn_b rfl), (rn_b (cp_blw (Program.enc.blw _ 0))), (rn_b (Func.enc.blws 0)), trivial⟩)
          · refine X_nx hw ?_
            refine E_sq ?_
            refine E_reg ?_
            refine E_op0 (v' := (.agg [.nils, .nils])) rfl rfl ?_
            refine E_op (v' := .ptr 0 0 0) (S' := [.arr 0 [.nils, .nils]]) rfl rfl rfl ?_
            refine E_mv (v' := (.ptr 0 0 0)) rfl ?_
            refine E_nil ?_
            refine E_nx ?_
            refine E_sq ?_
            refine E_reg ?_
            refine E_mv (v' := (.bool false)) rfl ?_
            refine E_nil ?_
            refine E_nx ?_
            refine E_as ?_
            refine E_sq ?_
            refine E_reg ?_
            refine E_op0 (v' := (.cptr (Program.av p_00).cells 0)) rfl rfl ?_
            refine E_op0 (v' := (.sl false 5 (List.map Func.av p_00.Funcs))) rfl rfl ?_
            refine E_len rfl ?_
            refine E_mv (v' := (.int .i64 0)) rfl ?_
            refine E_nil ?_
            refine E_nx ?_
            refine E_sq ?_
            refine E_rngO (fun s_11 => [(1, (.cptr (Program.av p_00).cells 0)), (8, (.ptr 0 0 0)), (9, (.bool s_11.1)), (55, (.sl false 5 (List.map Func.av p_00.Funcs)))]) (fun s_11 => [.arr 0 [(.ref 1 1 0 (List.length s_11.2.1) none), (.ref 2 1 0 (List.length s_11.2.2) none)], .arr 1 (flat (avL 1 avB) s_11.2.1), .arr 1 (flat (avL 1 (avL 1 (avI .u8))) s_11.2.2)]) h (by decide) (by decide) (fun _ => ⟨rfl, rfl, rfl, rfl⟩) (wk_rn [some (0, 0), none, none] rfl (Nat.le_of_ble_eq_true rfl) ⟨(rn_ob rfl rfl (.cons (rn_nil rfl) (.cons (rn_nil rfl) (.nil (Nat.zero_le _)))) rfl), (rn_obN rfl rfl rfl), (rn_obN rfl rfl rfl), trivial⟩ ⟨(rn_b rfl), (rn_b rfl), (rn_b (cp_blw (Program.enc.blw _ 0))), (rn_ptr rfl rfl rfl rfl), (rn_b rfl), (rn_b (Func.enc.blws 0)), trivial⟩) (fun i_12 f_13 s_11 c hx_14 hlt h => ?_) (fun s_11 fr' S' h hw => ?_)
            · refine E_sq ?_
              refine E_reg ?_
              refine E_iadF rfl rfl (getI_of hx_14) ?_
              refine E_op0 (v' := (Func.av f_13)) rfl rfl ?_
              refine E_op (v' := .ptr 3 0 0) (S' := [.arr 0 [(.ref 1 1 0 (List.length s_11.2.1) none), (.ref 2 1 0 (List.length s_11.2.2) none)], .arr 1 (flat (avL 1 avB) s_11.2.1), .arr 1 (flat (avL 1 (avL 1 (avI .u8))) s_11.2.2), .arr 0 [(.int .i64 0), .nils, (.bool false), (.int .i64 0), .nils]]) rfl rfl rfl ?_
              refine E_do (S' := [.arr 0 [(.ref 1 1 0 (List.length s_11.2.1) none), (.ref 2 1 0 (List.length s_11.2.2) none)], .arr 1 (flat (avL 1 avB) s_11.2.1), .arr 1 (flat (avL 1 (avL 1 (avI .u8))) s_11.2.2), .arr 0 [(.int .i64 f_13.Params), (.sl false 1 (List.map (avI .u8) f_13.Locals)), (.bool f_13.Result), (.int .i64 f_13.Keep), (.sl false 3 (List.map Instr.av f_13.Code))]]) rfl rfl ?_
              refine E_nil ?_
              refine E_nx ?_
              refine E_sq ?_
              refine E_reg ?_
              refine E_op0 (v' := (Program.av p_00)) rfl rfl ?_
              refine E_opw (v' := (Func.av f_13)) rfl (.aggL ⟨(.refl _), (.refl _), (.refl _), (.refl _), (.refl _), trivial⟩) rfl ?_
              obtain ⟨vfun_15, hvfun_15, h⟩ := bd_some h
              refine E_callW (kinds_function_ev (fuel := fuel)  hvfun_15) rfl ⟨(.refl _), (.refl _), trivial⟩ (blwL_of ⟨(Program.enc.blw _ 0), (Func.enc.blw _ 0), trivial⟩) (tup_blw ⟨(encB.blws 0), ((encL (encI .u8) 1).blws 0), rfl, rfl, trivial⟩) ?_
              refine E_mv (v' := (.tup [(.sl false 1 (List.map avB vfun_15.1)), (.sl false 1 (List.map (avL 1 (avI .u8)) vfun_15.2.1)), (.bool vfun_15.2.2.1), (.int .i64 vfun_15.2.2.2)])) rfl ?_
              refine E_op0 (v' := (.sl false 1 (List.map avB vfun_15.1))) rfl rfl ?_
              refine E_op0 (v' := (.sl false 1 (List.map (avL 1 (avI .u8)) vfun_15.2.1))) rfl rfl ?_
              refine E_op0 (v' := (.bool vfun_15.2.2.1)) rfl rfl ?_
              refine E_op0 (v' := (.int .i64 vfun_15.2.2.2)) rfl rfl ?_
              refine E_mv (v' := (.sl false 1 (List.map avB vfun_15.1))) rfl ?_
              refine E_mv (v' := (.sl false 1 (List.map (avL 1 (avI .u8)) vfun_15.2.1))) rfl ?_
              refine E_mv (v' := (.bool vfun_15.2.2.1)) rfl ?_
              refine E_mv (v' := (.int .i64 vfun_15.2.2.2)) rfl ?_
              refine E_nil ?_
              refine E_nx ?_
              refine E_as ?_
              refine E_sq ?_
              refine E_reg ?_
              refine E_mv (v' := (.int .i64 vfun_15.2.2.2)) rfl ?_
              refine E_op0 (v' := (.bool (vfun_15.2.2.2 != 0))) rfl rfl ?_
              refine E_nil ?_
              refine E_nx ?_
              refine E_sq ?_
              refine E_cs (t := (vfun_15.2.2.2 != 0)) rfl (fun hb => ?_) (fun hb => ?_)
              · rw [ite_t hb] at h
                refine E_sq ?_
                refine E_reg ?_
                refine E_mv (v' := (.int .i64 vfun_15.2.2.2)) rfl ?_
                refine E_mv (v' := .nilp) rfl ?_
                refine E_mv (v' := (.int .i64 vfun_15.2.2.2)) rfl ?_
                refine E_nil ?_
                refine E_nx ?_
                refine E_ret ?_
                refine E_thr ?_
                cases h
                refine L_rrO rfl (fun h => ?_)
                refine E_thr ?_
                cases h
                exact ⟨trivial, _, rfl, (fz_tup ⟨(fz_b rfl (.refl _)), (fz_b rfl (.refl _)), trivial⟩)⟩
              · rw [ite_f hb] at h
                refine E_skip ?_
                refine E_nx ?_
                refine E_jp h (fun s_17 => [(1, (.cptr (Program.av p_00).cells 0)), (8, (.ptr 0 0 0)), (9, (.bool s_17)), (12, (.sl false 1 (List.map avB vfun_15.1))), (13, (.sl false 1 (List.map (avL 1 (avI .u8)) vfun_15.2.1))), (55, (.sl false 5 (List.map Func.av p_00.Funcs))), (56, (.int .i64 (List.length p_00.Funcs : Int))), (57, (.int .i64 (i_12 : Int)))]) (fun s_17 => [.arr 0 [(.ref 1 1 0 (List.length s_11.2.1) none), (.ref 2 1 0 (List.length s_11.2.2) none)], .arr 1 (flat (avL 1 avB) s_11.2.1), .arr 1 (flat (avL 1 (avL 1 (avI .u8))) s_11.2.2)]) (fun k_16 h => ?_) (fun s_17 h => ?_)
                · refine E_reg ?_
                  refine E_mv (v' := (.bool s_11.1)) rfl ?_
                  refine E_mv (v' := (.bool s_11.1)) rfl ?_
                  refine E_gsT (b := s_11.1) rfl rfl rfl (fun hb => ?_) (fun hb => ?_)
                  · rw [ite_f hb] at h
                    refine E_mv (v' := (.bool vfun_15.2.2.1)) rfl ?_
                    refine E_pf rfl rfl ?_
                    refine E_mv (v' := (.bool vfun_15.2.2.1)) rfl ?_
                    refine E_nil ?_
                    exact E_jx _ h (wk_rn [some (0, 0), some (1, 0), some (2, 0)] rfl (Nat.le_of_ble_eq_true rfl) ⟨(rn_ob rfl rfl (.cons (rn_refL (encL encB 1) rfl rfl rfl) (.cons (rn_refL (encL (encL (encI .u8) 1) 1) rfl rfl rfl) (.nil (Nat.zero_le _)))) rfl), (rn_ob rfl rfl (.refl ((encL encB 1).blwf 0 _)) rfl), (rn_ob rfl rfl (.refl ((encL (encL (encI .u8) 1) 1).blwf 0 _)) rfl), trivial⟩ ⟨(rn_b (cp_blw (Program.enc.blw _ 0))), (rn_ptr rfl rfl rfl rfl), (rn_b rfl), (rn_b (encB.blws 0)), (rn_b ((encL (encI .u8) 1).blws 0)), (rn_b (Func.enc.blws 0)), (rn_b rfl), (rn_b rfl), trivial⟩)
                  · rw [ite_t hb] at h
                    refine E_pt rfl rfl ?_
                    refine E_mv (v' := (.bool true)) rfl ?_
                    refine E_nil ?_
                    exact E_jx _ h (wk_rn [some (0, 0), some (1, 0), some (2, 0)] rfl (Nat.le_of_ble_eq_true rfl) ⟨(rn_ob rfl rfl (.cons (rn_refL (encL encB 1) rfl rfl rfl) (.cons (rn_refL (encL (encL (encI .u8) 1) 1) rfl rfl rfl) (.nil (Nat.zero_le _)))) rfl), (rn_ob rfl rfl (.refl ((encL encB 1).blwf 0 _)) rfl), (rn_ob rfl rfl (.refl ((encL (encL (encI .u8) 1) 1).blwf 0 _)) rfl), trivial⟩ ⟨(rn_b (cp_blw (Program.enc.blw _ 0))), (rn_ptr rfl rfl rfl rfl), (rn_b rfl), (rn_b (encB.blws 0)), (rn_b ((encL (encI .u8) 1).blws 0)), (rn_b (Func.enc.blws 0)), (rn_b rfl), (rn_b rfl), trivial⟩)
                · refine E_regp ?_
                  refine E_mv (v' := (.ptr 0 0 0)) rfl ?_
                  refine E_mv (v' := (.ptr 0 0 0)) rfl ?_
                  refine E_mv (v' := (.ptr 0 0 0)) rfl ?_
                  refine E_op0 (v' := (.ptr 0 0 0)) rfl rfl ?_
                  refine E_op0 (v' := (.ptr 0 0 0)) rfl rfl ?_
                  refine E_op (v' := (.ref 1 1 0 (List.length s_11.2.1) none)) (S' := [.arr 0 [(.ref 1 1 0 (List.length s_11.2.1) none), (.ref 2 1 0 (List.length s_11.2.2) none)], .arr 1 (flat (avL 1 avB) s_11.2.1), .arr 1 (flat (avL 1 (avL 1 (avI .u8))) s_11.2.2)]) rfl rfl rfl ?_
                  refine E_mv (v' := (.sl false 1 (List.map avB vfun_15.1))) rfl ?_
                  refine E_opw (v' := (.sl true 1 (List.map (avL 1 avB) [vfun_15.1]))) rfl (.refl _) rfl ?_
                  obtain ⟨l_18, hl_18, h⟩ := bd_some h
                  refine E_apL (S' := [.arr 0 [(.ref 1 1 0 (List.length s_11.2.1) none), (.ref 2 1 0 (List.length s_11.2.2) none)], .arr 2 (flat (avL 1 avB) l_18), .arr 1 (flat (avL 1 (avL 1 (avI .u8))) s_11.2.2)]) (encL encB 1) rfl (src_sl [vfun_15.1]) rfl hl_18 rfl ?_
                  refine E_mv (v' := (.ptr 0 0 0)) rfl ?_
                  refine E_op0 (v' := (.ptr 0 0 0)) rfl rfl ?_
                  refine E_op0 (v' := (.ptr 0 0 1)) rfl rfl ?_
                  refine E_op (v' := (.ref 2 1 0 (List.length s_11.2.2) none)) (S' := [.arr 0 [(.ref 1 1 0 (List.length s_11.2.1) none), (.ref 2 1 0 (List.length s_11.2.2) none)], .arr 2 (flat (avL 1 avB) l_18), .arr 1 (flat (avL 1 (avL 1 (avI .u8))) s_11.2.2)]) rfl rfl rfl ?_
                  refine E_mv (v' := (.sl false 1 (List.map (avL 1 (avI .u8)) vfun_15.2.1))) rfl ?_
                  refine E_opw (v' := (.sl true 1 (List.map (avL 1 (avL 1 (avI .u8))) [vfun_15.2.1]))) rfl (.refl _) rfl ?_
                  obtain ⟨l_19, hl_19, h⟩ := bd_some h
                  refine E_apL (S' := [.arr 0 [(.ref 1 1 0 (List.length s_11.2.1) none), (.ref 2 1 0 (List.length s_11.2.2) none)], .arr 2 (flat (avL 1 avB) l_18), .arr 2 (flat (avL 1 (avL 1 (avI .u8))) l_19)]) (encL (encL (encI .u8) 1) 1) rfl (src_sl [vfun_15.2.1]) rfl hl_19 rfl ?_
                  refine E_op0 (v' := (.ptr 0 0 0)) rfl rfl ?_
                  refine E_op0 (v' := (.ptr 0 0 0)) rfl rfl ?_
                  refine E_do (S' := [.arr 0 [(.ref 1 2 0 (List.length l_18) none), (.ref 2 1 0 (List.length s_11.2.2) none)], .arr 2 (flat (avL 1 avB) l_18), .arr 2 (flat (avL 1 (avL 1 (avI .u8))) l_19)]) rfl rfl ?_
                  refine E_op0 (v' := (.ptr 0 0 0)) rfl rfl ?_
                  refine E_op0 (v' := (.ptr 0 0 1)) rfl rfl ?_
                  refine E_do (S' := [.arr 0 [(.ref 1 2 0 (List.length l_18) none), (.ref 2 2 0 (List.length l_19) none)], .arr 2 (flat (avL 1 avB) l_18), .arr 2 (flat (avL 1 (avL 1 (avI .u8))) l_19)]) rfl rfl ?_
                  refine E_nil ?_
                  refine And.intro (by simp [okLog, nthL, okPair, hp, fpOf]) ?_
                  cases h
                  exact L_nn rfl (wk_rn [some (0, 0), some (1, 0), some (2, 0)] rfl (Nat.le_of_ble_eq_true rfl) ⟨(rn_ob rfl rfl (.cons (rn_refL (encL encB 1) rfl rfl rfl) (.cons (rn_refL (encL (encL (encI .u8) 1) 1) rfl rfl rfl) (.nil (Nat.zero_le _)))) rfl), (rn_ob rfl rfl (.refl ((encL encB 1).blwf 0 _)) rfl), (rn_ob rfl rfl (.refl ((encL (encL (encI .u8) 1) 1).blwf 0 _)) rfl), trivial⟩ ⟨(rn_b rfl), (rn_b rfl), (rn_b (cp_blw (Program.enc.blw _ 0))), (rn_ptr rfl rfl rfl rfl), (rn_b rfl), (rn_b (Func.enc.blws 0)), trivial⟩)
            · refine X_nx hw ?_
              refine E_as ?_
              refine E_sq ?_
              refine E_reg ?_
              refine E_mv (v' := (.bool s_11.1)) rfl ?_
              refine E_nil ?_
              refine E_nx ?_
              refine E_sq ?_
              refine E_cs (t := s_11.1) rfl (fun hb => ?_) (fun hb => ?_)
              · rw [ite_t hb] at h
                refine E_sq ?_
                refine E_reg ?_
                refine E_mv (v' := .nilp) rfl ?_
                refine E_mv (v' := (.int .i64 31)) rfl ?_
                refine E_nil ?_
                refine E_nx ?_
                refine E_ret ?_
                refine E_thr ?_
                cases h
                exact ⟨trivial, _, rfl, (fz_tup ⟨(fz_b rfl (.refl _)), (fz_b rfl (.refl _)), trivial⟩)⟩
              · rw [ite_f hb] at h
                refine E_skip ?_
                refine E_nx ?_
                refine E_sq ?_
                refine E_reg ?_
                refine E_mv (v' := (.ptr 0 0 0)) rfl ?_
                refine E_mv (v' := (.ptr 0 0 0)) rfl ?_
                refine E_mv (v' := (.int .i64 0)) rfl ?_
                refine E_nil ?_
                refine E_nx ?_
                refine E_ret ?_
                cases h
                exact ⟨trivial, _, rfl, (fz_tup ⟨(fz_ptr (Nat.zero_le _) rfl ⟨(fz_ref (encL encB 1) (Nat.zero_le _) rfl), (fz_ref (encL (encL (encI .u8) 1) 1) (Nat.zero_le _) rfl), trivial⟩), (fz_b rfl (.refl _)), trivial⟩)⟩
/- windlass/windlasslaw05.first -/
def fc8 : FC := (.seq (.reg [⟨(some 0), none, .op (.mv (.v (.bool false)))⟩] [])
  (.seq (.reg [⟨(some 6), none, .op (.build [(.int .u8 0), (.int .i64 0), (.int .u64 0)] [(0, 1, (.v (.int .u8 1)))])⟩,
  ⟨(some 7), none, .op (.build [(.int .u8 0), (.int .i64 0), (.int .u64 0)] [(0, 1, (.v (.int .u8 29)))])⟩,
  ⟨(some 8), none, .op (.build [(.int .u8 0), (.int .i64 0), (.int .u64 0)] [(0, 1, (.v (.int .u8 24)))])⟩,
  ⟨(some 9), none, .op (.bsl (some 3) [(.int .u8 0), (.int .i64 0), (.int .u64 0)] 3 [(0, 3, (.t 6)), (3, 3, (.t 7)), (6, 3, (.t 8))])⟩,
  ⟨(some 10), none, .op (.build [(.int .i64 0), .nils, (.bool false), (.int .i64 0), .nils] [(3, 1, (.v (.int .i64 (-1)))), (4, 1, (.t 9))])⟩,
  ⟨(some 11), none, .op (.bsl (some 5) [(.int .i64 0), .nils, (.bool false), (.int .i64 0), .nils] 1 [(0, 5, (.t 10))])⟩,
  ⟨(some 12), none, .op (.build [.nils] [(0, 1, (.t 11))])⟩,
  ⟨(some 13), none, .call 10 [(.t 12)]⟩,
  ⟨(some 5), none, .op (.mv (.t 13))⟩,
  ⟨(some 14), none, .op (.ext 0 (.t 5))⟩,
  ⟨(some 15), none, .op (.ext 1 (.t 5))⟩,
  ⟨(some 1), none, .op (.mv (.t 14))⟩,
  ⟨(some 2), none, .op (.mv (.t 15))⟩] [])
  (.seq (.reg [⟨(some 17), none, .op (.build [(.int .u8 0), (.int .i64 0), (.int .u64 0)] [(0, 1, (.v (.int .u8 29)))])⟩,
  ⟨(some 18), none, .op (.build [(.int .u8 0), (.int .i64 0), (.int .u64 0)] [(0, 1, (.v (.int .u8 24)))])⟩,
  ⟨(some 19), none, .op (.bsl (some 3) [(.int .u8 0), (.int .i64 0), (.int .u64 0)] 2 [(0, 3, (.t 17)), (3, 3, (.t 18))])⟩,
  ⟨(some 20), none, .op (.build [(.int .i64 0), .nils, (.bool false), (.int .i64 0), .nils] [(3, 1, (.v (.int .i64 (-1)))), (4, 1, (.t 19))])⟩,
  ⟨(some 21), none, .op (.bsl (some 5) [(.int .i64 0), .nils, (.bool false), (.int .i64 0), .nils] 1 [(0, 5, (.t 20))])⟩,
  ⟨(some 22), none, .op (.build [.nils] [(0, 1, (.t 21))])⟩,
  ⟨(some 23), none, .call 10 [(.t 22)]⟩,
  ⟨(some 16), none, .op (.mv (.t 23))⟩,
  ⟨(some 24), none, .op (.ext 0 (.t 16))⟩,
  ⟨(some 25), none, .op (.ext 1 (.t 16))⟩,
  ⟨(some 3), none, .op (.mv (.t 24))⟩,
  ⟨(some 4), none, .op (.mv (.t 25))⟩] [])
  (.seq (.reg [⟨(some 26), none, .op (.mv (.t 2))⟩,
  ⟨(some 27), none, .op (.bin .none .eql (.t 26) (.v (.int .i64 0)))⟩,
  ⟨(some 28), none, .op (.mv (.t 27))⟩,
  ⟨(some 29), some (28, true), .op (.mv (.t 4))⟩,
  ⟨(some 30), some (28, true), .op (.bin .none .eql (.t 29) (.v (.int .i64 50)))⟩,
  ⟨(some 31), none, .op (.pick (.t 28) (.t 30) (.v (.bool false)))⟩,
  ⟨(some 32), none, .op (.mv (.t 31))⟩,
  ⟨(some 33), some (32, true), .op (.mv (.t 1))⟩,
  ⟨(some 34), some (32, true), .op (.bin .ptr .neq (.t 33) (.v .nilp))⟩,
  ⟨(some 35), none, .op (.pick (.t 32) (.t 34) (.v (.bool false)))⟩,
  ⟨(some 36), none, .op (.mv (.t 35))⟩,
  ⟨(some 37), some (36, true), .op (.mv (.t 1))⟩,
  ⟨(some 38), some (36, true), .op (.nchk (.t 37))⟩,
  ⟨(some 39), some (36, true), .op (.fad 1 (.t 38))⟩,
  ⟨(some 40), some (36, true), .op (.load none (.t 39))⟩,
  ⟨(some 41), some (36, true), .op (.len .sl (.t 40))⟩,
  ⟨(some 42), some (36, true), .op (.bin .none .eql (.t 41) (.v (.int .i64 1)))⟩,
  ⟨(some 43), none, .op (.pick (.t 36) (.t 42) (.v (.bool false)))⟩,
  ⟨(some 44), none, .op (.mv (.t 43))⟩,
  ⟨(some 45), some (44, true), .op (.mv (.t 1))⟩,
  ⟨(some 46), some (44, true), .op (.nchk (.t 45))⟩,
  ⟨(some 47), some (44, true), .op (.fad 1 (.t 46))⟩,
  ⟨(some 48), some (44, true), .op (.load none (.t 47))⟩,
  ⟨(some 49), some (44, true), .op (.iad none none (.t 48) (.v (.int .i64 0)))⟩,
  ⟨(some 50), some (44, true), .op (.load none (.t 49))⟩,
  ⟨(some 51), some (44, true), .op (.len .sl (.t 50))⟩,
  ⟨(some 52), some (44, true), .op (.bin .none .eql (.t 51) (.v (.int .i64 3)))⟩,
  ⟨(some 53), none, .op (.pick (.t 44) (.t 52) (.v (.bool false)))⟩,
  ⟨(some 54), none, .op (.mv (.t 53))⟩,
  ⟨(some 55), some (54, true), .op (.mv (.t 1))⟩,
  ⟨(some 56), some (54, true), .op (.nchk (.t 55))⟩,
  ⟨(some 57), some (54, true), .op (.fad 1 (.t 56))⟩,
  ⟨(some 58), some (54, true), .op (.load none (.t 57))⟩,
  ⟨(some 59), some (54, true), .op (.iad none none (.t 58) (.v (.int .i64 0)))⟩,
  ⟨(some 60), some (54, true), .op (.load none (.t 59))⟩,
  ⟨(some 61), some (54, true), .op (.iad none none (.t 60) (.v (.int .i64 1)))⟩,
  ⟨(some 62), some (54, true), .op (.load none (.t 61))⟩,
  ⟨(some 63), some (54, true), .op (.len .sl (.t 62))⟩,
  ⟨(some 64), some (54, true), .op (.bin .none .eql (.t 63) (.v (.int .i64 1)))⟩,
  ⟨(some 65), none, .op (.pick (.t 54) (.t 64) (.v (.bool false)))⟩,
  ⟨(some 0), none, .op (.mv (.t 65))⟩] [])
  .ret))))
theorem fn8 : Fn3 Try.prog 8 66 [(0, none)] fc8 := ⟨_, _, Try.func8, rfl, rfl, rfl, by kernel_rfl⟩
def windlasslaw05_first_s (fuel : Nat)  : Option Bool :=
  ((kinds_Check_s fuel (Program.mk ([(Func.mk 0 [] false (-1) ([(Instr.mk 1 0 0), (Instr.mk 29 0 0), (Instr.mk 24 0 0)]))]))).bind fun che_1 => ((kinds_Check_s fuel (Program.mk ([(Func.mk 0 [] false (-1) ([(Instr.mk 29 0 0), (Instr.mk 24 0 0)]))]))).bind fun che_2 => (jp (fun (s_4 : Bool) => (some s_4)) (fun k_3 => (if (che_1.2 == 0) then (if (che_2.2 == 50) then (if (Option.isSome che_1.1) then (che_1.1.bind fun p_5 => (if ((List.length p_5.Stacks : Int) == 1) then ((getI p_5.Stacks 0).bind fun y_6 => (if ((List.length y_6 : Int) == 3) then ((getI y_6 1).bind fun y_7 => (k_3 ((List.length y_7 : Int) == 1))) else (k_3 false))) else (k_3 false))) else (k_3 false)) else (k_3 false)) else (k_3 false))))))
theorem windlasslaw05_first_ev {fuel : Nat}  {r : Bool} (h : windlasslaw05_first_s fuel  = some r) : PureEv Try.prog 8 [] (.bool r) := by
  unfold windlasslaw05_first_s at h
  refine PureEv_end mixed fn8 (by simp) [] 6 ?_
  unfold fc8
  refine E_sq ?_
  refine E_reg ?_
  refine E_mv (v' := (.bool false)) rfl ?_
  refine E_nil ?_
  refine E_nx ?_
  refine E_sq ?_
  refine E_reg ?_
  refine E_opw (v' := (Instr.av (Instr.mk 1 0 0))) rfl (.aggL ⟨(.refl _), (.refl _), (.refl _), trivial⟩) rfl ?_
  refine E_opw (v' := (Instr.av (Instr.mk 29 0 0))) rfl (.aggL ⟨(.refl _), (.refl _), (.refl _), trivial⟩) rfl ?_
  refine E_opw (v' := (Instr.av (Instr.mk 24 0 0))) rfl (.aggL ⟨(.refl _), (.refl _), (.refl _), trivial⟩) rfl ?_
  refine E_opw (v := (.sl true 3 (List.map Instr.av [(Instr.mk 1 0 0), (Instr.mk 29 0 0), (Instr.mk 24 0 0)]))) (v' := (.sl true 3 (List.map Instr.av [(Instr.mk 1 0 0), (Instr.mk 29 0 0), (Instr.mk 24 0 0)]))) (rd := []) (δ := none) (by kernel_rfl) (.refl _) rfl ?_
  refine E_opw (v' := (Func.av (Func.mk 0 [] false (-1) ([(Instr.mk 1 0 0), (Instr.mk 29 0 0), (Instr.mk 24 0 0)])))) rfl (.aggL ⟨(.refl _), .nil, (.refl _), (.refl _), .ex, trivial⟩) rfl ?_
  refine E_opw (v' := (.sl true 5 (List.map Func.av [(Func.mk 0 [] false (-1) ([(Instr.mk 1 0 0), (Instr.mk 29 0 0), (Instr.mk 24 0 0)]))]))) rfl (.refl _) rfl ?_
  refine E_opw (v' := (Program.av (Program.mk ([(Func.mk 0 [] false (-1) ([(Instr.mk 1 0 0), (Instr.mk 29 0 0), (Instr.mk 24 0 0)]))])))) rfl (.aggL ⟨.ex, trivial⟩) rfl ?_
  obtain ⟨che_1, hche_1, h⟩ := bd_some h
  refine E_callW (kinds_Check_ev (fuel := fuel)  hche_1) rfl ⟨(.refl _), trivial⟩ (blwL_of ⟨(Program.enc.blw _ 0), trivial⟩) (tup_blw ⟨((encP Types.enc).blw _ 0), rfl, trivial⟩) ?_
  refine E_mv (v' := (.tup [(avP Types.av che_1.1), (.int .i64 che_1.2)])) rfl ?_
  refine E_op0 (v' := (avP Types.av che_1.1)) rfl rfl ?_
  refine E_op0 (v' := (.int .i64 che_1.2)) rfl rfl ?_
  refine E_mv (v' := (avP Types.av che_1.1)) rfl ?_
  refine E_mv (v' := (.int .i64 che_1.2)) rfl ?_
  refine E_nil ?_
  refine E_nx ?_
  refine E_sq ?_
  refine E_reg ?_
  refine E_opw (v' := (Instr.av (Instr.mk 29 0 0))) rfl (.aggL ⟨(.refl _), (.refl _), (.refl _), trivial⟩) rfl ?_
  refine E_opw (v' := (Instr.av (Instr.mk 24 0 0))) rfl (.aggL ⟨(.refl _), (.refl _), (.refl _), trivial⟩) rfl ?_
  refine E_opw (v' := (.sl true 3 (List.map Instr.av [(Instr.mk 29 0 0), (Instr.mk 24 0 0)]))) rfl (.refl _) rfl ?_
  refine E_opw (v' := (Func.av (Func.mk 0 [] false (-1) ([(Instr.mk 29 0 0), (Instr.mk 24 0 0)])))) rfl (.aggL ⟨(.refl _), .nil, (.refl _), (.refl _), .ex, trivial⟩) rfl ?_
  refine E_opw (v' := (.sl true 5 (List.map Func.av [(Func.mk 0 [] false (-1) ([(Instr.mk 29 0 0), (Instr.mk 24 0 0)]))]))) rfl (.refl _) rfl ?_
  refine E_opw (v' := (Program.av (Program.mk ([(Func.mk 0 [] false (-1) ([(Instr.mk 29 0 0), (Instr.mk 24 0 0)]))])))) rfl (.aggL ⟨.ex, trivial⟩) rfl ?_
  obtain ⟨che_2, hche_2, h⟩ := bd_some h
  refine E_callW (kinds_Check_ev (fuel := fuel)  hche_2) rfl ⟨(.refl _), trivial⟩ (blwL_of ⟨(Program.enc.blw _ 0), trivial⟩) (tup_blw ⟨((encP Types.enc).blw _ 0), rfl, trivial⟩) ?_
  refine E_mv (v' := (.tup [(avP Types.av che_2.1), (.int .i64 che_2.2)])) rfl ?_
  refine E_op0 (v' := (avP Types.av che_2.1)) rfl rfl ?_
  refine E_op0 (v' := (.int .i64 che_2.2)) rfl rfl ?_
  refine E_mv (v' := (avP Types.av che_2.1)) rfl ?_
  refine E_mv (v' := (.int .i64 che_2.2)) rfl ?_
  refine E_nil ?_
  refine E_nx ?_
  refine E_jp h (fun s_4 => [(0, (.bool s_4))]) (fun s_4 => []) (fun k_3 h => ?_) (fun s_4 h => ?_)
  · refine E_reg ?_
    refine E_mv (v' := (.int .i64 che_1.2)) rfl ?_
    refine E_op0 (v' := (.bool (che_1.2 == 0))) rfl rfl ?_
    refine E_mv (v' := (.bool (che_1.2 == 0))) rfl ?_
    refine E_gsT (b := (che_1.2 == 0)) rfl rfl rfl (fun hb => ?_) (fun hb => ?_)
    · rw [ite_t hb] at h
      refine E_mv (v' := (.int .i64 che_2.2)) rfl ?_
      refine E_gh rfl ?_
      refine E_op0 (v' := (.bool (che_2.2 == 50))) rfl rfl ?_
      refine E_pt rfl rfl ?_
      refine E_mv (v' := (.bool (che_2.2 == 50))) rfl ?_
      refine E_gsT (b := (che_2.2 == 50)) rfl rfl rfl (fun hb => ?_) (fun hb => ?_)
      · rw [ite_t hb] at h
        refine E_mv (v' := (avP Types.av che_1.1)) rfl ?_
        refine E_gh rfl ?_
        refine E_pnn (o := che_1.1) rfl rfl ?_
        refine E_pt rfl rfl ?_
        refine E_mv (v' := (.bool (Option.isSome che_1.1))) rfl ?_
        refine E_gsT (b := (Option.isSome che_1.1)) rfl rfl rfl (fun hb => ?_) (fun hb => ?_)
        · rw [ite_t hb] at h
          refine E_mv (v' := (avP Types.av che_1.1)) rfl ?_
          refine E_gh rfl ?_
          obtain ⟨p_5, hp_5, h⟩ := bd_some h
          refine E_nck (f := Types.av) rfl hp_5 ?_
          refine E_gh rfl ?_
          refine E_op0 (v' := (.cptr (Types.av p_5).cells 1)) rfl rfl ?_
          refine E_gh rfl ?_
          refine E_op0 (v' := (.sl false 1 (List.map (avL 1 (avL 1 (avI .u8))) p_5.Stacks))) rfl rfl ?_
          refine E_gh rfl ?_
          refine E_len rfl ?_
          refine E_gh rfl ?_
          refine E_op0 (v' := (.bool ((List.length p_5.Stacks : Int) == 1))) rfl rfl ?_
          refine E_pt rfl rfl ?_
          refine E_mv (v' := (.bool ((List.length p_5.Stacks : Int) == 1))) rfl ?_
          refine E_gsT (b := ((List.length p_5.Stacks : Int) == 1)) rfl rfl rfl (fun hb => ?_) (fun hb => ?_)
          · rw [ite_t hb] at h
            refine E_mv (v' := (avP Types.av che_1.1)) rfl ?_
            refine E_gh rfl ?_
            refine E_nck (f := Types.av) rfl hp_5 ?_
            refine E_gh rfl ?_
            refine E_op0 (v' := (.cptr (Types.av p_5).cells 1)) rfl rfl ?_
            refine E_gh rfl ?_
            refine E_op0 (v' := (.sl false 1 (List.map (avL 1 (avL 1 (avI .u8))) p_5.Stacks))) rfl rfl ?_
            refine E_gh rfl ?_
            obtain ⟨y_6, hy_6, h⟩ := bd_some h
            refine E_iadF rfl rfl hy_6 ?_
            refine E_gh rfl ?_
            refine E_op0 (v' := (.sl false 1 (List.map (avL 1 (avI .u8)) y_6))) rfl rfl ?_
            refine E_gh rfl ?_
            refine E_len rfl ?_
            refine E_gh rfl ?_
            refine E_op0 (v' := (.bool ((List.length y_6 : Int) == 3))) rfl rfl ?_
            refine E_pt rfl rfl ?_
            refine E_mv (v' := (.bool ((List.length y_6 : Int) == 3))) rfl ?_
            refine E_gsT (b := ((List.length y_6 : Int) == 3)) rfl rfl rfl (fun hb => ?_) (fun hb => ?_)
            · rw [ite_t hb] at h
              refine E_mv (v' := (avP Types.av che_1.1)) rfl ?_
              refine E_gh rfl ?_
              refine E_nck (f := Types.av) rfl hp_5 ?_
              refine E_gh rfl ?_
              refine E_op0 (v' := (.cptr (Types.av p_5).cells 1)) rfl rfl ?_
              refine E_gh rfl ?_
              refine E_op0 (v' := (.sl false 1 (List.map (avL 1 (avL 1 (avI .u8))) p_5.Stacks))) rfl rfl ?_
              refine E_gh rfl ?_
              refine E_iadF rfl rfl hy_6 ?_
              refine E_gh rfl ?_
              refine E_op0 (v' := (.sl false 1 (List.map (avL 1 (avI .u8)) y_6))) rfl rfl ?_
              refine E_gh rfl ?_
              obtain ⟨y_7, hy_7, h⟩ := bd_some h
              refine E_iadF rfl rfl hy_7 ?_
              refine E_gh rfl ?_
              refine E_op0 (v' := (.sl false 1 (List.map (avI .u8) y_7))) rfl rfl ?_
              refine E_gh rfl ?_
              refine E_len rfl ?_
              refine E_gh rfl ?_
              refine E_op0 (v' := (.bool ((List.length y_7 : Int) == 1))) rfl rfl ?_
              refine E_pt rfl rfl ?_
              refine E_mv (v' := (.bool ((List.length y_7 : Int) == 1))) rfl ?_
              refine E_nil ?_
              exact E_jx _ h (wk_aw ⟨(.refl _), trivial⟩)
            · rw [ite_f hb] at h
              refine E_gm rfl ?_
              refine E_gm rfl ?_
              refine E_gm rfl ?_
              refine E_gm rfl ?_
              refine E_gm rfl ?_
              refine E_gm rfl ?_
              refine E_gm rfl ?_
              refine E_gm rfl ?_
              refine E_gm rfl ?_
              refine E_pf rfl rfl ?_
              refine E_mv (v' := (.bool false)) rfl ?_
              refine E_nil ?_
              exact E_jx _ h (wk_aw ⟨(.refl _), trivial⟩)
          · rw [ite_f hb] at h
            refine E_gm rfl ?_
            refine E_gm rfl ?_
            refine E_gm rfl ?_
            refine E_gm rfl ?_
            refine E_gm rfl ?_
            refine E_gm rfl ?_
            refine E_gm rfl ?_
            refine E_pf rfl rfl ?_
            refine E_mv (v' := (.bool false)) rfl ?_
            refine E_gm rfl ?_
            refine E_gm rfl ?_
            refine E_gm rfl ?_
            refine E_gm rfl ?_
            refine E_gm rfl ?_
            refine E_gm rfl ?_
            refine E_gm rfl ?_
            refine E_gm rfl ?_
            refine E_gm rfl ?_
            refine E_gm rfl ?_
            refine E_pf rfl rfl ?_
            refine E_mv (v' := (.bool false)) rfl ?_
            refine E_nil ?_
            exact E_jx _ h (wk_aw ⟨(.refl _), trivial⟩)
        · rw [ite_f hb] at h
          refine E_gm rfl ?_
          refine E_gm rfl ?_
          refine E_gm rfl ?_
          refine E_gm rfl ?_
          refine E_gm rfl ?_
          refine E_pf rfl rfl ?_
          refine E_mv (v' := (.bool false)) rfl ?_
          refine E_gm rfl ?_
          refine E_gm rfl ?_
          refine E_gm rfl ?_
          refine E_gm rfl ?_
          refine E_gm rfl ?_
          refine E_gm rfl ?_
          refine E_gm rfl ?_
          refine E_gm rfl ?_
          refine E_pf rfl rfl ?_
          refine E_mv (v' := (.bool false)) rfl ?_
          refine E_gm rfl ?_
          refine E_gm rfl ?_
          refine E_gm rfl ?_
          refine E_gm rfl ?_
          refine E_gm rfl ?_
          refine E_gm rfl ?_
          refine E_gm rfl ?_
          refine E_gm rfl ?_
          refine E_gm rfl ?_
          refine E_gm rfl ?_
          refine E_pf rfl rfl ?_
          refine E_mv (v' := (.bool false)) rfl ?_
          refine E_nil ?_
          exact E_jx _ h (wk_aw ⟨(.refl _), trivial⟩)
      · rw [ite_f hb] at h
        refine E_gm rfl ?_
        refine E_pf rfl rfl ?_
        refine E_mv (v' := (.bool false)) rfl ?_
        refine E_gm rfl ?_
        refine E_gm rfl ?_
        refine E_gm rfl ?_
        refine E_gm rfl ?_
        refine E_gm rfl ?_
        refine E_gm rfl ?_
        refine E_pf rfl rfl ?_
        refine E_mv (v' := (.bool false)) rfl ?_
        refine E_gm rfl ?_
        refine E_gm rfl ?_
        refine E_gm rfl ?_
        refine E_gm rfl ?_
        refine E_gm rfl ?_
        refine E_gm rfl ?_
        refine E_gm rfl ?_
        refine E_gm rfl ?_
        refine E_pf rfl rfl ?_
        refine E_mv (v' := (.bool false)) rfl ?_
        refine E_gm rfl ?_
        refine E_gm rfl ?_
        refine E_gm rfl ?_
        refine E_gm rfl ?_
        refine E_gm rfl ?_
        refine E_gm rfl ?_
        refine E_gm rfl ?_
        refine E_gm rfl ?_
        refine E_gm rfl ?_
        refine E_gm rfl ?_
        refine E_pf rfl rfl ?_
        refine E_mv (v' := (.bool false)) rfl ?_
        refine E_nil ?_
        exact E_jx _ h (wk_aw ⟨(.refl _), trivial⟩)
    · rw [ite_f hb] at h
      refine E_gm rfl ?_
      refine E_pf rfl rfl ?_
      refine E_mv (v' := (.bool false)) rfl ?_
      refine E_gm rfl ?_
      refine E_gm rfl ?_
      refine E_pf rfl rfl ?_
      refine E_mv (v' := (.bool false)) rfl ?_
      refine E_gm rfl ?_
      refine E_gm rfl ?_
      refine E_gm rfl ?_
      refine E_gm rfl ?_
      refine E_gm rfl ?_
      refine E_gm rfl ?_
      refine E_pf rfl rfl ?_
      refine E_mv (v' := (.bool false)) rfl ?_
      refine E_gm rfl ?_
      refine E_gm rfl ?_
      refine E_gm rfl ?_
      refine E_gm rfl ?_
      refine E_gm rfl ?_
      refine E_gm rfl ?_
      refine E_gm rfl ?_
      refine E_gm rfl ?_
      refine E_pf rfl rfl ?_
      refine E_mv (v' := (.bool false)) rfl ?_
      refine E_gm rfl ?_
      refine E_gm rfl ?_
      refine E_gm rfl ?_
      refine E_gm rfl ?_
      refine E_gm rfl ?_
      refine E_gm rfl ?_
      refine E_gm rfl ?_
      refine E_gm rfl ?_
      refine E_gm rfl ?_
      refine E_gm rfl ?_
      refine E_pf rfl rfl ?_
      refine E_mv (v' := (.bool false)) rfl ?_
      refine E_nil ?_
      exact E_jx _ h (wk_aw ⟨(.refl _), trivial⟩)
  · refine E_ret ?_
    cases h
    exact ⟨trivial, _, rfl, (fz_b rfl (.refl _))⟩
def gc_windlassref03_Copy : FC := (.seq (.reg [⟨(some 1), none, .op (.box (.t 0))⟩,
  ⟨(some 2), none, .op (.new [.nils])⟩] [])
  (.seq (.reg [⟨(some 3), none, .op (.new [.nils])⟩] [])
  (.seq (.seq (.reg [⟨(some 6), none, .op (.fad 0 (.t 1))⟩,
  ⟨(some 7), none, .op (.load none (.t 6))⟩,
  ⟨(some 8), none, .op (.len .sl (.t 7))⟩,
  ⟨(some 9), none, .op (.mv (.v (.int .i64 0)))⟩] [])
  (.block 0 (.loop (.seq (.reg [⟨(some 10), none, .op (.bin .none .lss (.t 9) (.t 8))⟩] [])
  (.seq (.cond (.t 10)
  .skip
  (.exit 0))
  (.seq (.block 1 (.seq (.reg [⟨(some 11), none, .op (.iad none (some 5) (.t 7) (.t 9))⟩,
  ⟨(some 12), none, .op (.load (some 5) (.t 11))⟩,
  ⟨(some 5), none, .op (.new [(.int .i64 0), .nils, (.bool false), (.int .i64 0), .nils])⟩,
  ⟨none, none, .op (.store 5 (.t 5) (.t 12))⟩] [])
  (.seq (.reg [⟨(some 13), none, .op (.bsl none [(.int .u8 0)] 0 [])⟩,
  ⟨(some 14), none, .op (.fad 1 (.t 5))⟩,
  ⟨(some 15), none, .op (.load none (.t 14))⟩,
  ⟨(some 16), none, .op (.app none 1 (.t 13) (.t 15))⟩,
  ⟨(some 17), none, .op (.fad 1 (.t 5))⟩,
  ⟨none, none, .op (.store 1 (.t 17) (.t 16))⟩] [])
  (.seq (.reg [⟨(some 18), none, .op (.bsl (some 3) [(.int .u8 0), (.int .i64 0), (.int .u64 0)] 0 [])⟩,
  ⟨(some 19), none, .op (.fad 4 (.t 5))⟩,
  ⟨(some 20), none, .op (.load none (.t 19))⟩,
  ⟨(some 21), none, .op (.app (some 3) 24 (.t 18) (.t 20))⟩,
  ⟨(some 22), none, .op (.fad 4 (.t 5))⟩,
  ⟨none, none, .op (.store 1 (.t 22) (.t 21))⟩] [])
  (.block 1000003 (.seq (.reg [⟨(some 23), none, .op (.fad 0 (.t 3))⟩,
  ⟨(some 24), none, .op (.load none (.t 23))⟩,
  ⟨(some 25), none, .op (.load (some 5) (.t 5))⟩] []) (.reg [⟨(some 26), none, .op (.bsl (some 5) [(.int .i64 0), .nils, (.bool false), (.int .i64 0), .nils] 1 [(0, 5, (.t 25))])⟩,
  ⟨(some 27), none, .op (.app (some 5) 72 (.t 24) (.t 26))⟩,
  ⟨(some 28), none, .op (.fad 0 (.t 3))⟩,
  ⟨none, none, .op (.store 1 (.t 28) (.t 27))⟩] [])))))))
  (.reg [⟨(some 29), none, .op (.bin .none .add (.t 9) (.v (.int .i64 1)))⟩,
  ⟨(some 9), none, .op (.mv (.t 29))⟩] [])))))))
  (.seq (.reg [⟨(some 30), none, .op (.load (some 1) (.t 3))⟩,
  ⟨none, none, .op (.store 1 (.t 2) (.t 30))⟩] [])
  .ret))))
theorem gn_windlassref03_Copy : Fn3S Try.prog 9 31 [(2, (some (some 1)))] gc_windlassref03_Copy := ⟨_, _, Try.func9, rfl, rfl, rfl, by kernel_rfl, by kernel_rfl⟩
def windlassref03_Copy_s (p_00 : Program) : Option Program :=
  ((rng (fun (i_2 : Nat) (f_3 : Func) (s_1 : (List Func)) => (((appL 1 ([] : List Int) f_3.Locals).bind fun l_5 => ((appL 24 ([] : List Instr) f_3.Code).bind fun l_6 => ((appL 72 s_1 [(Func.mk f_3.Params l_5 f_3.Result f_3.Keep l_6)]).bind fun l_7 => (some (.nxt l_7))))) : Option (Stp (List Func) (Option Program)))) p_00.Funcs []).bind (oc (fun (s_1 : (List Func)) => (some (Program.mk s_1)))))
theorem windlassref03_Copy_ev {p_00 : Program} {r : Program} (h : windlassref03_Copy_s p_00 = some r) : PureEv Try.prog 9 [(Program.av p_00)] (Program.av r) := by
  unfold windlassref03_Copy_s at h
  refine PureEv_endS mixed gn_windlassref03_Copy (by simp) [2, 3, 5, 13, 18, 27] 6 ?_
  unfold gc_windlassref03_Copy
  refine E_sq ?_
  refine E_reg ?_
  refine E_op0 (v' := (.cptr (Program.av p_00).cells 0)) rfl rfl ?_
  refine E_op (v' := .ptr 0 0 0) (S' := [.arr 0 [.nils]]) rfl rfl rfl ?_
  refine E_nil ?_
  refine E_nx ?_
  refine E_sq ?_
  refine E_reg ?_
  refine E_op (v' := .ptr 1 0 0) (S' := [.arr 0 [.nils], .arr 0 [.nils]]) rfl rfl rfl ?_
  refine E_nil ?_
  refine E_nx ?_
  refine E_as ?_
  refine E_sq ?_
  refine E_reg ?_
  refine E_op0 (v' := (.cptr (Program.av p_00).cells 0)) rfl rfl ?_
  refine E_op0 (v' := (.sl false 5 (List.map Func.av p_00.Funcs))) rfl rfl ?_
  refine E_len rfl ?_
  refine E_mv (v' := (.int .i64 0)) rfl ?_
  refine E_nil ?_
  refine E_nx ?_
  refine E_sq ?_
  refine E_rngO (fun s_1 => [(2, (.ptr 0 0 0)), (3, (.ptr 1 0 0)), (7, (.sl false 5 (List.map Func.av p_00.Funcs)))]) (fun s_1 => [.arr 0 [.nils], .arr 0 [(.ref 2 1 0 (List.length s_1) (some 5))], .arr 1 (flat Func.av s_1)]) h (by decide) (by decide) (fun _ => ⟨rfl, rfl, rfl, rfl⟩) (wk_rn [some (0, 0), some (1, 0), none] rfl (Nat.le_of_ble_eq_true rfl) ⟨(rn_ob rfl rfl (.cons (rn_b rfl) (.nil (Nat.zero_le _))) rfl), (rn_ob rfl rfl (.cons (rn_nil rfl) (.nil (Nat.zero_le _))) rfl), (rn_obN rfl rfl rfl), trivial⟩ ⟨(rn_b rfl), (rn_b rfl), (rn_ptr rfl rfl rfl rfl), (rn_ptr rfl rfl rfl rfl), (rn_b (Func.enc.blws 0)), trivial⟩) (fun i_2 f_3 s_1 c hx_4 hlt h => ?_) (fun s_1 fr' S' h hw => ?_)
  · refine E_sq ?_
    refine E_reg ?_
    refine E_iadF rfl rfl (getI_of hx_4) ?_
    refine E_op0 (v' := (Func.av f_3)) rfl rfl ?_
    refine E_op (v' := .ptr 3 0 0) (S' := [.arr 0 [.nils], .arr 0 [(.ref 2 1 0 (List.length s_1) (some 5))], .arr 1 (flat Func.av s_1), .arr 0 [(.int .i64 0), .nils, (.bool false), (.int .i64 0), .nils]]) rfl rfl rfl ?_
    refine E_do (S' := [.arr 0 [.nils], .arr 0 [(.ref 2 1 0 (List.length s_1) (some 5))], .arr 1 (flat Func.av s_1), .arr 0 [(.int .i64 f_3.Params), (.sl false 1 (List.map (avI .u8) f_3.Locals)), (.bool f_3.Result), (.int .i64 f_3.Keep), (.sl false 3 (List.map Instr.av f_3.Code))]]) rfl rfl ?_
    refine E_nil ?_
    refine E_nx ?_
    refine E_sq ?_
    refine E_reg ?_
    refine E_op (v' := (.ref 4 0 0 (List.length ([] : List Int)) none)) (S' := [.arr 0 [.nils], .arr 0 [(.ref 2 1 0 (List.length s_1) (some 5))], .arr 1 (flat Func.av s_1), .arr 0 [(.int .i64 f_3.Params), (.sl false 1 (List.map (avI .u8) f_3.Locals)), (.bool f_3.Result), (.int .i64 f_3.Keep), (.sl false 3 (List.map Instr.av f_3.Code))], .arr 0 (flat (avI .u8) ([] : List Int))]) rfl rfl rfl ?_
    refine E_op0 (v' := (.ptr 3 0 1)) rfl rfl ?_
    refine E_op (v' := (.sl false 1 (List.map (avI .u8) f_3.Locals))) (S' := [.arr 0 [.nils], .arr 0 [(.ref 2 1 0 (List.length s_1) (some 5))], .arr 1 (flat Func.av s_1), .arr 0 [(.int .i64 f_3.Params), (.sl false 1 (List.map (avI .u8) f_3.Locals)), (.bool f_3.Result), (.int .i64 f_3.Keep), (.sl false 3 (List.map Instr.av f_3.Code))], .arr 0 (flat (avI .u8) ([] : List Int))]) rfl rfl rfl ?_
    obtain ⟨l_5, hl_5, h⟩ := bd_some h
    refine E_apL (S' := [.arr 0 [.nils], .arr 0 [(.ref 2 1 0 (List.length s_1) (some 5))], .arr 1 (flat Func.av s_1), .arr 0 [(.int .i64 f_3.Params), (.sl false 1 (List.map (avI .u8) f_3.Locals)), (.bool f_3.Result), (.int .i64 f_3.Keep), (.sl false 3 (List.map Instr.av f_3.Code))], .arr 1 (flat (avI .u8) l_5)]) (encI .u8) rfl (src_sl f_3.Locals) rfl hl_5 rfl ?_
    refine E_op0 (v' := (.ptr 3 0 1)) rfl rfl ?_
    refine E_do (S' := [.arr 0 [.nils], .arr 0 [(.ref 2 1 0 (List.length s_1) (some 5))], .arr 1 (flat Func.av s_1), .arr 0 [(.int .i64 f_3.Params), (.ref 4 1 0 (List.length l_5) none), (.bool f_3.Result), (.int .i64 f_3.Keep), (.sl false 3 (List.map Instr.av f_3.Code))], .arr 1 (flat (avI .u8) l_5)]) rfl rfl ?_
    refine E_nil ?_
    refine E_nx ?_
    refine E_sq ?_
    refine E_reg ?_
    refine E_op (v' := (.ref 5 0 0 (List.length ([] : List Instr)) (some 3))) (S' := [.arr 0 [.nils], .arr 0 [(.ref 2 1 0 (List.length s_1) (some 5))], .arr 1 (flat Func.av s_1), .arr 0 [(.int .i64 f_3.Params), (.ref 4 1 0 (List.length l_5) none), (.bool f_3.Result), (.int .i64 f_3.Keep), (.sl false 3 (List.map Instr.av f_3.Code))], .arr 1 (flat (avI .u8) l_5), .arr 0 (flat Instr.av ([] : List Instr))]) rfl rfl rfl ?_
    refine E_op0 (v' := (.ptr 3 0 4)) rfl rfl ?_
    refine E_op (v' := (.sl false 3 (List.map Instr.av f_3.Code))) (S' := [.arr 0 [.nils], .arr 0 [(.ref 2 1 0 (List.length s_1) (some 5))], .arr 1 (flat Func.av s_1), .arr 0 [(.int .i64 f_3.Params), (.ref 4 1 0 (List.length l_5) none), (.bool f_3.Result), (.int .i64 f_3.Keep), (.sl false 3 (List.map Instr.av f_3.Code))], .arr 1 (flat (avI .u8) l_5), .arr 0 (flat Instr.av ([] : List Instr))]) rfl rfl rfl ?_
    obtain ⟨l_6, hl_6, h⟩ := bd_some h
    refine E_apL (S' := [.arr 0 [.nils], .arr 0 [(.ref 2 1 0 (List.length s_1) (some 5))], .arr 1 (flat Func.av s_1), .arr 0 [(.int .i64 f_3.Params), (.ref 4 1 0 (List.length l_5) none), (.bool f_3.Result), (.int .i64 f_3.Keep), (.sl false 3 (List.map Instr.av f_3.Code))], .arr 1 (flat (avI .u8) l_5), .arr 1 (flat Instr.av l_6)]) Instr.enc rfl (src_sl f_3.Code) rfl hl_6 rfl ?_
    refine E_op0 (v' := (.ptr 3 0 4)) rfl rfl ?_
    refine E_do (S' := [.arr 0 [.nils], .arr 0 [(.ref 2 1 0 (List.length s_1) (some 5))], .arr 1 (flat Func.av s_1), .arr 0 [(.int .i64 f_3.Params), (.ref 4 1 0 (List.length l_5) none), (.bool f_3.Result), (.int .i64 f_3.Keep), (.ref 5 1 0 (List.length l_6) (some 3))], .arr 1 (flat (avI .u8) l_5), .arr 1 (flat Instr.av l_6)]) rfl rfl ?_
    refine E_nil ?_
    refine E_nx ?_
    refine E_block ?_
    refine E_sq ?_
    refine E_reg ?_
    refine E_op0 (v' := (.ptr 1 0 0)) rfl rfl ?_
    refine E_op (v' := (.ref 2 1 0 (List.length s_1) (some 5))) (S' := [.arr 0 [.nils], .arr 0 [(.ref 2 1 0 (List.length s_1) (some 5))], .arr 1 (flat Func.av s_1), .arr 0 [(.int .i64 f_3.Params), (.ref 4 1 0 (List.length l_5) none), (.bool f_3.Result), (.int .i64 f_3.Keep), (.ref 5 1 0 (List.length l_6) (some 3))], .arr 1 (flat (avI .u8) l_5), .arr 1 (flat Instr.av l_6)]) rfl rfl rfl ?_
    refine E_op (v' := (.agg [(.int .i64 f_3.Params), (.ref 4 1 0 (List.length l_5) none), (.bool f_3.Result), (.int .i64 f_3.Keep), (.ref 5 1 0 (List.length l_6) (some 3))])) (S' := [.arr 0 [.nils], .arr 0 [(.ref 2 1 0 (List.length s_1) (some 5))], .arr 1 (flat Func.av s_1), .arr 0 [(.int .i64 f_3.Params), (.ref 4 1 0 (List.length l_5) none), (.bool f_3.Result), (.int .i64 f_3.Keep), (.ref 5 1 0 (List.length l_6) (some 3))], .arr 1 (flat (avI .u8) l_5), .arr 1 (flat Instr.av l_6)]) rfl rfl rfl ?_
    refine E_nil ?_
    refine E_nxw (F := [(2, (.ptr 0 0 0)), (3, (.ptr 1 0 0)), (7, (.sl false 5 (List.map Func.av p_00.Funcs))), (8, (.int .i64 (List.length p_00.Funcs : Int))), (9, (.int .i64 (i_2 : Int))), (24, (.ref 2 1 0 (List.length s_1) (some 5))), (25, (.agg [(.int .i64 f_3.Params), (.sl false 1 (List.map (avI .u8) l_5)), (.bool f_3.Result), (.int .i64 f_3.Keep), (.sl false 3 (List.map Instr.av l_6))]))]) (T := [.arr 0 [.nils], .arr 0 [(.ref 2 1 0 (List.length s_1) (some 5))], .arr 1 (flat Func.av s_1)]) (wk_trans (wk_trans (fr'' := [(2, (.ptr 0 0 0)), (3, (.ptr 1 0 0)), (7, (.sl false 5 (List.map Func.av p_00.Funcs))), (8, (.int .i64 (List.length p_00.Funcs : Int))), (9, (.int .i64 (i_2 : Int))), (24, (.ref 2 1 0 (List.length s_1) (some 5))), (25, (.agg [(.int .i64 f_3.Params), (.sl false 1 (List.map (avI .u8) l_5)), (.bool f_3.Result), (.int .i64 f_3.Keep), (.ref 3 1 0 (List.length l_6) (some 3))]))]) (S'' := [.arr 0 [.nils], .arr 0 [(.ref 2 1 0 (List.length s_1) (some 5))], .arr 1 (flat Func.av s_1), .arr 1 (flat Instr.av l_6)]) (wk_rn (fr' := [(2, (.ptr 0 0 0)), (3, (.ptr 1 0 0)), (7, (.sl false 5 (List.map Func.av p_00.Funcs))), (8, (.int .i64 (List.length p_00.Funcs : Int))), (9, (.int .i64 (i_2 : Int))), (24, (.ref 2 1 0 (List.length s_1) (some 5))), (25, (.agg [(.int .i64 f_3.Params), (.ref 4 1 0 (List.length l_5) none), (.bool f_3.Result), (.int .i64 f_3.Keep), (.ref 3 1 0 (List.length l_6) (some 3))]))]) (S' := [.arr 0 [.nils], .arr 0 [(.ref 2 1 0 (List.length s_1) (some 5))], .arr 1 (flat Func.av s_1), .arr 1 (flat Instr.av l_6), .arr 1 (flat (avI .u8) l_5)]) [some (0, 0), some (1, 0), some (2, 0), some (5, 0), some (4, 0)] rfl (Nat.le_of_ble_eq_true rfl) ⟨(rn_ob rfl rfl (.cons (rn_b rfl) (.nil (Nat.zero_le _))) rfl), (rn_ob rfl rfl (.cons (rn_refL Func.enc rfl rfl rfl) (.nil (Nat.zero_le _))) rfl), (rn_ob rfl rfl (.refl (Func.enc.blwf 0 _)) rfl), (rn_ob rfl rfl (.refl (Instr.enc.blwf 0 _)) rfl), (rn_ob rfl rfl (.refl ((encI .u8).blwf 0 _)) rfl), trivial⟩ ⟨(rn_ptr rfl rfl rfl rfl), (rn_ptr rfl rfl rfl rfl), (rn_b (Func.enc.blws 0)), (rn_b rfl), (rn_b rfl), (rn_refL Func.enc rfl rfl rfl), (rn_agg ⟨(rn_b rfl), (rn_refL (encI .u8) rfl rfl rfl), (rn_b rfl), (rn_b rfl), (rn_refL Instr.enc rfl rfl rfl), trivial⟩), trivial⟩) (wk_fz 4 6 rfl ⟨⟨rfl, ⟨(fz_b rfl (.refl _)), trivial⟩⟩, ⟨rfl, ⟨(fz_b rfl (.refl _)), trivial⟩⟩, ⟨rfl, fzL_id (Func.enc.blwf 4 _)⟩, ⟨rfl, fzL_id (Instr.enc.blwf 4 _)⟩, trivial⟩ ⟨(fz_b rfl (.refl _)), (fz_b rfl (.refl _)), (fz_b (Func.enc.blws 4) (.refl _)), (fz_b rfl (.refl _)), (fz_b rfl (.refl _)), (fz_b rfl (.refl _)), (fz_agg ⟨(fz_b rfl (.refl _)), (fz_ref (encI .u8) (Nat.le_of_ble_eq_true rfl) rfl), (fz_b rfl (.refl _)), (fz_b rfl (.refl _)), (fz_b rfl (.refl _)), trivial⟩), trivial⟩)) (wk_trans (fr'' := [(2, (.ptr 0 0 0)), (3, (.ptr 1 0 0)), (7, (.sl false 5 (List.map Func.av p_00.Funcs))), (8, (.int .i64 (List.length p_00.Funcs : Int))), (9, (.int .i64 (i_2 : Int))), (24, (.ref 2 1 0 (List.length s_1) (some 5))), (25, (.agg [(.int .i64 f_3.Params), (.sl false 1 (List.map (avI .u8) l_5)), (.bool f_3.Result), (.int .i64 f_3.Keep), (.sl false 3 (List.map Instr.av l_6))]))]) (S'' := [.arr 0 [.nils], .arr 0 [(.ref 2 1 0 (List.length s_1) (some 5))], .arr 1 (flat Func.av s_1)]) (wk_rn (fr' := [(2, (.ptr 0 0 0)), (3, (.ptr 1 0 0)), (7, (.sl false 5 (List.map Func.av p_00.Funcs))), (8, (.int .i64 (List.length p_00.Funcs : Int))), (9, (.int .i64 (i_2 : Int))), (24, (.ref 2 1 0 (List.length s_1) (some 5))), (25, (.agg [(.int .i64 f_3.Params), (.sl false 1 (List.map (avI .u8) l_5)), (.bool f_3.Result), (.int .i64 f_3.Keep), (.ref 3 1 0 (List.length l_6) (some 3))]))]) (S' := [.arr 0 [.nils], .arr 0 [(.ref 2 1 0 (List.length s_1) (some 5))], .arr 1 (flat Func.av s_1), .arr 1 (flat Instr.av l_6)]) [some (0, 0), some (1, 0), some (2, 0), some (3, 0)] rfl (Nat.le_of_ble_eq_true rfl) ⟨(rn_ob rfl rfl (.cons (rn_b rfl) (.nil (Nat.zero_le _))) rfl), (rn_ob rfl rfl (.cons (rn_refL Func.enc rfl rfl rfl) (.nil (Nat.zero_le _))) rfl), (rn_ob rfl rfl (.refl (Func.enc.blwf 0 _)) rfl), (rn_ob rfl rfl (.refl (Instr.enc.blwf 0 _)) rfl), trivial⟩ ⟨(rn_ptr rfl rfl rfl rfl), (rn_ptr rfl rfl rfl rfl), (rn_b (Func.enc.blws 0)), (rn_b rfl), (rn_b rfl), (rn_refL Func.enc rfl rfl rfl), (rn_agg ⟨(rn_b rfl), (rn_b ((encI .u8).blws 0)), (rn_b rfl), (rn_b rfl), (rn_refL Instr.enc rfl rfl rfl), trivial⟩), trivial⟩) (wk_fz 3 6 rfl ⟨⟨rfl, ⟨(fz_b rfl (.refl _)), trivial⟩⟩, ⟨rfl, ⟨(fz_b rfl (.refl _)), trivial⟩⟩, ⟨rfl, fzL_id (Func.enc.blwf 3 _)⟩, trivial⟩ ⟨(fz_b rfl (.refl _)), (fz_b rfl (.refl _)), (fz_b (Func.enc.blws 3) (.refl _)), (fz_b rfl (.refl _)), (fz_b rfl (.refl _)), (fz_b rfl (.refl _)), (fz_agg ⟨(fz_b rfl (.refl _)), (fz_b ((encI .u8).blws 3) (.refl _)), (fz_b rfl (.refl _)), (fz_b rfl (.refl _)), (fz_ref Instr.enc (Nat.le_of_ble_eq_true rfl) rfl), trivial⟩), trivial⟩))) ?_
    refine E_reg ?_
    refine E_opw (v' := (.sl true 5 (List.map Func.av [(Func.mk f_3.Params l_5 f_3.Result f_3.Keep l_6)]))) rfl (.refl _) rfl ?_
    obtain ⟨l_7, hl_7, h⟩ := bd_some h
    refine E_apL (S' := [.arr 0 [.nils], .arr 0 [(.ref 2 1 0 (List.length s_1) (some 5))], .arr 2 (flat Func.av l_7)]) Func.enc rfl (src_sl [(Func.mk f_3.Params l_5 f_3.Result f_3.Keep l_6)]) rfl hl_7 rfl ?_
    refine E_op0 (v' := (.ptr 1 0 0)) rfl rfl ?_
    refine E_do (S' := [.arr 0 [.nils], .arr 0 [(.ref 2 2 0 (List.length l_7) (some 5))], .arr 2 (flat Func.av l_7)]) rfl rfl ?_
    refine E_nil ?_
    refine E_bln ?_
    cases h
    exact L_nn rfl (wk_rn [some (0, 0), some (1, 0), some (2, 0)] rfl (Nat.le_of_ble_eq_true rfl) ⟨(rn_ob rfl rfl (.cons (rn_b rfl) (.nil (Nat.zero_le _))) rfl), (rn_ob rfl rfl (.cons (rn_refL Func.enc rfl rfl rfl) (.nil (Nat.zero_le _))) rfl), (rn_ob rfl rfl (.refl (Func.enc.blwf 0 _)) rfl), trivial⟩ ⟨(rn_b rfl), (rn_b rfl), (rn_ptr rfl rfl rfl rfl), (rn_ptr rfl rfl rfl rfl), (rn_b (Func.enc.blws 0)), trivial⟩)
  · refine X_nx hw ?_
    refine E_sq ?_
    refine E_reg ?_
    refine E_op (v' := (.agg [(.ref 2 1 0 (List.length s_1) (some 5))])) (S' := [.arr 0 [.nils], .arr 0 [(.ref 2 1 0 (List.length s_1) (some 5))], .arr 1 (flat Func.av s_1)]) rfl rfl rfl ?_
    refine E_do (S' := [.arr 0 [(.ref 2 1 0 (List.length s_1) (some 5))], .arr 0 [(.ref 2 1 0 (List.length s_1) (some 5))], .arr 1 (flat Func.av s_1)]) rfl rfl ?_
    refine E_nil ?_
    refine E_nx ?_
    refine E_ret ?_
    cases h
    exact ⟨trivial, _, rfl, (fz_agg ⟨(fz_ref Func.enc (Nat.zero_le _) rfl), trivial⟩)⟩
end Go.Proofs.Ytiocagilhbomgaa
