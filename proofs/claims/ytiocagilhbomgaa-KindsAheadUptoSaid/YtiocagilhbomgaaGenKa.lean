/- What the functions compute, and that they do (printed by wip/gen/gen.py), part 1. -/
import Derived.Test.YtiocagilhbomgaaWlH2
import Derived.Test.YtiocagilhbomgaaRows
namespace Go.Proofs.Ytiocagilhbomgaa
open Go Go.Ab
set_option maxRecDepth 20000
set_option maxHeartbeats 2000000
set_option linter.unusedVariables false
set_option linter.unusedSimpArgs false
theorem mixed : Try.prog.follows .mixedOrders = true := Try.checked.mixed
structure Instr where
  Op : Int
  Arg : Int
  Imm : Int
def Instr.cells (x : Instr) : List AV := [(.int .u8 x.Op), (.int .i64 x.Arg), (.int .u64 x.Imm)]
def Instr.av (x : Instr) : AV := .agg (Instr.cells x)
theorem Instr.enc : Enc Instr.av (some 3) := ⟨fun _ => rfl, fun _ => rfl, fun _ => rfl, fun x n => blwL_of ⟨((encI .u8).blw x.Op n), ((encI .i64).blw x.Arg n), ((encI .u64).blw x.Imm n), trivial⟩⟩
structure Func where
  Params : Int
  Locals : (List Int)
  Result : Bool
  Keep : Int
  Code : (List Instr)
def Func.cells (x : Func) : List AV := [(.int .i64 x.Params), (.sl false 1 (List.map (avI .u8) x.Locals)), (.bool x.Result), (.int .i64 x.Keep), (.sl false 3 (List.map Instr.av x.Code))]
def Func.av (x : Func) : AV := .agg (Func.cells x)
theorem Func.enc : Enc Func.av (some 5) := ⟨fun _ => rfl, fun _ => rfl, fun _ => rfl, fun x n => blwL_of ⟨((encI .i64).blw x.Params n), ((encL (encI .u8) 1).blw x.Locals n), (encB.blw x.Result n), ((encI .i64).blw x.Keep n), ((encL Instr.enc 3).blw x.Code n), trivial⟩⟩
structure Program where
  Funcs : (List Func)
def Program.cells (x : Program) : List AV := [(.sl false 5 (List.map Func.av x.Funcs))]
def Program.av (x : Program) : AV := .agg (Program.cells x)
theorem Program.enc : Enc Program.av (some 1) := ⟨fun _ => rfl, fun _ => rfl, fun _ => rfl, fun x n => blwL_of ⟨((encL Func.enc 5).blw x.Funcs n), trivial⟩⟩
structure Types where
  Reached : (List (List Bool))
  Stacks : (List (List (List Int)))
def Types.cells (x : Types) : List AV := [(.sl false 1 (List.map (avL 1 avB) x.Reached)), (.sl false 1 (List.map (avL 1 (avL 1 (avI .u8))) x.Stacks))]
def Types.av (x : Types) : AV := .agg (Types.cells x)
theorem Types.enc : Enc Types.av (some 2) := ⟨fun _ => rfl, fun _ => rfl, fun _ => rfl, fun x n => blwL_of ⟨((encL (encL encB 1) 1).blw x.Reached n), ((encL (encL (encL (encI .u8) 1) 1) 1).blw x.Stacks n), trivial⟩⟩
/- windlass/code.put -/
def fc35 : FC := (.seq (.reg [⟨(some 6), none, .op (.mv (.v .nils))⟩] [])
  (.seq (.seq (.reg [⟨(some 8), none, .op (.mv (.t 2))⟩,
  ⟨(some 9), none, .op (.mv (.v (.int .i64 0)))⟩] [])
  (.block 0 (.loop (.seq (.reg [⟨(some 10), none, .op (.bin .none .lss (.t 9) (.t 8))⟩] [])
  (.seq (.cond (.t 10)
  .skip
  (.exit 0))
  (.seq (.block 1 (.seq (.reg [⟨(some 11), none, .op (.mv (.t 9))⟩,
  ⟨(some 7), none, .op (.mv (.t 11))⟩] [])
  (.reg [⟨(some 12), none, .op (.mv (.t 0))⟩,
  ⟨(some 13), none, .op (.mv (.t 1))⟩,
  ⟨(some 14), none, .op (.mv (.t 7))⟩,
  ⟨(some 15), none, .op (.bin .none .mul (.v (.int .i64 8)) (.t 14))⟩,
  ⟨(some 16), none, .op (.cint .u64 (.t 15))⟩,
  ⟨(some 17), none, .op (.bin .none .shr (.t 13) (.t 16))⟩,
  ⟨(some 18), none, .op (.cint .u8 (.t 17))⟩,
  ⟨(some 19), none, .op (.bsl none [(.int .u8 0)] 1 [(0, 1, (.t 18))])⟩,
  ⟨(some 20), none, .op (.app none 1 (.t 12) (.t 19))⟩,
  ⟨(some 0), none, .op (.mv (.t 20))⟩] [])))
  (.reg [⟨(some 21), none, .op (.bin .none .add (.t 9) (.v (.int .i64 1)))⟩,
  ⟨(some 9), none, .op (.mv (.t 21))⟩] [])))))))
  (.seq (.reg [⟨(some 22), none, .op (.mv (.t 0))⟩,
  ⟨(some 6), none, .op (.mv (.t 22))⟩] [])
  .ret)))
theorem fn35 : Fn3 Try.prog 35 23 [(6, none)] fc35 := ⟨_, _, Try.func35, rfl, rfl, rfl, by kernel_rfl⟩
def code_put_r_o_s (b_00 : (List Int)) (v_01 : Int) (n_02 : Int) : Option (List Int) :=
  ((rni (fun (i_2 : Nat) (s_1 : (Int × (List Int))) => ((gd (0 ≤ (U64 (I64 (8 * (i_2 : Int))))) ((appL 1 s_1.2 [(U8 (shR .u64 s_1.1 (U64 (I64 (8 * (i_2 : Int))))))]).bind fun l_4 => (some (.nxt (s_1.1, l_4))))) : Option (Stp (Int × (List Int)) (Option (List Int))))) n_02 (v_01, b_00)).bind (oc (fun (s_1 : (Int × (List Int))) => (some s_1.2))))
theorem code_put_r_o_ev {b_00 : (List Int)} {v_01 : Int} {n_02 : Int} {r : (List Int)} (h : code_put_r_o_s b_00 v_01 n_02 = some r) : Ev Try.prog 35 [(.ref 0 0 0 (List.length b_00) none), (.int .u64 v_01), (.int .i64 n_02)] (hp [.arr 0 (flat (avI .u8) b_00)]) (.ref 0 1 0 (List.length r) none) (hp [.arr 1 (flat (avI .u8) r)]) := by
  unfold code_put_r_o_s at h
  refine Ev_end mixed fn35 (by simp) [] ?_
  unfold fc35
  refine E_sq ?_
  refine E_reg ?_
  refine E_mv (v' := .nils) rfl ?_
  refine E_nil ?_
  refine E_nx ?_
  refine E_as ?_
  refine E_sq ?_
  refine E_reg ?_
  refine E_mv (v' := (.int .i64 n_02)) rfl ?_
  refine E_mv (v' := (.int .i64 0)) rfl ?_
  refine E_nil ?_
  refine E_nx ?_
  refine E_sq ?_
  refine E_rniO (fun s_1 => [(0, (.ref 0 1 0 (List.length s_1.2) none)), (1, (.int .u64 s_1.1))]) (fun s_1 => [.arr 1 (flat (avI .u8) s_1.2)]) h (by decide) (by decide) (fun _ => ⟨rfl, rfl, rfl, rfl⟩) (wk_rn [some (0, 0)] rfl (Nat.le_of_ble_eq_true rfl) ⟨(rn_obV rfl rfl (.refl ((encI .u8).blwf 0 _)) rfl rfl), trivial⟩ ⟨(rn_b rfl), (rn_b rfl), (rn_refL (encI .u8) rfl rfl rfl), (rn_b rfl), trivial⟩) (fun i_2 s_1 c hlt h => ?_) (fun s_1 fr' S' h hw => ?_)
  · refine E_sq ?_
    refine E_reg ?_
    refine E_mv (v' := (.int .i64 (i_2 : Int))) rfl ?_
    refine E_mv (v' := (.int .i64 (i_2 : Int))) rfl ?_
    refine E_nil ?_
    refine E_nx ?_
    refine E_reg ?_
    refine E_mv (v' := (.ref 0 1 0 (List.length s_1.2) none)) rfl ?_
    refine E_mv (v' := (.int .u64 s_1.1)) rfl ?_
    refine E_mv (v' := (.int .i64 (i_2 : Int))) rfl ?_
    refine E_op0 (v' := (.int .i64 (I64 (8 * (i_2 : Int))))) rfl rfl ?_
    refine E_op0 (v' := (.int .u64 (U64 (I64 (8 * (i_2 : Int)))))) rfl rfl ?_
    obtain ⟨hg_3, h⟩ := gd_some h
    refine E_shr rfl rfl hg_3 ?_
    refine E_op0 (v' := (.int .u8 (U8 (shR .u64 s_1.1 (U64 (I64 (8 * (i_2 : Int)))))))) rfl rfl ?_
    refine E_opw (v' := (.sl true 1 (List.map (avI .u8) [(U8 (shR .u64 s_1.1 (U64 (I64 (8 * (i_2 : Int))))))]))) rfl (.refl _) rfl ?_
    obtain ⟨l_4, hl_4, h⟩ := bd_some h
    refine E_apL (S' := [.arr 2 (flat (avI .u8) l_4)]) (encI .u8) rfl (src_sl [(U8 (shR .u64 s_1.1 (U64 (I64 (8 * (i_2 : Int))))))]) rfl hl_4 rfl ?_
    refine E_mv (v' := (.ref 0 2 0 (List.length l_4) none)) rfl ?_
    refine E_nil ?_
    cases h
    exact L_nn rfl (wk_rn [some (0, 0)] rfl (Nat.le_of_ble_eq_true rfl) ⟨(rn_obV rfl rfl (.refl ((encI .u8).blwf 0 _)) rfl rfl), trivial⟩ ⟨(rn_b rfl), (rn_b rfl), (rn_refL (encI .u8) rfl rfl rfl), (rn_b rfl), trivial⟩)
  · refine X_nx hw ?_
    refine E_sq ?_
    refine E_reg ?_
    refine E_mv (v' := (.ref 0 1 0 (List.length s_1.2) none)) rfl ?_
    refine E_mv (v' := (.ref 0 1 0 (List.length s_1.2) none)) rfl ?_
    refine E_nil ?_
    refine E_nx ?_
    refine E_ret ?_
    cases h
    exact ⟨trivial, _, _, rfl, gwk_rn [some (0, 0)] rfl (Nat.le_of_ble_eq_true rfl) ⟨(rn_obV rfl rfl (.refl ((encI .u8).blwf 0 _)) rfl rfl), trivial⟩, (rn_refL (encI .u8) rfl rfl rfl)⟩
/- windlass/code.width -/
def fc37 : FC := (.seq (.reg [⟨(some 2), none, .op (.mv (.v (.int .i64 0)))⟩] [])
  (.seq (.seq (.reg [⟨(some 3), none, .op (.mv (.t 0))⟩] [])
  (.block 0 (.seq (.reg [⟨(some 5), none, .op (.bin .none .eql (.t 3) (.v (.int .u8 1)))⟩,
  ⟨(some 4), none, .op (.mv (.t 5))⟩] [])
  (.cond (.t 4)
  (.seq (.reg [⟨(some 2), none, .op (.mv (.v (.int .i64 8)))⟩] [])
  .ret)
  (.seq (.seq (.reg [⟨(some 7), none, .op (.bin .none .eql (.t 3) (.v (.int .u8 2)))⟩,
  ⟨(some 6), none, .op (.mv (.t 7))⟩] [])
  (.cond (.t 6)
  .skip
  (.seq (.reg [⟨(some 8), none, .op (.bin .none .eql (.t 3) (.v (.int .u8 3)))⟩,
  ⟨(some 6), none, .op (.mv (.t 8))⟩] [])
  (.cond (.t 6)
  .skip
  (.seq (.reg [⟨(some 9), none, .op (.bin .none .eql (.t 3) (.v (.int .u8 4)))⟩,
  ⟨(some 6), none, .op (.mv (.t 9))⟩] [])
  (.cond (.t 6)
  .skip
  (.seq (.reg [⟨(some 10), none, .op (.bin .none .eql (.t 3) (.v (.int .u8 23)))⟩,
  ⟨(some 6), none, .op (.mv (.t 10))⟩] [])
  (.cond (.t 6)
  .skip
  (.reg [⟨(some 11), none, .op (.bin .none .eql (.t 3) (.v (.int .u8 25)))⟩,
  ⟨(some 6), none, .op (.mv (.t 11))⟩] [])))))))))
  (.cond (.t 6)
  (.seq (.reg [⟨(some 2), none, .op (.mv (.v (.int .i64 1)))⟩] [])
  .ret)
  (.seq (.seq (.reg [⟨(some 13), none, .op (.bin .none .eql (.t 3) (.v (.int .u8 21)))⟩,
  ⟨(some 12), none, .op (.mv (.t 13))⟩] [])
  (.cond (.t 12)
  .skip
  (.reg [⟨(some 14), none, .op (.bin .none .eql (.t 3) (.v (.int .u8 22)))⟩,
  ⟨(some 12), none, .op (.mv (.t 14))⟩] [])))
  (.cond (.t 12)
  (.seq (.reg [⟨(some 2), none, .op (.mv (.v (.int .i64 2)))⟩] [])
  .ret)
  .skip))))))))
  (.seq (.seq (.reg [⟨(some 15), none, .op (.mv (.t 0))⟩,
  ⟨(some 16), none, .op (.bin .none .lss (.t 15) (.v (.int .u8 1)))⟩,
  ⟨(some 17), none, .op (.mv (.t 16))⟩,
  ⟨(some 18), some (17, false), .op (.mv (.t 0))⟩,
  ⟨(some 19), some (17, false), .op (.bin .none .gtr (.t 18) (.v (.int .u8 32)))⟩,
  ⟨(some 20), none, .op (.pick (.t 17) (.v (.bool true)) (.t 19))⟩] [])
  (.cond (.t 20)
  (.seq (.reg [⟨(some 2), none, .op (.mv (.v (.int .i64 (-1))))⟩] [])
  .ret)
  .skip))
  (.seq (.reg [⟨(some 2), none, .op (.mv (.v (.int .i64 0)))⟩] [])
  .ret))))
theorem fn37 : Fn3 Try.prog 37 21 [(2, none)] fc37 := ⟨_, _, Try.func37, rfl, rfl, rfl, by kernel_rfl⟩
def code_width_s (op_00 : Int) : Option Int :=
  (if (op_00 == 1) then (some 8) else (jp (fun (s_2 : Bool) => (if s_2 then (some 1) else (jp (fun (s_4 : Bool) => (if s_4 then (some 2) else (jp (fun (s_6 : Bool) => (if s_6 then (some (-1)) else (some 0))) (fun k_5 => (if (decide (op_00 < 1)) then (k_5 true) else (k_5 (decide (op_00 > 32)))))))) (fun k_3 => (if (op_00 == 21) then (k_3 (op_00 == 21)) else (k_3 (op_00 == 22))))))) (fun k_1 => (if (op_00 == 2) then (k_1 (op_00 == 2)) else (if (op_00 == 3) then (k_1 (op_00 == 3)) else (if (op_00 == 4) then (k_1 (op_00 == 4)) else (if (op_00 == 23) then (k_1 (op_00 == 23)) else (k_1 (op_00 == 25)))))))))
theorem code_width_ev {op_00 : Int} {r : Int} (h : code_width_s op_00 = some r) : PureEv Try.prog 37 [(.int .u8 op_00)] (.int .i64 r) := by
  unfold code_width_s at h
  refine PureEv_end mixed fn37 (by simp) [] 6 ?_
  unfold fc37
  refine E_sq ?_
  refine E_reg ?_
  refine E_mv (v' := (.int .i64 0)) rfl ?_
  refine E_nil ?_
  refine E_nx ?_
  refine E_as ?_
  refine E_sq ?_
  refine E_reg ?_
  refine E_mv (v' := (.int .u8 op_00)) rfl ?_
  refine E_nil ?_
  refine E_nx ?_
  refine E_sq ?_
  refine E_block ?_
  refine E_sq ?_
  refine E_reg ?_
  refine E_op0 (v' := (.bool (op_00 == 1))) rfl rfl ?_
  refine E_mv (v' := (.bool (op_00 == 1))) rfl ?_
  refine E_nil ?_
  refine E_nx ?_
  refine E_cs (t := (op_00 == 1)) rfl (fun hb => ?_) (fun hb => ?_)
  · rw [ite_t hb] at h
    refine E_sq ?_
    refine E_reg ?_
    refine E_mv (v' := (.int .i64 8)) rfl ?_
    refine E_nil ?_
    refine E_nx ?_
    refine E_ret ?_
    refine E_blr ?_
    refine E_thr ?_
    cases h
    exact ⟨trivial, _, rfl, (fz_b rfl (.refl _))⟩
  · rw [ite_f hb] at h
    refine E_as ?_
    refine E_sq ?_
    refine E_reg ?_
    refine E_op0 (v' := (.bool (op_00 == 2))) rfl rfl ?_
    refine E_mv (v' := (.bool (op_00 == 2))) rfl ?_
    refine E_nil ?_
    refine E_nx ?_
    refine E_jp h (fun s_2 => [(0, (.int .u8 op_00)), (3, (.int .u8 op_00)), (6, (.bool s_2))]) (fun s_2 => []) (fun k_1 h => ?_) (fun s_2 h => ?_)
    · refine E_cs (t := (op_00 == 2)) rfl (fun hb => ?_) (fun hb => ?_)
      · rw [ite_t hb] at h
        refine E_skip ?_
        exact E_jx _ h (wk_aw ⟨(.refl _), (.refl _), (.refl _), trivial⟩)
      · rw [ite_f hb] at h
        refine E_sq ?_
        refine E_reg ?_
        refine E_op0 (v' := (.bool (op_00 == 3))) rfl rfl ?_
        refine E_mv (v' := (.bool (op_00 == 3))) rfl ?_
        refine E_nil ?_
        refine E_nx ?_
        refine E_cs (t := (op_00 == 3)) rfl (fun hb => ?_) (fun hb => ?_)
        · rw [ite_t hb] at h
          refine E_skip ?_
          exact E_jx _ h (wk_aw ⟨(.refl _), (.refl _), (.refl _), trivial⟩)
        · rw [ite_f hb] at h
          refine E_sq ?_
          refine E_reg ?_
          refine E_op0 (v' := (.bool (op_00 == 4))) rfl rfl ?_
          refine E_mv (v' := (.bool (op_00 == 4))) rfl ?_
          refine E_nil ?_
          refine E_nx ?_
          refine E_cs (t := (op_00 == 4)) rfl (fun hb => ?_) (fun hb => ?_)
          · rw [ite_t hb] at h
            refine E_skip ?_
            exact E_jx _ h (wk_aw ⟨(.refl _), (.refl _), (.refl _), trivial⟩)
          · rw [ite_f hb] at h
            refine E_sq ?_
            refine E_reg ?_
            refine E_op0 (v' := (.bool (op_00 == 23))) rfl rfl ?_
            refine E_mv (v' := (.bool (op_00 == 23))) rfl ?_
            refine E_nil ?_
            refine E_nx ?_
            refine E_cs (t := (op_00 == 23)) rfl (fun hb => ?_) (fun hb => ?_)
            · rw [ite_t hb] at h
              refine E_skip ?_
              exact E_jx _ h (wk_aw ⟨(.refl _), (.refl _), (.refl _), trivial⟩)
            · rw [ite_f hb] at h
              refine E_reg ?_
              refine E_op0 (v' := (.bool (op_00 == 25))) rfl rfl ?_
              refine E_mv (v' := (.bool (op_00 == 25))) rfl ?_
              refine E_nil ?_
              exact E_jx _ h (wk_aw ⟨(.refl _), (.refl _), (.refl _), trivial⟩)
    · refine E_cs (t := s_2) rfl (fun hb => ?_) (fun hb => ?_)
      · rw [ite_t hb] at h
        refine E_sq ?_
        refine E_reg ?_
        refine E_mv (v' := (.int .i64 1)) rfl ?_
        refine E_nil ?_
        refine E_nx ?_
        refine E_ret ?_
        refine E_blr ?_
        refine E_thr ?_
        cases h
        exact ⟨trivial, _, rfl, (fz_b rfl (.refl _))⟩
      · rw [ite_f hb] at h
        refine E_as ?_
        refine E_sq ?_
        refine E_reg ?_
        refine E_op0 (v' := (.bool (op_00 == 21))) rfl rfl ?_
        refine E_mv (v' := (.bool (op_00 == 21))) rfl ?_
        refine E_nil ?_
        refine E_nx ?_
        refine E_jp h (fun s_4 => [(0, (.int .u8 op_00)), (12, (.bool s_4))]) (fun s_4 => []) (fun k_3 h => ?_) (fun s_4 h => ?_)
        · refine E_cs (t := (op_00 == 21)) rfl (fun hb => ?_) (fun hb => ?_)
          · rw [ite_t hb] at h
            refine E_skip ?_
            exact E_jx _ h (wk_aw ⟨(.refl _), (.refl _), trivial⟩)
          · rw [ite_f hb] at h
            refine E_reg ?_
            refine E_op0 (v' := (.bool (op_00 == 22))) rfl rfl ?_
            refine E_mv (v' := (.bool (op_00 == 22))) rfl ?_
            refine E_nil ?_
            exact E_jx _ h (wk_aw ⟨(.refl _), (.refl _), trivial⟩)
        · refine E_cs (t := s_4) rfl (fun hb => ?_) (fun hb => ?_)
          · rw [ite_t hb] at h
            refine E_sq ?_
            refine E_reg ?_
            refine E_mv (v' := (.int .i64 2)) rfl ?_
            refine E_nil ?_
            refine E_nx ?_
            refine E_ret ?_
            refine E_blr ?_
            refine E_thr ?_
            cases h
            exact ⟨trivial, _, rfl, (fz_b rfl (.refl _))⟩
          · rw [ite_f hb] at h
            refine E_skip ?_
            refine E_bln ?_
            refine E_nx ?_
            refine E_as ?_
            refine E_jp h (fun s_6 => [(20, (.bool s_6))]) (fun s_6 => []) (fun k_5 h => ?_) (fun s_6 h => ?_)
            · refine E_reg ?_
              refine E_mv (v' := (.int .u8 op_00)) rfl ?_
              refine E_op0 (v' := (.bool (decide (op_00 < 1)))) rfl rfl ?_
              refine E_mv (v' := (.bool (decide (op_00 < 1)))) rfl ?_
              refine E_gsT (b := (decide (op_00 < 1))) rfl rfl rfl (fun hb => ?_) (fun hb => ?_)
              · rw [ite_f hb] at h
                refine E_mv (v' := (.int .u8 op_00)) rfl ?_
                refine E_gh rfl ?_
                refine E_op0 (v' := (.bool (decide (op_00 > 32)))) rfl rfl ?_
                refine E_pf rfl rfl ?_
                refine E_nil ?_
                exact E_jx _ h (wk_aw ⟨(.refl _), trivial⟩)
              · rw [ite_t hb] at h
                refine E_gm rfl ?_
                refine E_pt rfl rfl ?_
                refine E_nil ?_
                exact E_jx _ h (wk_aw ⟨(.refl _), trivial⟩)
            · refine E_sq ?_
              refine E_cs (t := s_6) rfl (fun hb => ?_) (fun hb => ?_)
              · rw [ite_t hb] at h
                refine E_sq ?_
                refine E_reg ?_
                refine E_mv (v' := (.int .i64 (-1))) rfl ?_
                refine E_nil ?_
                refine E_nx ?_
                refine E_ret ?_
                refine E_thr ?_
                cases h
                exact ⟨trivial, _, rfl, (fz_b rfl (.refl _))⟩
              · rw [ite_f hb] at h
                refine E_skip ?_
                refine E_nx ?_
                refine E_sq ?_
                refine E_reg ?_
                refine E_mv (v' := (.int .i64 0)) rfl ?_
                refine E_nil ?_
                refine E_nx ?_
                refine E_ret ?_
                cases h
                exact ⟨trivial, _, rfl, (fz_b rfl (.refl _))⟩
def code_put_r_s (b_00 : (List Int)) (v_01 : Int) (n_02 : Int) : Option (List Int) :=
  ((rni (fun (i_2 : Nat) (s_1 : (Int × (List Int))) => ((gd (0 ≤ (U64 (I64 (8 * (i_2 : Int))))) ((appL 1 s_1.2 [(U8 (shR .u64 s_1.1 (U64 (I64 (8 * (i_2 : Int))))))]).bind fun l_4 => (some (.nxt (s_1.1, l_4))))) : Option (Stp (Int × (List Int)) (Option (List Int))))) n_02 (v_01, b_00)).bind (oc (fun (s_1 : (Int × (List Int))) => (some s_1.2))))
theorem code_put_r_ev {b_00 : (List Int)} {v_01 : Int} {n_02 : Int} {r : (List Int)} (h : code_put_r_s b_00 v_01 n_02 = some r) : Ev Try.prog 35 [(.ref 0 0 0 (List.length b_00) none), (.int .u64 v_01), (.int .i64 n_02)] (hp [.arr 0 (flat (avI .u8) b_00)]) (.ref 0 1 0 (List.length r) none) (hp [.arr 1 (flat (avI .u8) r)]) := by
  unfold code_put_r_s at h
  refine Ev_end mixed fn35 (by simp) [] ?_
  unfold fc35
  refine E_sq ?_
  refine E_reg ?_
  refine E_mv (v' := .nils) rfl ?_
  refine E_nil ?_
  refine E_nx ?_
  refine E_as ?_
  refine E_sq ?_
  refine E_reg ?_
  refine E_mv (v' := (.int .i64 n_02)) rfl ?_
  refine E_mv (v' := (.int .i64 0)) rfl ?_
  refine E_nil ?_
  refine E_nx ?_
  refine E_sq ?_
  refine E_rniO (fun s_1 => [(0, (.ref 0 1 0 (List.length s_1.2) none)), (1, (.int .u64 s_1.1))]) (fun s_1 => [.arr 1 (flat (avI .u8) s_1.2)]) h (by decide) (by decide) (fun _ => ⟨rfl, rfl, rfl, rfl⟩) (wk_rn [some (0, 0)] rfl (Nat.le_of_ble_eq_true rfl) ⟨(rn_obV rfl rfl (.refl ((encI .u8).blwf 0 _)) rfl rfl), trivial⟩ ⟨(rn_b rfl), (rn_b rfl), (rn_refL (encI .u8) rfl rfl rfl), (rn_b rfl), trivial⟩) (fun i_2 s_1 c hlt h => ?_) (fun s_1 fr' S' h hw => ?_)
  · refine E_sq ?_
    refine E_reg ?_
    refine E_mv (v' := (.int .i64 (i_2 : Int))) rfl ?_
    refine E_mv (v' := (.int .i64 (i_2 : Int))) rfl ?_
    refine E_nil ?_
    refine E_nx ?_
    refine E_reg ?_
    refine E_mv (v' := (.ref 0 1 0 (List.length s_1.2) none)) rfl ?_
    refine E_mv (v' := (.int .u64 s_1.1)) rfl ?_
    refine E_mv (v' := (.int .i64 (i_2 : Int))) rfl ?_
    refine E_op0 (v' := (.int .i64 (I64 (8 * (i_2 : Int))))) rfl rfl ?_
    refine E_op0 (v' := (.int .u64 (U64 (I64 (8 * (i_2 : Int)))))) rfl rfl ?_
    obtain ⟨hg_3, h⟩ := gd_some h
    refine E_shr rfl rfl hg_3 ?_
    refine E_op0 (v' := (.int .u8 (U8 (shR .u64 s_1.1 (U64 (I64 (8 * (i_2 : Int)))))))) rfl rfl ?_
    refine E_opw (v' := (.sl true 1 (List.map (avI .u8) [(U8 (shR .u64 s_1.1 (U64 (I64 (8 * (i_2 : Int))))))]))) rfl (.refl _) rfl ?_
    obtain ⟨l_4, hl_4, h⟩ := bd_some h
    refine E_apL (S' := [.arr 2 (flat (avI .u8) l_4)]) (encI .u8) rfl (src_sl [(U8 (shR .u64 s_1.1 (U64 (I64 (8 * (i_2 : Int))))))]) rfl hl_4 rfl ?_
    refine E_mv (v' := (.ref 0 2 0 (List.length l_4) none)) rfl ?_
    refine E_nil ?_
    cases h
    exact L_nn rfl (wk_rn [some (0, 0)] rfl (Nat.le_of_ble_eq_true rfl) ⟨(rn_obV rfl rfl (.refl ((encI .u8).blwf 0 _)) rfl rfl), trivial⟩ ⟨(rn_b rfl), (rn_b rfl), (rn_refL (encI .u8) rfl rfl rfl), (rn_b rfl), trivial⟩)
  · refine X_nx hw ?_
    refine E_sq ?_
    refine E_reg ?_
    refine E_mv (v' := (.ref 0 1 0 (List.length s_1.2) none)) rfl ?_
    refine E_mv (v' := (.ref 0 1 0 (List.length s_1.2) none)) rfl ?_
    refine E_nil ?_
    refine E_nx ?_
    refine E_ret ?_
    cases h
    exact ⟨trivial, _, _, rfl, gwk_rn [some (0, 0)] rfl (Nat.le_of_ble_eq_true rfl) ⟨(rn_obV rfl rfl (.refl ((encI .u8).blwf 0 _)) rfl rfl), trivial⟩, (rn_refL (encI .u8) rfl rfl rfl)⟩
/- windlass/code.instruction -/
def fc36 : FC := (.seq (.reg [⟨(some 3), none, .op (.box (.t 1))⟩,
  ⟨(some 4), none, .op (.mv (.v .nils))⟩,
  ⟨(some 5), none, .op (.mv (.v (.bool false)))⟩] [])
  (.seq (.reg [⟨(some 7), none, .op (.fad 0 (.t 3))⟩,
  ⟨(some 8), none, .op (.load none (.t 7))⟩,
  ⟨(some 9), none, .call 37 [(.t 8)]⟩,
  ⟨(some 6), none, .op (.mv (.t 9))⟩] [])
  (.seq (.seq (.reg [⟨(some 10), none, .op (.mv (.t 6))⟩,
  ⟨(some 11), none, .op (.bin .none .lss (.t 10) (.v (.int .i64 0)))⟩,
  ⟨(some 12), none, .op (.mv (.t 11))⟩,
  ⟨(some 13), some (12, false), .op (.mv (.t 6))⟩,
  ⟨(some 14), some (12, false), .op (.bin .none .neq (.t 13) (.v (.int .i64 8)))⟩,
  ⟨(some 15), some (12, false), .op (.mv (.t 14))⟩,
  ⟨(some 16), some (15, true), .op (.fad 2 (.t 3))⟩,
  ⟨(some 17), some (15, true), .op (.load none (.t 16))⟩,
  ⟨(some 18), some (15, true), .op (.bin .none .neq (.t 17) (.v (.int .u64 0)))⟩,
  ⟨(some 19), some (12, false), .op (.pick (.t 15) (.t 18) (.v (.bool false)))⟩,
  ⟨(some 20), none, .op (.pick (.t 12) (.v (.bool true)) (.t 19))⟩] [])
  (.cond (.t 20)
  (.seq (.reg [⟨(some 4), none, .op (.mv (.v .nils))⟩,
  ⟨(some 5), none, .op (.mv (.v (.bool false)))⟩] [])
  .ret)
  .skip))
  (.seq (.reg [⟨(some 21), none, .op (.mv (.t 0))⟩,
  ⟨(some 22), none, .op (.fad 0 (.t 3))⟩,
  ⟨(some 23), none, .op (.load none (.t 22))⟩,
  ⟨(some 24), none, .op (.bsl none [(.int .u8 0)] 1 [(0, 1, (.t 23))])⟩,
  ⟨(some 25), none, .op (.app none 1 (.t 21) (.t 24))⟩,
  ⟨(some 0), none, .op (.mv (.t 25))⟩] [])
  (.seq (.seq (.reg [⟨(some 26), none, .op (.mv (.t 6))⟩,
  ⟨(some 27), none, .op (.bin .none .eql (.t 26) (.v (.int .i64 8)))⟩] [])
  (.cond (.t 27)
  (.seq (.reg [⟨(some 28), none, .op (.mv (.t 0))⟩,
  ⟨(some 29), none, .op (.fad 2 (.t 3))⟩,
  ⟨(some 30), none, .op (.load none (.t 29))⟩,
  ⟨(some 31), none, .call 35 [(.t 28), (.t 30), (.v (.int .i64 8))]⟩,
  ⟨(some 32), none, .op (.fad 1 (.t 3))⟩,
  ⟨(some 33), none, .op (.load none (.t 32))⟩,
  ⟨(some 34), none, .op (.bin .none .eql (.t 33) (.v (.int .i64 0)))⟩,
  ⟨(some 4), none, .op (.mv (.t 31))⟩,
  ⟨(some 5), none, .op (.mv (.t 34))⟩] [(3, 5)])
  .ret)
  .skip))
  (.seq (.reg [⟨(some 35), none, .op (.mv (.t 0))⟩,
  ⟨(some 36), none, .op (.fad 1 (.t 3))⟩,
  ⟨(some 37), none, .op (.load none (.t 36))⟩,
  ⟨(some 38), none, .op (.cint .u64 (.t 37))⟩,
  ⟨(some 39), none, .op (.mv (.t 6))⟩,
  ⟨(some 40), none, .call 35 [(.t 35), (.t 38), (.t 39)]⟩,
  ⟨(some 41), none, .op (.fad 1 (.t 3))⟩,
  ⟨(some 42), none, .op (.load none (.t 41))⟩,
  ⟨(some 43), none, .op (.bin .none .geq (.t 42) (.v (.int .i64 0)))⟩,
  ⟨(some 44), none, .op (.mv (.t 43))⟩,
  ⟨(some 45), some (44, true), .op (.fad 1 (.t 3))⟩,
  ⟨(some 46), some (44, true), .op (.load none (.t 45))⟩,
  ⟨(some 47), some (44, true), .op (.mv (.t 6))⟩,
  ⟨(some 48), some (44, true), .op (.bin .none .mul (.v (.int .i64 8)) (.t 47))⟩,
  ⟨(some 49), some (44, true), .op (.cint .u64 (.t 48))⟩,
  ⟨(some 50), some (44, true), .op (.bin .none .shl (.v (.int .i64 1)) (.t 49))⟩,
  ⟨(some 51), some (44, true), .op (.bin .none .lss (.t 46) (.t 50))⟩,
  ⟨(some 52), none, .op (.pick (.t 44) (.t 51) (.v (.bool false)))⟩,
  ⟨(some 4), none, .op (.mv (.t 40))⟩,
  ⟨(some 5), none, .op (.mv (.t 52))⟩] [(5, 7)])
  .ret))))))
theorem fn36 : Fn3 Try.prog 36 53 [(4, none), (5, none)] fc36 := ⟨_, _, Try.func36, rfl, rfl, rfl, by kernel_rfl⟩
def code_instruction_r_s (b_00 : (List Int)) (i_01 : Instr) : Option (Bool × (List Int)) :=
  ((code_width_s i_01.Op).bind fun wid_1 => (jp (fun (s_3 : Bool) => (if s_3 then (some (false, [])) else ((appL 1 b_00 [i_01.Op]).bind fun l_4 => (if (wid_1 == 8) then ((code_put_r_s l_4 i_01.Imm 8).bind fun (put_5 : (List Int)) => (some ((i_01.Arg == 0), put_5))) else (jp (fun (s_7 : (Bool × (List Int))) => (some (s_7.1, s_7.2))) (fun k_6 => ((code_put_r_s l_4 (U64 i_01.Arg) wid_1).bind fun (put_8 : (List Int)) => (if (decide (i_01.Arg ≥ 0)) then (gd (0 ≤ (U64 (I64 (8 * wid_1)))) (k_6 ((decide (i_01.Arg < (shL .i64 1 (U64 (I64 (8 * wid_1)))))), put_8))) else (k_6 (false, put_8)))))))))) (fun k_2 => (if (decide (wid_1 < 0)) then (k_2 true) else (if (wid_1 != 8) then (k_2 (i_01.Imm != 0)) else (k_2 false))))))
theorem code_instruction_r_ev {b_00 : (List Int)} {i_01 : Instr} {r : (Bool × (List Int))} (h : code_instruction_r_s b_00 i_01 = some r) : Ev Try.prog 36 [(.ref 0 0 0 (List.length b_00) none), (Instr.av i_01)] (hp [.arr 0 (flat (avI .u8) b_00)]) (.tup [(.ref 1 1 0 (List.length r.2) none), (.bool r.1)]) (hp [.dead 1000000, .arr 1 (flat (avI .u8) r.2)]) := by
  unfold code_instruction_r_s at h
  refine Ev_end mixed fn36 (by simp) [] ?_
  unfold fc36
  refine E_sq ?_
  refine E_reg ?_
  refine E_op0 (v' := (.cptr (Instr.av i_01).cells 0)) rfl rfl ?_
  refine E_mv (v' := .nils) rfl ?_
  refine E_mv (v' := (.bool false)) rfl ?_
  refine E_nil ?_
  refine E_nx ?_
  refine E_sq ?_
  refine E_reg ?_
  refine E_op0 (v' := (.cptr (Instr.av i_01).cells 0)) rfl rfl ?_
  refine E_op0 (v' := (.int .u8 i_01.Op)) rfl rfl ?_
  obtain ⟨wid_1, hwid_1, h⟩ := bd_some h
  refine E_callW (code_width_ev  hwid_1) rfl ⟨(.refl _), trivial⟩ (blwL_of ⟨rfl, trivial⟩) rfl ?_
  refine E_mv (v' := (.int .i64 wid_1)) rfl ?_
  refine E_nil ?_
  refine E_nx ?_
  refine E_as ?_
  refine E_jp h (fun s_3 => [(0, (.ref 0 0 0 (List.length b_00) none)), (3, (.cptr (Instr.av i_01).cells 0)), (6, (.int .i64 wid_1)), (20, (.bool s_3))]) (fun s_3 => [.arr 0 (flat (avI .u8) b_00)]) (fun k_2 h => ?_) (fun s_3 h => ?_)
  · refine E_reg ?_
    refine E_mv (v' := (.int .i64 wid_1)) rfl ?_
    refine E_op0 (v' := (.bool (decide (wid_1 < 0)))) rfl rfl ?_
    refine E_mv (v' := (.bool (decide (wid_1 < 0)))) rfl ?_
    refine E_gsT (b := (decide (wid_1 < 0))) rfl rfl rfl (fun hb => ?_) (fun hb => ?_)
    · rw [ite_f hb] at h
      refine E_mv (v' := (.int .i64 wid_1)) rfl ?_
      refine E_gh rfl ?_
      refine E_op0 (v' := (.bool (wid_1 != 8))) rfl rfl ?_
      refine E_gh rfl ?_
      refine E_mv (v' := (.bool (wid_1 != 8))) rfl ?_
      refine E_gsT (b := (wid_1 != 8)) rfl rfl rfl (fun hb => ?_) (fun hb => ?_)
      · rw [ite_t hb] at h
        refine E_op0 (v' := (.cptr (Instr.av i_01).cells 2)) rfl rfl ?_
        refine E_gh rfl ?_
        refine E_op0 (v' := (.int .u64 i_01.Imm)) rfl rfl ?_
        refine E_gh rfl ?_
        refine E_op0 (v' := (.bool (i_01.Imm != 0))) rfl rfl ?_
        refine E_gh rfl ?_
        refine E_pt rfl rfl ?_
        refine E_pf rfl rfl ?_
        refine E_nil ?_
        exact E_jx _ h (wk_rn [some (0, 0)] rfl (Nat.le_of_ble_eq_true rfl) ⟨(rn_obS rfl rfl (.refl ((encI .u8).blwf 0 _)) rfl), trivial⟩ ⟨(rn_refL (encI .u8) rfl rfl rfl), (rn_b (cp_blw (Instr.enc.blw _ 0))), (rn_b rfl), (rn_b rfl), trivial⟩)
      · rw [ite_f hb] at h
        refine E_gm rfl ?_
        refine E_gm rfl ?_
        refine E_gh rfl ?_
        refine E_pf rfl rfl ?_
        refine E_pf rfl rfl ?_
        refine E_nil ?_
        exact E_jx _ h (wk_rn [some (0, 0)] rfl (Nat.le_of_ble_eq_true rfl) ⟨(rn_obS rfl rfl (.refl ((encI .u8).blwf 0 _)) rfl), trivial⟩ ⟨(rn_refL (encI .u8) rfl rfl rfl), (rn_b (cp_blw (Instr.enc.blw _ 0))), (rn_b rfl), (rn_b rfl), trivial⟩)
    · rw [ite_t hb] at h
      refine E_gm rfl ?_
      refine E_gm rfl ?_
      refine E_gz rfl ?_
      refine E_gz rfl ?_
      refine E_gz rfl ?_
      refine E_gm rfl ?_
      refine E_pt rfl rfl ?_
      refine E_nil ?_
      exact E_jx _ h (wk_rn [some (0, 0)] rfl (Nat.le_of_ble_eq_true rfl) ⟨(rn_obS rfl rfl (.refl ((encI .u8).blwf 0 _)) rfl), trivial⟩ ⟨(rn_refL (encI .u8) rfl rfl rfl), (rn_b (cp_blw (Instr.enc.blw _ 0))), (rn_b rfl), (rn_b rfl), trivial⟩)
  · refine E_sq ?_
    refine E_cs (t := s_3) rfl (fun hb => ?_) (fun hb => ?_)
    · rw [ite_t hb] at h
      refine E_sq ?_
      refine E_reg ?_
      refine E_mv (v' := .nils) rfl ?_
      refine E_mv (v' := (.bool false)) rfl ?_
      refine E_nil ?_
      refine E_nx ?_
      refine E_ret ?_
      refine E_thr ?_
      cases h
      exact ⟨trivial, _, _, rfl, gwk_rn [none, none] rfl (Nat.le_of_ble_eq_true rfl) ⟨(rn_obDead rfl rfl), (rn_obN rfl rfl rfl), trivial⟩, (rn_tup ⟨(rn_nil rfl), (rn_b rfl), trivial⟩)⟩
    · rw [ite_f hb] at h
      refine E_skip ?_
      refine E_nx ?_
      refine E_sq ?_
      refine E_reg ?_
      refine E_mv (v' := (.ref 0 0 0 (List.length b_00) none)) rfl ?_
      refine E_op0 (v' := (.cptr (Instr.av i_01).cells 0)) rfl rfl ?_
      refine E_op0 (v' := (.int .u8 i_01.Op)) rfl rfl ?_
      refine E_opw (v' := (.sl true 1 (List.map (avI .u8) [i_01.Op]))) rfl (.refl _) rfl ?_
      obtain ⟨l_4, hl_4, h⟩ := bd_some h
      refine E_apL (S' := [.arr 1 (flat (avI .u8) l_4)]) (encI .u8) rfl (src_sl [i_01.Op]) rfl hl_4 rfl ?_
      refine E_mv (v' := (.ref 0 1 0 (List.length l_4) none)) rfl ?_
      refine E_nil ?_
      refine E_nx ?_
      refine E_as ?_
      refine E_sq ?_
      refine E_reg ?_
      refine E_mv (v' := (.int .i64 wid_1)) rfl ?_
      refine E_op0 (v' := (.bool (wid_1 == 8))) rfl rfl ?_
      refine E_nil ?_
      refine E_nx ?_
      refine E_sq ?_
      refine E_cs (t := (wid_1 == 8)) rfl (fun hb => ?_) (fun hb => ?_)
      · rw [ite_t hb] at h
        refine E_sq ?_
        refine E_regp ?_
        refine E_mv (v' := (.ref 0 1 0 (List.length l_4) none)) rfl ?_
        refine E_op0 (v' := (.cptr (Instr.av i_01).cells 2)) rfl rfl ?_
        refine E_op0 (v' := (.int .u64 i_01.Imm)) rfl rfl ?_
        obtain ⟨put_5, hput_5, h⟩ := bd_some h
        refine E_callF (S' := [.arr 2 (flat (avI .u8) put_5)]) (r' := (.ref 0 2 0 (List.length put_5) none)) (code_put_r_ev hput_5) [0] rfl rfl (by decide) rfl rfl ⟨(fr_in rfl rfl (.refl ((encI .u8).blwf 0 _))), trivial⟩ ⟨(fr_out rfl rfl (.refl ((encI .u8).blwf 0 _)) rfl rfl), trivial⟩ ⟨.inl rfl, trivial⟩ rfl (.cons (fi_ref rfl rfl rfl rfl) (.cons (.base rfl (.refl _)) (.cons (.base rfl (.refl _)) (.nil (Nat.zero_le _))))) (fo_ref rfl rfl rfl rfl) ?_
        refine E_op0 (v' := (.cptr (Instr.av i_01).cells 1)) rfl rfl ?_
        refine E_op0 (v' := (.int .i64 i_01.Arg)) rfl rfl ?_
        refine E_op0 (v' := (.bool (i_01.Arg == 0))) rfl rfl ?_
        refine E_mv (v' := (.ref 0 2 0 (List.length put_5) none)) rfl ?_
        refine E_mv (v' := (.bool (i_01.Arg == 0))) rfl ?_
        refine E_nil ?_
        refine And.intro (by simp [okLog, nthL, okPair, hp, fpOf]) ?_
        refine E_nx ?_
        refine E_ret ?_
        refine E_thr ?_
        cases h
        exact ⟨trivial, _, _, rfl, gwk_rn [none, some (0, 0)] rfl (Nat.le_of_ble_eq_true rfl) ⟨(rn_obDead rfl rfl), (rn_ob rfl rfl (.refl ((encI .u8).blwf 0 _)) rfl), trivial⟩, (rn_tup ⟨(rn_refL (encI .u8) rfl rfl rfl), (rn_b rfl), trivial⟩)⟩
      · rw [ite_f hb] at h
        refine E_skip ?_
        refine E_nx ?_
        refine E_jp h (fun s_7 => [(4, (.ref 0 1 0 (List.length s_7.2) none)), (5, (.bool s_7.1))]) (fun s_7 => [.arr 1 (flat (avI .u8) s_7.2)]) (fun k_6 h => ?_) (fun s_7 h => ?_)
        · refine E_regp ?_
          refine E_mv (v' := (.ref 0 1 0 (List.length l_4) none)) rfl ?_
          refine E_op0 (v' := (.cptr (Instr.av i_01).cells 1)) rfl rfl ?_
          refine E_op0 (v' := (.int .i64 i_01.Arg)) rfl rfl ?_
          refine E_op0 (v' := (.int .u64 (U64 i_01.Arg))) rfl rfl ?_
          refine E_mv (v' := (.int .i64 wid_1)) rfl ?_
          obtain ⟨put_8, hput_8, h⟩ := bd_some h
          refine E_callF (S' := [.arr 2 (flat (avI .u8) put_8)]) (r' := (.ref 0 2 0 (List.length put_8) none)) (code_put_r_ev hput_8) [0] rfl rfl (by decide) rfl rfl ⟨(fr_in rfl rfl (.refl ((encI .u8).blwf 0 _))), trivial⟩ ⟨(fr_out rfl rfl (.refl ((encI .u8).blwf 0 _)) rfl rfl), trivial⟩ ⟨.inl rfl, trivial⟩ rfl (.cons (fi_ref rfl rfl rfl rfl) (.cons (.base rfl (.refl _)) (.cons (.base rfl (.refl _)) (.nil (Nat.zero_le _))))) (fo_ref rfl rfl rfl rfl) ?_
          refine E_op0 (v' := (.cptr (Instr.av i_01).cells 1)) rfl rfl ?_
          refine E_op0 (v' := (.int .i64 i_01.Arg)) rfl rfl ?_
          refine E_op0 (v' := (.bool (decide (i_01.Arg ≥ 0)))) rfl rfl ?_
          refine E_mv (v' := (.bool (decide (i_01.Arg ≥ 0)))) rfl ?_
          refine E_gsT (b := (decide (i_01.Arg ≥ 0))) rfl rfl rfl (fun hb => ?_) (fun hb => ?_)
          · rw [ite_t hb] at h
            refine E_op0 (v' := (.cptr (Instr.av i_01).cells 1)) rfl rfl ?_
            refine E_gh rfl ?_
            refine E_op0 (v' := (.int .i64 i_01.Arg)) rfl rfl ?_
            refine E_gh rfl ?_
            refine E_mv (v' := (.int .i64 wid_1)) rfl ?_
            refine E_gh rfl ?_
            refine E_op0 (v' := (.int .i64 (I64 (8 * wid_1)))) rfl rfl ?_
            refine E_gh rfl ?_
            refine E_op0 (v' := (.int .u64 (U64 (I64 (8 * wid_1))))) rfl rfl ?_
            refine E_gh rfl ?_
            obtain ⟨hg_9, h⟩ := gd_some h
            refine E_shl rfl rfl hg_9 ?_
            refine E_gh rfl ?_
            refine E_op0 (v' := (.bool (decide (i_01.Arg < (shL .i64 1 (U64 (I64 (8 * wid_1)))))))) rfl rfl ?_
            refine E_pt rfl rfl ?_
            refine E_mv (v' := (.ref 0 2 0 (List.length put_8) none)) rfl ?_
            refine E_mv (v' := (.bool (decide (i_01.Arg < (shL .i64 1 (U64 (I64 (8 * wid_1)))))))) rfl ?_
            refine E_nil ?_
            refine And.intro (by simp [okLog, nthL, okPair, hp, fpOf]) ?_
            exact E_jx _ h (wk_rn [some (0, 0)] rfl (Nat.le_of_ble_eq_true rfl) ⟨(rn_obV rfl rfl (.refl ((encI .u8).blwf 0 _)) rfl rfl), trivial⟩ ⟨(rn_refL (encI .u8) rfl rfl rfl), (rn_b rfl), trivial⟩)
          · rw [ite_f hb] at h
            refine E_gm rfl ?_
            refine E_gm rfl ?_
            refine E_gm rfl ?_
            refine E_gm rfl ?_
            refine E_gm rfl ?_
            refine E_gm rfl ?_
            refine E_pf rfl rfl ?_
            refine E_mv (v' := (.ref 0 2 0 (List.length put_8) none)) rfl ?_
            refine E_mv (v' := (.bool false)) rfl ?_
            refine E_nil ?_
            refine And.intro (by simp [okLog, nthL, okPair, hp, fpOf]) ?_
            exact E_jx _ h (wk_rn [some (0, 0)] rfl (Nat.le_of_ble_eq_true rfl) ⟨(rn_obV rfl rfl (.refl ((encI .u8).blwf 0 _)) rfl rfl), trivial⟩ ⟨(rn_refL (encI .u8) rfl rfl rfl), (rn_b rfl), trivial⟩)
        · refine E_ret ?_
          cases h
          exact ⟨trivial, _, _, rfl, gwk_rn [none, some (0, 0)] rfl (Nat.le_of_ble_eq_true rfl) ⟨(rn_obDead rfl rfl), (rn_ob rfl rfl (.refl ((encI .u8).blwf 0 _)) rfl), trivial⟩, (rn_tup ⟨(rn_refL (encI .u8) rfl rfl rfl), (rn_b rfl), trivial⟩)⟩
/- windlass/code.function -/
def fc23 : FC := (.seq (.reg [⟨(some 3), none, .op (.box (.t 1))⟩,
  ⟨(some 4), none, .op (.mv (.v .nils))⟩,
  ⟨(some 5), none, .op (.mv (.v (.bool false)))⟩] [])
  (.seq (.seq (.reg [⟨(some 12), none, .op (.fad 0 (.t 3))⟩,
  ⟨(some 13), none, .op (.load none (.t 12))⟩,
  ⟨(some 14), none, .op (.bin .none .lss (.t 13) (.v (.int .i64 0)))⟩,
  ⟨(some 15), none, .op (.mv (.t 14))⟩,
  ⟨(some 16), some (15, false), .op (.fad 0 (.t 3))⟩,
  ⟨(some 17), some (15, false), .op (.load none (.t 16))⟩,
  ⟨(some 18), some (15, false), .op (.fad 1 (.t 3))⟩,
  ⟨(some 19), some (15, false), .op (.load none (.t 18))⟩,
  ⟨(some 20), some (15, false), .op (.len .sl (.t 19))⟩,
  ⟨(some 21), some (15, false), .op (.bin .none .gtr (.t 17) (.t 20))⟩,
  ⟨(some 22), none, .op (.pick (.t 15) (.v (.bool true)) (.t 21))⟩,
  ⟨(some 23), none, .op (.mv (.t 22))⟩,
  ⟨(some 24), some (23, false), .op (.fad 1 (.t 3))⟩,
  ⟨(some 25), some (23, false), .op (.load none (.t 24))⟩,
  ⟨(some 26), some (23, false), .op (.len .sl (.t 25))⟩,
  ⟨(some 27), some (23, false), .op (.bin .none .gtr (.t 26) (.v (.int .i64 255)))⟩,
  ⟨(some 28), none, .op (.pick (.t 23) (.v (.bool true)) (.t 27))⟩,
  ⟨(some 29), none, .op (.mv (.t 28))⟩,
  ⟨(some 30), some (29, false), .op (.fad 3 (.t 3))⟩,
  ⟨(some 31), some (29, false), .op (.load none (.t 30))⟩,
  ⟨(some 32), some (29, false), .op (.bin .none .lss (.t 31) (.v (.int .i64 (-1))))⟩,
  ⟨(some 33), none, .op (.pick (.t 29) (.v (.bool true)) (.t 32))⟩,
  ⟨(some 34), none, .op (.mv (.t 33))⟩,
  ⟨(some 35), some (34, false), .op (.fad 3 (.t 3))⟩,
  ⟨(some 36), some (34, false), .op (.load none (.t 35))⟩,
  ⟨(some 37), some (34, false), .op (.bin .none .gtr (.t 36) (.v (.int .i64 254)))⟩,
  ⟨(some 38), none, .op (.pick (.t 34) (.v (.bool true)) (.t 37))⟩,
  ⟨(some 39), none, .op (.mv (.t 38))⟩,
  ⟨(some 40), some (39, false), .op (.fad 4 (.t 3))⟩,
  ⟨(some 41), some (39, false), .op (.load none (.t 40))⟩,
  ⟨(some 42), some (39, false), .op (.len .sl (.t 41))⟩,
  ⟨(some 43), some (39, false), .op (.bin .none .gtr (.t 42) (.v (.int .i64 65535)))⟩,
  ⟨(some 44), none, .op (.pick (.t 39) (.v (.bool true)) (.t 43))⟩] [])
  (.cond (.t 44)
  (.seq (.reg [⟨(some 4), none, .op (.mv (.v .nils))⟩,
  ⟨(some 5), none, .op (.mv (.v (.bool false)))⟩] [])
  .ret)
  .skip))
  (.seq (.reg [⟨(some 45), none, .op (.mv (.t 0))⟩,
  ⟨(some 46), none, .op (.fad 0 (.t 3))⟩,
  ⟨(some 47), none, .op (.load none (.t 46))⟩,
  ⟨(some 48), none, .op (.cint .u8 (.t 47))⟩,
  ⟨(some 49), none, .op (.fad 1 (.t 3))⟩,
  ⟨(some 50), none, .op (.load none (.t 49))⟩,
  ⟨(some 51), none, .op (.len .sl (.t 50))⟩,
  ⟨(some 52), none, .op (.cint .u8 (.t 51))⟩,
  ⟨(some 53), none, .op (.bsl none [(.int .u8 0)] 2 [(0, 1, (.t 48)), (1, 1, (.t 52))])⟩,
  ⟨(some 54), none, .op (.app none 1 (.t 45) (.t 53))⟩,
  ⟨(some 0), none, .op (.mv (.t 54))⟩] [])
  (.seq (.seq (.reg [⟨(some 55), none, .op (.fad 1 (.t 3))⟩,
  ⟨(some 56), none, .op (.load none (.t 55))⟩,
  ⟨(some 57), none, .op (.len .sl (.t 56))⟩,
  ⟨(some 58), none, .op (.mv (.v (.int .i64 0)))⟩] [])
  (.block 0 (.loop (.seq (.reg [⟨(some 59), none, .op (.bin .none .lss (.t 58) (.t 57))⟩] [])
  (.seq (.cond (.t 59)
  .skip
  (.exit 0))
  (.seq (.block 1 (.seq (.reg [⟨(some 60), none, .op (.iad none none (.t 56) (.t 58))⟩,
  ⟨(some 61), none, .op (.load none (.t 60))⟩,
  ⟨(some 7), none, .op (.mv (.t 61))⟩] [])
  (.seq (.seq (.reg [⟨(some 62), none, .op (.mv (.t 7))⟩,
  ⟨(some 63), none, .op (.bin .none .gtr (.t 62) (.v (.int .u8 1)))⟩] [])
  (.cond (.t 63)
  (.seq (.reg [⟨(some 4), none, .op (.mv (.v .nils))⟩,
  ⟨(some 5), none, .op (.mv (.v (.bool false)))⟩] [])
  .ret)
  .skip))
  (.reg [⟨(some 64), none, .op (.mv (.t 0))⟩,
  ⟨(some 65), none, .op (.mv (.t 7))⟩,
  ⟨(some 66), none, .op (.bsl none [(.int .u8 0)] 1 [(0, 1, (.t 65))])⟩,
  ⟨(some 67), none, .op (.app none 1 (.t 64) (.t 66))⟩,
  ⟨(some 0), none, .op (.mv (.t 67))⟩] []))))
  (.reg [⟨(some 68), none, .op (.bin .none .add (.t 58) (.v (.int .i64 1)))⟩,
  ⟨(some 58), none, .op (.mv (.t 68))⟩] [])))))))
  (.seq (.reg [⟨(some 8), none, .op (.mv (.v (.int .u8 0)))⟩] [])
  (.seq (.seq (.reg [⟨(some 69), none, .op (.fad 2 (.t 3))⟩,
  ⟨(some 70), none, .op (.load none (.t 69))⟩] [])
  (.cond (.t 70)
  (.reg [⟨(some 8), none, .op (.mv (.v (.int .u8 1)))⟩] [])
  .skip))
  (.seq (.reg [⟨(some 71), none, .op (.mv (.t 0))⟩,
  ⟨(some 72), none, .op (.mv (.t 8))⟩,
  ⟨(some 73), none, .op (.fad 3 (.t 3))⟩,
  ⟨(some 74), none, .op (.load none (.t 73))⟩,
  ⟨(some 75), none, .op (.cint .u8 (.t 74))⟩,
  ⟨(some 76), none, .op (.bsl none [(.int .u8 0)] 2 [(0, 1, (.t 72)), (1, 1, (.t 75))])⟩,
  ⟨(some 77), none, .op (.app none 1 (.t 71) (.t 76))⟩,
  ⟨(some 78), none, .op (.fad 4 (.t 3))⟩,
  ⟨(some 79), none, .op (.load none (.t 78))⟩,
  ⟨(some 80), none, .op (.len .sl (.t 79))⟩,
  ⟨(some 81), none, .op (.cint .u64 (.t 80))⟩,
  ⟨(some 82), none, .call 35 [(.t 77), (.t 81), (.v (.int .i64 2))]⟩,
  ⟨(some 0), none, .op (.mv (.t 82))⟩] [(5, 8), (6, 8)])
  (.seq (.seq (.reg [⟨(some 83), none, .op (.fad 4 (.t 3))⟩,
  ⟨(some 84), none, .op (.load none (.t 83))⟩,
  ⟨(some 85), none, .op (.len .sl (.t 84))⟩,
  ⟨(some 86), none, .op (.mv (.v (.int .i64 0)))⟩] [])
  (.block 2 (.loop (.seq (.reg [⟨(some 87), none, .op (.bin .none .lss (.t 86) (.t 85))⟩] [])
  (.seq (.cond (.t 87)
  .skip
  (.exit 2))
  (.seq (.block 3 (.seq (.reg [⟨(some 88), none, .op (.iad none (some 3) (.t 84) (.t 86))⟩,
  ⟨(some 89), none, .op (.load (some 3) (.t 88))⟩,
  ⟨(some 10), none, .op (.new [(.int .u8 0), (.int .i64 0), (.int .u64 0)])⟩,
  ⟨none, none, .op (.store 3 (.t 10) (.t 89))⟩] [])
  (.seq (.reg [⟨(some 11), none, .op (.mv (.v (.bool false)))⟩] [])
  (.seq (.reg [⟨(some 91), none, .op (.mv (.t 0))⟩,
  ⟨(some 92), none, .op (.load (some 3) (.t 10))⟩,
  ⟨(some 93), none, .call 36 [(.t 91), (.t 92)]⟩,
  ⟨(some 90), none, .op (.mv (.t 93))⟩,
  ⟨(some 94), none, .op (.ext 0 (.t 90))⟩,
  ⟨(some 95), none, .op (.ext 1 (.t 90))⟩,
  ⟨(some 0), none, .op (.mv (.t 94))⟩,
  ⟨(some 11), none, .op (.mv (.t 95))⟩] [])
  (.seq (.reg [⟨(some 96), none, .op (.mv (.t 11))⟩,
  ⟨(some 97), none, .op (.un .not (.t 96))⟩] [])
  (.cond (.t 97)
  (.seq (.reg [⟨(some 4), none, .op (.mv (.v .nils))⟩,
  ⟨(some 5), none, .op (.mv (.v (.bool false)))⟩] [])
  .ret)
  .skip))))))
  (.reg [⟨(some 98), none, .op (.bin .none .add (.t 86) (.v (.int .i64 1)))⟩,
  ⟨(some 86), none, .op (.mv (.t 98))⟩] [])))))))
  (.seq (.reg [⟨(some 99), none, .op (.mv (.t 0))⟩,
  ⟨(some 4), none, .op (.mv (.t 99))⟩,
  ⟨(some 5), none, .op (.mv (.v (.bool true)))⟩] [])
  .ret)))))))))
theorem fn23 : Fn3 Try.prog 23 100 [(4, none), (5, none)] fc23 := ⟨_, _, Try.func23, rfl, rfl, rfl, by kernel_rfl⟩
def code_function_r_s (b_00 : (List Int)) (f_01 : Func) : Option (Bool × (List Int)) :=
  (jp (fun (s_2 : (Func × Bool)) => (if s_2.2 then (some (false, [])) else ((appL 1 b_00 [(U8 s_2.1.Params), (U8 (List.length s_2.1.Locals : Int))]).bind fun l_3 => ((rng (fun (i_5 : Nat) (k_6 : Int) (s_4 : (List Int)) => ((if (decide (k_6 > 1)) then (some (.ret (some (false, [])))) else ((appL 1 s_4 [k_6]).bind fun l_8 => (some (.nxt l_8)))) : Option (Stp (List Int) (Option (Bool × (List Int)))))) s_2.1.Locals l_3).bind (oc (fun (s_4 : (List Int)) => (jp (fun (s_10 : Int) => ((appL 1 s_4 [s_10, (U8 s_2.1.Keep)]).bind fun l_11 => ((code_put_r_o_s l_11 (U64 (List.length s_2.1.Code : Int)) 2).bind fun (put_12 : (List Int)) => ((rng (fun (i_14 : Nat) (i_15 : Instr) (s_13 : (List Int)) => (((code_instruction_r_s s_13 i_15).bind fun (ins_17 : (Bool × (List Int))) => (if (!ins_17.1) then (some (.ret (some (false, [])))) else (some (.nxt ins_17.2)))) : Option (Stp (List Int) (Option (Bool × (List Int)))))) s_2.1.Code put_12).bind (oc (fun (s_13 : (List Int)) => (some (true, s_13)))))))) (fun k_9 => (if s_2.1.Result then (k_9 1) else (k_9 0)))))))))) (fun k_1 => (if (decide (f_01.Params < 0)) then (k_1 (f_01, true)) else (if (decide (f_01.Params > (List.length f_01.Locals : Int))) then (k_1 (f_01, true)) else (if (decide ((List.length f_01.Locals : Int) > 255)) then (k_1 (f_01, true)) else (if (decide (f_01.Keep < (-1))) then (k_1 (f_01, true)) else (if (decide (f_01.Keep > 254)) then (k_1 (f_01, true)) else (k_1 (f_01, (decide ((List.length f_01.Code : Int) > 65535)))))))))))
theorem code_function_r_ev {b_00 : (List Int)} {f_01 : Func} {r : (Bool × (List Int))} (h : code_function_r_s b_00 f_01 = some r) : Ev Try.prog 23 [(.ref 0 0 0 (List.length b_00) none), (Func.av f_01)] (hp [.arr 0 (flat (avI .u8) b_00)]) (.tup [(.ref 1 1 0 (List.length r.2) none), (.bool r.1)]) (hp [.dead 1000000, .arr 1 (flat (avI .u8) r.2)]) := by
  unfold code_function_r_s at h
  refine Ev_end mixed fn23 (by simp) [10] ?_
  unfold fc23
  refine E_sq ?_
  refine E_reg ?_
  refine E_op0 (v' := (.cptr (Func.av f_01).cells 0)) rfl rfl ?_
  refine E_mv (v' := .nils) rfl ?_
  refine E_mv (v' := (.bool false)) rfl ?_
  refine E_nil ?_
  refine E_nx ?_
  refine E_as ?_
  refine E_jp h (fun s_2 => [(0, (.ref 0 0 0 (List.length b_00) none)), (3, (.cptr (Func.av s_2.1).cells 0)), (44, (.bool s_2.2))]) (fun s_2 => [.arr 0 (flat (avI .u8) b_00)]) (fun k_1 h => ?_) (fun s_2 h => ?_)
  · refine E_reg ?_
    refine E_op0 (v' := (.cptr (Func.av f_01).cells 0)) rfl rfl ?_
    refine E_op0 (v' := (.int .i64 f_01.Params)) rfl rfl ?_
    refine E_op0 (v' := (.bool (decide (f_01.Params < 0)))) rfl rfl ?_
    refine E_mv (v' := (.bool (decide (f_01.Params < 0)))) rfl ?_
    refine E_gsT (b := (decide (f_01.Params < 0))) rfl rfl rfl (fun hb => ?_) (fun hb => ?_)
    · rw [ite_f hb] at h
      refine E_op0 (v' := (.cptr (Func.av f_01).cells 0)) rfl rfl ?_
      refine E_gh rfl ?_
      refine E_op0 (v' := (.int .i64 f_01.Params)) rfl rfl ?_
      refine E_gh rfl ?_
      refine E_op0 (v' := (.cptr (Func.av f_01).cells 1)) rfl rfl ?_
      refine E_gh rfl ?_
      refine E_op0 (v' := (.sl false 1 (List.map (avI .u8) f_01.Locals))) rfl rfl ?_
      refine E_gh rfl ?_
      refine E_len rfl ?_
      refine E_gh rfl ?_
      refine E_op0 (v' := (.bool (decide (f_01.Params > (List.length f_01.Locals : Int))))) rfl rfl ?_
      refine E_pf rfl rfl ?_
      refine E_mv (v' := (.bool (decide (f_01.Params > (List.length f_01.Locals : Int))))) rfl ?_
      refine E_gsT (b := (decide (f_01.Params > (List.length f_01.Locals : Int)))) rfl rfl rfl (fun hb => ?_) (fun hb => ?_)
      · rw [ite_f hb] at h
        refine E_op0 (v' := (.cptr (Func.av f_01).cells 1)) rfl rfl ?_
        refine E_gh rfl ?_
        refine E_op0 (v' := (.sl false 1 (List.map (avI .u8) f_01.Locals))) rfl rfl ?_
        refine E_gh rfl ?_
        refine E_len rfl ?_
        refine E_gh rfl ?_
        refine E_op0 (v' := (.bool (decide ((List.length f_01.Locals : Int) > 255)))) rfl rfl ?_
        refine E_pf rfl rfl ?_
        refine E_mv (v' := (.bool (decide ((List.length f_01.Locals : Int) > 255)))) rfl ?_
        refine E_gsT (b := (decide ((List.length f_01.Locals : Int) > 255))) rfl rfl rfl (fun hb => ?_) (fun hb => ?_)
        · rw [ite_f hb] at h
          refine E_op0 (v' := (.cptr (Func.av f_01).cells 3)) rfl rfl ?_
          refine E_gh rfl ?_
          refine E_op0 (v' := (.int .i64 f_01.Keep)) rfl rfl ?_
          refine E_gh rfl ?_
          refine E_op0 (v' := (.bool (decide (f_01.Keep < (-1))))) rfl rfl ?_
          refine E_pf rfl rfl ?_
          refine E_mv (v' := (.bool (decide (f_01.Keep < (-1))))) rfl ?_
          refine E_gsT (b := (decide (f_01.Keep < (-1)))) rfl rfl rfl (fun hb => ?_) (fun hb => ?_)
          · rw [ite_f hb] at h
            refine E_op0 (v' := (.cptr (Func.av f_01).cells 3)) rfl rfl ?_
            refine E_gh rfl ?_
            refine E_op0 (v' := (.int .i64 f_01.Keep)) rfl rfl ?_
            refine E_gh rfl ?_
            refine E_op0 (v' := (.bool (decide (f_01.Keep > 254)))) rfl rfl ?_
            refine E_pf rfl rfl ?_
            refine E_mv (v' := (.bool (decide (f_01.Keep > 254)))) rfl ?_
            refine E_gsT (b := (decide (f_01.Keep > 254))) rfl rfl rfl (fun hb => ?_) (fun hb => ?_)
            · rw [ite_f hb] at h
              refine E_op0 (v' := (.cptr (Func.av f_01).cells 4)) rfl rfl ?_
              refine E_gh rfl ?_
              refine E_op0 (v' := (.sl false 3 (List.map Instr.av f_01.Code))) rfl rfl ?_
              refine E_gh rfl ?_
              refine E_len rfl ?_
              refine E_gh rfl ?_
              refine E_op0 (v' := (.bool (decide ((List.length f_01.Code : Int) > 65535)))) rfl rfl ?_
              refine E_pf rfl rfl ?_
              refine E_nil ?_
              exact E_jx _ h (wk_rn [some (0, 0)] rfl (Nat.le_of_ble_eq_true rfl) ⟨(rn_obS rfl rfl (.refl ((encI .u8).blwf 0 _)) rfl), trivial⟩ ⟨(rn_refL (encI .u8) rfl rfl rfl), (rn_b (cp_blw (Func.enc.blw _ 0))), (rn_b rfl), trivial⟩)
            · rw [ite_t hb] at h
              refine E_gm rfl ?_
              refine E_gm rfl ?_
              refine E_gm rfl ?_
              refine E_pt rfl rfl ?_
              refine E_nil ?_
              exact E_jx _ h (wk_rn [some (0, 0)] rfl (Nat.le_of_ble_eq_true rfl) ⟨(rn_obS rfl rfl (.refl ((encI .u8).blwf 0 _)) rfl), trivial⟩ ⟨(rn_refL (encI .u8) rfl rfl rfl), (rn_b (cp_blw (Func.enc.blw _ 0))), (rn_b rfl), trivial⟩)
          · rw [ite_t hb] at h
            refine E_gm rfl ?_
            refine E_gm rfl ?_
            refine E_pt rfl rfl ?_
            refine E_mv (v' := (.bool true)) rfl ?_
            refine E_gm rfl ?_
            refine E_gm rfl ?_
            refine E_gm rfl ?_
            refine E_gm rfl ?_
            refine E_pt rfl rfl ?_
            refine E_nil ?_
            exact E_jx _ h (wk_rn [some (0, 0)] rfl (Nat.le_of_ble_eq_true rfl) ⟨(rn_obS rfl rfl (.refl ((encI .u8).blwf 0 _)) rfl), trivial⟩ ⟨(rn_refL (encI .u8) rfl rfl rfl), (rn_b (cp_blw (Func.enc.blw _ 0))), (rn_b rfl), trivial⟩)
        · rw [ite_t hb] at h
          refine E_gm rfl ?_
          refine E_gm rfl ?_
          refine E_pt rfl rfl ?_
          refine E_mv (v' := (.bool true)) rfl ?_
          refine E_gm rfl ?_
          refine E_gm rfl ?_
          refine E_gm rfl ?_
          refine E_pt rfl rfl ?_
          refine E_mv (v' := (.bool true)) rfl ?_
          refine E_gm rfl ?_
          refine E_gm rfl ?_
          refine E_gm rfl ?_
          refine E_gm rfl ?_
          refine E_pt rfl rfl ?_
          refine E_nil ?_
          exact E_jx _ h (wk_rn [some (0, 0)] rfl (Nat.le_of_ble_eq_true rfl) ⟨(rn_obS rfl rfl (.refl ((encI .u8).blwf 0 _)) rfl), trivial⟩ ⟨(rn_refL (encI .u8) rfl rfl rfl), (rn_b (cp_blw (Func.enc.blw _ 0))), (rn_b rfl), trivial⟩)
      · rw [ite_t hb] at h
        refine E_gm rfl ?_
        refine E_gm rfl ?_
        refine E_gm rfl ?_
        refine E_pt rfl rfl ?_
        refine E_mv (v' := (.bool true)) rfl ?_
        refine E_gm rfl ?_
        refine E_gm rfl ?_
        refine E_gm rfl ?_
        refine E_pt rfl rfl ?_
        refine E_mv (v' := (.bool true)) rfl ?_
        refine E_gm rfl ?_
        refine E_gm rfl ?_
        refine E_gm rfl ?_
        refine E_pt rfl rfl ?_
        refine E_mv (v' := (.bool true)) rfl ?_
        refine E_gm rfl ?_
        refine E_gm rfl ?_
        refine E_gm rfl ?_
        refine E_gm rfl ?_
        refine E_pt rfl rfl ?_
        refine E_nil ?_
        exact E_jx _ h (wk_rn [some (0, 0)] rfl (Nat.le_of_ble_eq_true rfl) ⟨(rn_obS rfl rfl (.refl ((encI .u8).blwf 0 _)) rfl), trivial⟩ ⟨(rn_refL (encI .u8) rfl rfl rfl), (rn_b (cp_blw (Func.enc.blw _ 0))), (rn_b rfl), trivial⟩)
    · rw [ite_t hb] at h
      refine E_gm rfl ?_
      refine E_gm rfl ?_
      refine E_gm rfl ?_
      refine E_gm rfl ?_
      refine E_gm rfl ?_
      refine E_pt rfl rfl ?_
      refine E_mv (v' := (.bool true)) rfl ?_
      refine E_gm rfl ?_
      refine E_gm rfl ?_
      refine E_gm rfl ?_
      refine E_gm rfl ?_
      refine E_pt rfl rfl ?_
      refine E_mv (v' := (.bool true)) rfl ?_
      refine E_gm rfl ?_
      refine E_gm rfl ?_
      refine E_gm rfl ?_
      refine E_pt rfl rfl ?_
      refine E_mv (v' := (.bool true)) rfl ?_
      refine E_gm rfl ?_
      refine E_gm rfl ?_
      refine E_gm rfl ?_
      refine E_pt rfl rfl ?_
      refine E_mv (v' := (.bool true)) rfl ?_
      refine E_gm rfl ?_
      refine E_gm rfl ?_
      refine E_gm rfl ?_
      refine E_gm rfl ?_
      refine E_pt rfl rfl ?_
      refine E_nil ?_
      exact E_jx _ h (wk_rn [some (0, 0)] rfl (Nat.le_of_ble_eq_true rfl) ⟨(rn_obS rfl rfl (.refl ((encI .u8).blwf 0 _)) rfl), trivial⟩ ⟨(rn_refL (encI .u8) rfl rfl rfl), (rn_b (cp_blw (Func.enc.blw _ 0))), (rn_b rfl), trivial⟩)
  · refine E_sq ?_
    refine E_cs (t := s_2.2) rfl (fun hb => ?_) (fun hb => ?_)
    · rw [ite_t hb] at h
      refine E_sq ?_
      refine E_reg ?_
      refine E_mv (v' := .nils) rfl ?_
      refine E_mv (v' := (.bool false)) rfl ?_
      refine E_nil ?_
      refine E_nx ?_
      refine E_ret ?_
      refine E_thr ?_
      cases h
      exact ⟨trivial, _, _, rfl, gwk_rn [none, none] rfl (Nat.le_of_ble_eq_true rfl) ⟨(rn_obDead rfl rfl), (rn_obN rfl rfl rfl), trivial⟩, (rn_tup ⟨(rn_nil rfl), (rn_b rfl), trivial⟩)⟩
    · rw [ite_f hb] at h
      refine E_skip ?_
      refine E_nx ?_
      refine E_sq ?_
      refine E_reg ?_
      refine E_mv (v' := (.ref 0 0 0 (List.length b_00) none)) rfl ?_
      refine E_op0 (v' := (.cptr (Func.av s_2.1).cells 0)) rfl rfl ?_
      refine E_op0 (v' := (.int .i64 s_2.1.Params)) rfl rfl ?_
      refine E_op0 (v' := (.int .u8 (U8 s_2.1.Params))) rfl rfl ?_
      refine E_op0 (v' := (.cptr (Func.av s_2.1).cells 1)) rfl rfl ?_
      refine E_op0 (v' := (.sl false 1 (List.map (avI .u8) s_2.1.Locals))) rfl rfl ?_
      refine E_len rfl ?_
      refine E_op0 (v' := (.int .u8 (U8 (List.length s_2.1.Locals : Int)))) rfl rfl ?_
      refine E_opw (v' := (.sl true 1 (List.map (avI .u8) [(U8 s_2.1.Params), (U8 (List.length s_2.1.Locals : Int))]))) rfl (.refl _) rfl ?_
      obtain ⟨l_3, hl_3, h⟩ := bd_some h
      refine E_apL (S' := [.arr 1 (flat (avI .u8) l_3)]) (encI .u8) rfl (src_sl [(U8 s_2.1.Params), (U8 (List.length s_2.1.Locals : Int))]) rfl hl_3 rfl ?_
      refine E_mv (v' := (.ref 0 1 0 (List.length l_3) none)) rfl ?_
      refine E_nil ?_
      refine E_nx ?_
      refine E_as ?_
      refine E_sq ?_
      refine E_reg ?_
      refine E_op0 (v' := (.cptr (Func.av s_2.1).cells 1)) rfl rfl ?_
      refine E_op0 (v' := (.sl false 1 (List.map (avI .u8) s_2.1.Locals))) rfl rfl ?_
      refine E_len rfl ?_
      refine E_mv (v' := (.int .i64 0)) rfl ?_
      refine E_nil ?_
      refine E_nx ?_
      refine E_sq ?_
      refine E_rngO (fun s_4 => [(0, (.ref 0 1 0 (List.length s_4) none)), (3, (.cptr (Func.av s_2.1).cells 0)), (56, (.sl false 1 (List.map (avI .u8) s_2.1.Locals)))]) (fun s_4 => [.arr 1 (flat (avI .u8) s_4)]) h (by decide) (by decide) (fun _ => ⟨rfl, rfl, rfl, rfl⟩) (wk_rn [some (0, 0)] rfl (Nat.le_of_ble_eq_true rfl) ⟨(rn_obV rfl rfl (.refl ((encI .u8).blwf 0 _)) rfl rfl), trivial⟩ ⟨(rn_b rfl), (rn_b rfl), (rn_refL (encI .u8) rfl rfl rfl), (rn_b (cp_blw (Func.enc.blw _ 0))), (rn_b ((encI .u8).blws 0)), trivial⟩) (fun i_5 k_6 s_4 c hx_7 hlt h => ?_) (fun s_4 fr' S' h hw => ?_)
      · refine E_sq ?_
        refine E_reg ?_
        refine E_iadF rfl rfl (getI_of hx_7) ?_
        refine E_op0 (v' := (.int .u8 k_6)) rfl rfl ?_
        refine E_mv (v' := (.int .u8 k_6)) rfl ?_
        refine E_nil ?_
        refine E_nx ?_
        refine E_as ?_
        refine E_sq ?_
        refine E_reg ?_
        refine E_mv (v' := (.int .u8 k_6)) rfl ?_
        refine E_op0 (v' := (.bool (decide (k_6 > 1)))) rfl rfl ?_
        refine E_nil ?_
        refine E_nx ?_
        refine E_sq ?_
        refine E_cs (t := (decide (k_6 > 1))) rfl (fun hb => ?_) (fun hb => ?_)
        · rw [ite_t hb] at h
          refine E_sq ?_
          refine E_reg ?_
          refine E_mv (v' := .nils) rfl ?_
          refine E_mv (v' := (.bool false)) rfl ?_
          refine E_nil ?_
          refine E_nx ?_
          refine E_ret ?_
          refine E_thr ?_
          cases h
          refine L_rrO rfl (fun h => ?_)
          refine E_thr ?_
          cases h
          exact ⟨trivial, _, _, rfl, gwk_rn [none, none] rfl (Nat.le_of_ble_eq_true rfl) ⟨(rn_obDead rfl rfl), (rn_obN rfl rfl rfl), trivial⟩, (rn_tup ⟨(rn_nil rfl), (rn_b rfl), trivial⟩)⟩
        · rw [ite_f hb] at h
          refine E_skip ?_
          refine E_nx ?_
          refine E_reg ?_
          refine E_mv (v' := (.ref 0 1 0 (List.length s_4) none)) rfl ?_
          refine E_mv (v' := (.int .u8 k_6)) rfl ?_
          refine E_opw (v' := (.sl true 1 (List.map (avI .u8) [k_6]))) rfl (.refl _) rfl ?_
          obtain ⟨l_8, hl_8, h⟩ := bd_some h
          refine E_apL (S' := [.arr 2 (flat (avI .u8) l_8)]) (encI .u8) rfl (src_sl [k_6]) rfl hl_8 rfl ?_
          refine E_mv (v' := (.ref 0 2 0 (List.length l_8) none)) rfl ?_
          refine E_nil ?_
          cases h
          exact L_nn rfl (wk_rn [some (0, 0)] rfl (Nat.le_of_ble_eq_true rfl) ⟨(rn_obV rfl rfl (.refl ((encI .u8).blwf 0 _)) rfl rfl), trivial⟩ ⟨(rn_b rfl), (rn_b rfl), (rn_refL (encI .u8) rfl rfl rfl), (rn_b (cp_blw (Func.enc.blw _ 0))), (rn_b ((encI .u8).blws 0)), trivial⟩)
      · refine X_nx hw ?_
        refine E_sq ?_
        refine E_reg ?_
        refine E_mv (v' := (.int .u8 0)) rfl ?_
        refine E_nil ?_
        refine E_nx ?_
        refine E_as ?_
        refine E_sq ?_
        refine E_reg ?_
        refine E_op0 (v' := (.cptr (Func.av s_2.1).cells 2)) rfl rfl ?_
        refine E_op0 (v' := (.bool s_2.1.Result)) rfl rfl ?_
        refine E_nil ?_
        refine E_nx ?_
        refine E_jp h (fun s_10 => [(0, (.ref 0 1 0 (List.length s_4) none)), (3, (.cptr (Func.av s_2.1).cells 0)), (8, (.int .u8 s_10))]) (fun s_10 => [.arr 1 (flat (avI .u8) s_4)]) (fun k_9 h => ?_) (fun s_10 h => ?_)
        · refine E_cs (t := s_2.1.Result) rfl (fun hb => ?_) (fun hb => ?_)
          · rw [ite_t hb] at h
            refine E_reg ?_
            refine E_mv (v' := (.int .u8 1)) rfl ?_
            refine E_nil ?_
            exact E_jx _ h (wk_rn [some (0, 0)] rfl (Nat.le_of_ble_eq_true rfl) ⟨(rn_obV rfl rfl (.refl ((encI .u8).blwf 0 _)) rfl rfl), trivial⟩ ⟨(rn_refL (encI .u8) rfl rfl rfl), (rn_b (cp_blw (Func.enc.blw _ 0))), (rn_b rfl), trivial⟩)
          · rw [ite_f hb] at h
            refine E_skip ?_
            exact E_jx _ h (wk_rn [some (0, 0)] rfl (Nat.le_of_ble_eq_true rfl) ⟨(rn_obV rfl rfl (.refl ((encI .u8).blwf 0 _)) rfl rfl), trivial⟩ ⟨(rn_refL (encI .u8) rfl rfl rfl), (rn_b (cp_blw (Func.enc.blw _ 0))), (rn_b rfl), trivial⟩)
        · refine E_sq ?_
          refine E_regp ?_
          refine E_mv (v' := (.ref 0 1 0 (List.length s_4) none)) rfl ?_
          refine E_mv (v' := (.int .u8 s_10)) rfl ?_
          refine E_op0 (v' := (.cptr (Func.av s_2.1).cells 3)) rfl rfl ?_
          refine E_op0 (v' := (.int .i64 s_2.1.Keep)) rfl rfl ?_
          refine E_op0 (v' := (.int .u8 (U8 s_2.1.Keep))) rfl rfl ?_
          refine E_opw (v' := (.sl true 1 (List.map (avI .u8) [s_10, (U8 s_2.1.Keep)]))) rfl (.refl _) rfl ?_
          obtain ⟨l_11, hl_11, h⟩ := bd_some h
          refine E_apL (S' := [.arr 2 (flat (avI .u8) l_11)]) (encI .u8) rfl (src_sl [s_10, (U8 s_2.1.Keep)]) rfl hl_11 rfl ?_
          refine E_op0 (v' := (.cptr (Func.av s_2.1).cells 4)) rfl rfl ?_
          refine E_op0 (v' := (.sl false 3 (List.map Instr.av s_2.1.Code))) rfl rfl ?_
          refine E_len rfl ?_
          refine E_op0 (v' := (.int .u64 (U64 (List.length s_2.1.Code : Int)))) rfl rfl ?_
          obtain ⟨put_12, hput_12, h⟩ := bd_some h
          refine E_callF (S' := [.arr 3 (flat (avI .u8) put_12)]) (r' := (.ref 0 3 0 (List.length put_12) none)) (code_put_r_o_ev hput_12) [0] rfl rfl (by decide) rfl rfl ⟨(fr_in rfl rfl (.refl ((encI .u8).blwf 0 _))), trivial⟩ ⟨(fr_out rfl rfl (.refl ((encI .u8).blwf 0 _)) rfl rfl), trivial⟩ ⟨.inl rfl, trivial⟩ rfl (.cons (fi_ref rfl rfl rfl rfl) (.cons (.base rfl (.refl _)) (.cons (.base rfl (.refl _)) (.nil (Nat.zero_le _))))) (fo_ref rfl rfl rfl rfl) ?_
          refine E_mv (v' := (.ref 0 3 0 (List.length put_12) none)) rfl ?_
          refine E_nil ?_
          refine And.intro (by simp [okLog, nthL, okPair, hp, fpOf]) ?_
          refine E_nx ?_
          refine E_as ?_
          refine E_sq ?_
          refine E_reg ?_
          refine E_op0 (v' := (.cptr (Func.av s_2.1).cells 4)) rfl rfl ?_
          refine E_op0 (v' := (.sl false 3 (List.map Instr.av s_2.1.Code))) rfl rfl ?_
          refine E_len rfl ?_
          refine E_mv (v' := (.int .i64 0)) rfl ?_
          refine E_nil ?_
          refine E_nx ?_
          refine E_sq ?_
          refine E_rngO (fun s_13 => [(0, (.ref 1 1 0 (List.length s_13) none)), (84, (.sl false 3 (List.map Instr.av s_2.1.Code)))]) (fun s_13 => [.dead 1000000, .arr 1 (flat (avI .u8) s_13)]) h (by decide) (by decide) (fun _ => ⟨rfl, rfl, rfl, rfl⟩) (wk_rn [none, some (0, 0)] rfl (Nat.le_of_ble_eq_true rfl) ⟨(rn_obDead rfl rfl), (rn_ob rfl rfl (.refl ((encI .u8).blwf 0 _)) rfl), trivial⟩ ⟨(rn_b rfl), (rn_b rfl), (rn_refL (encI .u8) rfl rfl rfl), (rn_b (Instr.enc.blws 0)), trivial⟩) (fun i_14 i_15 s_13 c hx_16 hlt h => ?_) (fun s_13 fr' S' h hw => ?_)
          · refine E_sq ?_
            refine E_reg ?_
            refine E_iadF rfl rfl (getI_of hx_16) ?_
            refine E_op0 (v' := (Instr.av i_15)) rfl rfl ?_
            refine E_op (v' := .ptr 2 0 0) (S' := [.dead 1000000, .arr 1 (flat (avI .u8) s_13), .arr 0 [(.int .u8 0), (.int .i64 0), (.int .u64 0)]]) rfl rfl rfl ?_
            refine E_do (S' := [.dead 1000000, .arr 1 (flat (avI .u8) s_13), .arr 0 [(.int .u8 i_15.Op), (.int .i64 i_15.Arg), (.int .u64 i_15.Imm)]]) rfl rfl ?_
            refine E_nil ?_
            refine E_nx ?_
            refine E_sq ?_
            refine E_reg ?_
            refine E_mv (v' := (.bool false)) rfl ?_
            refine E_nil ?_
            refine E_nx ?_
            refine E_sq ?_
            refine E_reg ?_
            refine E_mv (v' := (.ref 1 1 0 (List.length s_13) none)) rfl ?_
            refine E_opw (v' := (Instr.av i_15)) rfl (.aggL ⟨(.refl _), (.refl _), (.refl _), trivial⟩) rfl ?_
            obtain ⟨ins_17, hins_17, h⟩ := bd_some h
            refine E_callF (S' := [.dead 1000000, .dead 1, .arr 0 [(.int .u8 i_15.Op), (.int .i64 i_15.Arg), (.int .u64 i_15.Imm)], .arr 1 (flat (avI .u8) ins_17.2)]) (r' := (.tup [(.ref 3 1 0 (List.length ins_17.2) none), (.bool ins_17.1)])) (code_instruction_r_ev hins_17) [1] rfl rfl (by decide) rfl rfl ⟨(fr_in rfl rfl (.refl ((encI .u8).blwf 0 _))), trivial⟩ ⟨(fr_outD rfl rfl rfl), (fr_outN rfl rfl (.refl ((encI .u8).blwf 0 _)) rfl), trivial⟩ ⟨.inr rfl, .inl rfl, .inr rfl, trivial⟩ rfl (.cons (fi_ref rfl rfl rfl rfl) (.cons (.base (Instr.enc.blw _ 0) (.refl _)) (.nil (Nat.zero_le _)))) (rn_tup ⟨(fo_ref rfl rfl rfl rfl), (rn_b rfl), trivial⟩) ?_
            refine E_mv (v' := (.tup [(.ref 3 1 0 (List.length ins_17.2) none), (.bool ins_17.1)])) rfl ?_
            refine E_op0 (v' := (.ref 3 1 0 (List.length ins_17.2) none)) rfl rfl ?_
            refine E_op0 (v' := (.bool ins_17.1)) rfl rfl ?_
            refine E_mv (v' := (.ref 3 1 0 (List.length ins_17.2) none)) rfl ?_
            refine E_mv (v' := (.bool ins_17.1)) rfl ?_
            refine E_nil ?_
            refine E_nx ?_
            refine E_sq ?_
            refine E_reg ?_
            refine E_mv (v' := (.bool ins_17.1)) rfl ?_
            refine E_op0 (v' := (.bool (!ins_17.1))) rfl rfl ?_
            refine E_nil ?_
            refine E_nx ?_
            refine E_cs (t := (!ins_17.1)) rfl (fun hb => ?_) (fun hb => ?_)
            · rw [ite_t hb] at h
              refine E_sq ?_
              refine E_reg ?_
              refine E_mv (v' := .nils) rfl ?_
              refine E_mv (v' := (.bool false)) rfl ?_
              refine E_nil ?_
              refine E_nx ?_
              refine E_ret ?_
              cases h
              refine L_rrO rfl (fun h => ?_)
              refine E_thr ?_
              cases h
              exact ⟨trivial, _, _, rfl, gwk_rn [none, none] rfl (Nat.le_of_ble_eq_true rfl) ⟨(rn_obDD rfl rfl), (rn_obN rfl rfl rfl), trivial⟩, (rn_tup ⟨(rn_nil rfl), (rn_b rfl), trivial⟩)⟩
            · rw [ite_f hb] at h
              refine E_skip ?_
              cases h
              exact L_nn rfl (wk_rn [none, some (3, 0)] rfl (Nat.le_of_ble_eq_true rfl) ⟨(rn_obDD rfl rfl), (rn_ob rfl rfl (.refl ((encI .u8).blwf 0 _)) rfl), trivial⟩ ⟨(rn_b rfl), (rn_b rfl), (rn_refL (encI .u8) rfl rfl rfl), (rn_b (Instr.enc.blws 0)), trivial⟩)
          · refine X_nx hw ?_
            refine E_sq ?_
            refine E_reg ?_
            refine E_mv (v' := (.ref 1 1 0 (List.length s_13) none)) rfl ?_
            refine E_mv (v' := (.ref 1 1 0 (List.length s_13) none)) rfl ?_
            refine E_mv (v' := (.bool true)) rfl ?_
            refine E_nil ?_
            refine E_nx ?_
            refine E_ret ?_
            cases h
            exact ⟨trivial, _, _, rfl, gwk_rn [none, some (1, 0)] rfl (Nat.le_of_ble_eq_true rfl) ⟨(rn_obDD rfl rfl), (rn_ob rfl rfl (.refl ((encI .u8).blwf 0 _)) rfl), trivial⟩, (rn_tup ⟨(rn_refL (encI .u8) rfl rfl rfl), (rn_b rfl), trivial⟩)⟩
/- windlass/code.Encode -/
def fc14 : FC := (.seq (.reg [⟨(some 1), none, .op (.box (.t 0))⟩,
  ⟨(some 2), none, .op (.mv (.v .nils))⟩,
  ⟨(some 3), none, .op (.mv (.v (.int .i64 0)))⟩] [])
  (.seq (.seq (.reg [⟨(some 8), none, .op (.fad 0 (.t 1))⟩,
  ⟨(some 9), none, .op (.load none (.t 8))⟩,
  ⟨(some 10), none, .op (.len .sl (.t 9))⟩,
  ⟨(some 11), none, .op (.bin .none .eql (.t 10) (.v (.int .i64 0)))⟩,
  ⟨(some 12), none, .op (.mv (.t 11))⟩,
  ⟨(some 13), some (12, false), .op (.fad 0 (.t 1))⟩,
  ⟨(some 14), some (12, false), .op (.load none (.t 13))⟩,
  ⟨(some 15), some (12, false), .op (.len .sl (.t 14))⟩,
  ⟨(some 16), some (12, false), .op (.bin .none .gtr (.t 15) (.v (.int .i64 255)))⟩,
  ⟨(some 17), none, .op (.pick (.t 12) (.v (.bool true)) (.t 16))⟩] [])
  (.cond (.t 17)
  (.seq (.reg [⟨(some 2), none, .op (.mv (.v .nils))⟩,
  ⟨(some 3), none, .op (.mv (.v (.int .i64 30)))⟩] [])
  .ret)
  .skip))
  (.seq (.reg [⟨(some 18), none, .op (.fad 0 (.t 1))⟩,
  ⟨(some 19), none, .op (.load none (.t 18))⟩,
  ⟨(some 20), none, .op (.len .sl (.t 19))⟩,
  ⟨(some 21), none, .op (.cint .u8 (.t 20))⟩,
  ⟨(some 22), none, .op (.bsl none [(.int .u8 0)] 3 [(0, 1, (.v (.int .u8 87))), (1, 1, (.v (.int .u8 76))), (2, 1, (.t 21))])⟩,
  ⟨(some 4), none, .op (.mv (.t 22))⟩] [])
  (.seq (.seq (.reg [⟨(some 23), none, .op (.fad 0 (.t 1))⟩,
  ⟨(some 24), none, .op (.load none (.t 23))⟩,
  ⟨(some 25), none, .op (.len .sl (.t 24))⟩,
  ⟨(some 26), none, .op (.mv (.v (.int .i64 0)))⟩] [])
  (.block 0 (.loop (.seq (.reg [⟨(some 27), none, .op (.bin .none .lss (.t 26) (.t 25))⟩] [])
  (.seq (.cond (.t 27)
  .skip
  (.exit 0))
  (.seq (.block 1 (.seq (.reg [⟨(some 28), none, .op (.iad none (some 5) (.t 24) (.t 26))⟩,
  ⟨(some 29), none, .op (.load (some 5) (.t 28))⟩,
  ⟨(some 6), none, .op (.new [(.int .i64 0), .nils, (.bool false), (.int .i64 0), .nils])⟩,
  ⟨none, none, .op (.store 5 (.t 6) (.t 29))⟩] [])
  (.seq (.reg [⟨(some 7), none, .op (.mv (.v (.bool false)))⟩] [])
  (.seq (.reg [⟨(some 31), none, .op (.mv (.t 4))⟩,
  ⟨(some 32), none, .op (.load (some 5) (.t 6))⟩,
  ⟨(some 33), none, .call 23 [(.t 31), (.t 32)]⟩,
  ⟨(some 30), none, .op (.mv (.t 33))⟩,
  ⟨(some 34), none, .op (.ext 0 (.t 30))⟩,
  ⟨(some 35), none, .op (.ext 1 (.t 30))⟩,
  ⟨(some 4), none, .op (.mv (.t 34))⟩,
  ⟨(some 7), none, .op (.mv (.t 35))⟩] [])
  (.seq (.reg [⟨(some 36), none, .op (.mv (.t 7))⟩,
  ⟨(some 37), none, .op (.un .not (.t 36))⟩] [])
  (.cond (.t 37)
  (.seq (.reg [⟨(some 2), none, .op (.mv (.v .nils))⟩,
  ⟨(some 3), none, .op (.mv (.v (.int .i64 30)))⟩] [])
  .ret)
  .skip))))))
  (.reg [⟨(some 38), none, .op (.bin .none .add (.t 26) (.v (.int .i64 1)))⟩,
  ⟨(some 26), none, .op (.mv (.t 38))⟩] [])))))))
  (.seq (.reg [⟨(some 39), none, .op (.mv (.t 4))⟩,
  ⟨(some 2), none, .op (.mv (.t 39))⟩,
  ⟨(some 3), none, .op (.mv (.v (.int .i64 0)))⟩] [])
  .ret)))))
theorem fn14 : Fn3 Try.prog 14 40 [(2, none), (3, none)] fc14 := ⟨_, _, Try.func14, rfl, rfl, rfl, by kernel_rfl⟩
def code_Encode_s (p_00 : Program) : Option ((List Int) × Int) :=
  (jp (fun (s_2 : Bool) => (if s_2 then (some ([], 30)) else ((rng (fun (i_4 : Nat) (f_5 : Func) (s_3 : (List Int)) => (((code_function_r_s s_3 f_5).bind fun (vfun_7 : (Bool × (List Int))) => (if (!vfun_7.1) then (some (.ret (some ([], 30)))) else (some (.nxt vfun_7.2)))) : Option (Stp (List Int) (Option ((List Int) × Int))))) p_00.Funcs ([87, 76, (U8 (List.length p_00.Funcs : Int))] : List Int)).bind (oc (fun (s_3 : (List Int)) => (some (s_3, 0))))))) (fun k_1 => (if ((List.length p_00.Funcs : Int) == 0) then (k_1 true) else (k_1 (decide ((List.length p_00.Funcs : Int) > 255))))))
theorem code_Encode_ev {p_00 : Program} {r : ((List Int) × Int)} (h : code_Encode_s p_00 = some r) : PureEv Try.prog 14 [(Program.av p_00)] (.tup [(.sl false 1 (List.map (avI .u8) r.1)), (.int .i64 r.2)]) := by
  unfold code_Encode_s at h
  refine PureEv_end mixed fn14 (by simp) [6, 22] 6 ?_
  unfold fc14
  refine E_sq ?_
  refine E_reg ?_
  refine E_op0 (v' := (.cptr (Program.av p_00).cells 0)) rfl rfl ?_
  refine E_mv (v' := .nils) rfl ?_
  refine E_mv (v' := (.int .i64 0)) rfl ?_
  refine E_nil ?_
  refine E_nx ?_
  refine E_as ?_
  refine E_jp h (fun s_2 => [(1, (.cptr (Program.av p_00).cells 0)), (17, (.bool s_2))]) (fun s_2 => []) (fun k_1 h => ?_) (fun s_2 h => ?_)
  · refine E_reg ?_
    refine E_op0 (v' := (.cptr (Program.av p_00).cells 0)) rfl rfl ?_
    refine E_op0 (v' := (.sl false 5 (List.map Func.av p_00.Funcs))) rfl rfl ?_
    refine E_len rfl ?_
    refine E_op0 (v' := (.bool ((List.length p_00.Funcs : Int) == 0))) rfl rfl ?_
    refine E_mv (v' := (.bool ((List.length p_00.Funcs : Int) == 0))) rfl ?_
    refine E_gsT (b := ((List.length p_00.Funcs : Int) == 0)) rfl rfl rfl (fun hb => ?_) (fun hb => ?_)
    · rw [ite_f hb] at h
      refine E_op0 (v' := (.cptr (Program.av p_00).cells 0)) rfl rfl ?_
      refine E_gh rfl ?_
      refine E_op0 (v' := (.sl false 5 (List.map Func.av p_00.Funcs))) rfl rfl ?_
      refine E_gh rfl ?_
      refine E_len rfl ?_
      refine E_gh rfl ?_
      refine E_op0 (v' := (.bool (decide ((List.length p_00.Funcs : Int) > 255)))) rfl rfl ?_
      refine E_pf rfl rfl ?_
      refine E_nil ?_
      exact E_jx _ h (wk_aw ⟨(.refl _), (.refl _), trivial⟩)
    · rw [ite_t hb] at h
      refine E_gm rfl ?_
      refine E_gm rfl ?_
      refine E_gm rfl ?_
      refine E_pt rfl rfl ?_
      refine E_nil ?_
      exact E_jx _ h (wk_aw ⟨(.refl _), (.refl _), trivial⟩)
  · refine E_sq ?_
    refine E_cs (t := s_2) rfl (fun hb => ?_) (fun hb => ?_)
    · rw [ite_t hb] at h
      refine E_sq ?_
      refine E_reg ?_
      refine E_mv (v' := .nils) rfl ?_
      refine E_mv (v' := (.int .i64 30)) rfl ?_
      refine E_nil ?_
      refine E_nx ?_
      refine E_ret ?_
      refine E_thr ?_
      cases h
      exact ⟨trivial, _, rfl, (fz_tup ⟨(fz_b rfl .nil), (fz_b rfl (.refl _)), trivial⟩)⟩
    · rw [ite_f hb] at h
      refine E_skip ?_
      refine E_nx ?_
      refine E_sq ?_
      refine E_reg ?_
      refine E_op0 (v' := (.cptr (Program.av p_00).cells 0)) rfl rfl ?_
      refine E_op0 (v' := (.sl false 5 (List.map Func.av p_00.Funcs))) rfl rfl ?_
      refine E_len rfl ?_
      refine E_op0 (v' := (.int .u8 (U8 (List.length p_00.Funcs : Int)))) rfl rfl ?_
      refine E_op (v' := (.ref 0 0 0 (List.length ([87, 76, (U8 (List.length p_00.Funcs : Int))] : List Int)) none)) (S' := [.arr 0 (flat (avI .u8) ([87, 76, (U8 (List.length p_00.Funcs : Int))] : List Int))]) rfl rfl rfl ?_
      refine E_mv (v' := (.ref 0 0 0 (List.length ([87, 76, (U8 (List.length p_00.Funcs : Int))] : List Int)) none)) rfl ?_
      refine E_nil ?_
      refine E_nx ?_
      refine E_as ?_
      refine E_sq ?_
      refine E_reg ?_
      refine E_op0 (v' := (.cptr (Program.av p_00).cells 0)) rfl rfl ?_
      refine E_op0 (v' := (.sl false 5 (List.map Func.av p_00.Funcs))) rfl rfl ?_
      refine E_len rfl ?_
      refine E_mv (v' := (.int .i64 0)) rfl ?_
      refine E_nil ?_
      refine E_nx ?_
      refine E_sq ?_
      refine E_rngO (fun s_3 => [(4, (.ref 0 1 0 (List.length s_3) none)), (24, (.sl false 5 (List.map Func.av p_00.Funcs)))]) (fun s_3 => [.arr 1 (flat (avI .u8) s_3)]) h (by decide) (by decide) (fun _ => ⟨rfl, rfl, rfl, rfl⟩) (wk_rn [some (0, 0)] rfl (Nat.le_of_ble_eq_true rfl) ⟨(rn_ob rfl rfl (.refl ((encI .u8).blwf 0 _)) rfl), trivial⟩ ⟨(rn_b rfl), (rn_b rfl), (rn_refL (encI .u8) rfl rfl rfl), (rn_b (Func.enc.blws 0)), trivial⟩) (fun i_4 f_5 s_3 c hx_6 hlt h => ?_) (fun s_3 fr' S' h hw => ?_)
      · refine E_sq ?_
        refine E_reg ?_
        refine E_iadF rfl rfl (getI_of hx_6) ?_
        refine E_op0 (v' := (Func.av f_5)) rfl rfl ?_
        refine E_op (v' := .ptr 1 0 0) (S' := [.arr 1 (flat (avI .u8) s_3), .arr 0 [(.int .i64 0), .nils, (.bool false), (.int .i64 0), .nils]]) rfl rfl rfl ?_
        refine E_do (S' := [.arr 1 (flat (avI .u8) s_3), .arr 0 [(.int .i64 f_5.Params), (.sl false 1 (List.map (avI .u8) f_5.Locals)), (.bool f_5.Result), (.int .i64 f_5.Keep), (.sl false 3 (List.map Instr.av f_5.Code))]]) rfl rfl ?_
        refine E_nil ?_
        refine E_nx ?_
        refine E_sq ?_
        refine E_reg ?_
        refine E_mv (v' := (.bool false)) rfl ?_
        refine E_nil ?_
        refine E_nx ?_
        refine E_sq ?_
        refine E_reg ?_
        refine E_mv (v' := (.ref 0 1 0 (List.length s_3) none)) rfl ?_
        refine E_opw (v' := (Func.av f_5)) rfl (.aggL ⟨(.refl _), (.refl _), (.refl _), (.refl _), (.refl _), trivial⟩) rfl ?_
        obtain ⟨vfun_7, hvfun_7, h⟩ := bd_some h
        refine E_callF (S' := [.dead 1, .arr 0 [(.int .i64 f_5.Params), (.sl false 1 (List.map (avI .u8) f_5.Locals)), (.bool f_5.Result), (.int .i64 f_5.Keep), (.sl false 3 (List.map Instr.av f_5.Code))], .arr 1 (flat (avI .u8) vfun_7.2)]) (r' := (.tup [(.ref 2 1 0 (List.length vfun_7.2) none), (.bool vfun_7.1)])) (code_function_r_ev hvfun_7) [0] rfl rfl (by decide) rfl rfl ⟨(fr_in rfl rfl (.refl ((encI .u8).blwf 0 _))), trivial⟩ ⟨(fr_outD rfl rfl rfl), (fr_outN rfl rfl (.refl ((encI .u8).blwf 0 _)) rfl), trivial⟩ ⟨.inl rfl, .inr rfl, trivial⟩ rfl (.cons (fi_ref rfl rfl rfl rfl) (.cons (.base (Func.enc.blw _ 0) (.refl _)) (.nil (Nat.zero_le _)))) (rn_tup ⟨(fo_ref rfl rfl rfl rfl), (rn_b rfl), trivial⟩) ?_
        refine E_mv (v' := (.tup [(.ref 2 1 0 (List.length vfun_7.2) none), (.bool vfun_7.1)])) rfl ?_
        refine E_op0 (v' := (.ref 2 1 0 (List.length vfun_7.2) none)) rfl rfl ?_
        refine E_op0 (v' := (.bool vfun_7.1)) rfl rfl ?_
        refine E_mv (v' := (.ref 2 1 0 (List.length vfun_7.2) none)) rfl ?_
        refine E_mv (v' := (.bool vfun_7.1)) rfl ?_
        refine E_nil ?_
        refine E_nx ?_
        refine E_sq ?_
        refine E_reg ?_
        refine E_mv (v' := (.bool vfun_7.1)) rfl ?_
        refine E_op0 (v' := (.bool (!vfun_7.1))) rfl rfl ?_
        refine E_nil ?_
        refine E_nx ?_
        refine E_cs (t := (!vfun_7.1)) rfl (fun hb => ?_) (fun hb => ?_)
        · rw [ite_t hb] at h
          refine E_sq ?_
          refine E_reg ?_
          refine E_mv (v' := .nils) rfl ?_
          refine E_mv (v' := (.int .i64 30)) rfl ?_
          refine E_nil ?_
          refine E_nx ?_
          refine E_ret ?_
          cases h
          refine L_rrO rfl (fun h => ?_)
          refine E_thr ?_
          cases h
          exact ⟨trivial, _, rfl, (fz_tup ⟨(fz_b rfl .nil), (fz_b rfl (.refl _)), trivial⟩)⟩
        · rw [ite_f hb] at h
          refine E_skip ?_
          cases h
          exact L_nn rfl (wk_rn [some (2, 0)] rfl (Nat.le_of_ble_eq_true rfl) ⟨(rn_ob rfl rfl (.refl ((encI .u8).blwf 0 _)) rfl), trivial⟩ ⟨(rn_b rfl), (rn_b rfl), (rn_refL (encI .u8) rfl rfl rfl), (rn_b (Func.enc.blws 0)), trivial⟩)
      · refine X_nx hw ?_
        refine E_sq ?_
        refine E_reg ?_
        refine E_mv (v' := (.ref 0 1 0 (List.length s_3) none)) rfl ?_
        refine E_mv (v' := (.ref 0 1 0 (List.length s_3) none)) rfl ?_
        refine E_mv (v' := (.int .i64 0)) rfl ?_
        refine E_nil ?_
        refine E_nx ?_
        refine E_ret ?_
        cases h
        exact ⟨trivial, _, rfl, (fz_tup ⟨(fz_ref (encI .u8) (Nat.zero_le _) rfl), (fz_b rfl (.refl _)), trivial⟩)⟩
/- windlass/code.Bounded -/
def fc15 : FC := (.seq (.reg [⟨(some 1), none, .op (.box (.t 0))⟩,
  ⟨(some 2), none, .op (.mv (.v (.bool false)))⟩] [])
  (.seq (.seq (.reg [⟨(some 5), none, .op (.fad 0 (.t 1))⟩,
  ⟨(some 6), none, .op (.load none (.t 5))⟩,
  ⟨(some 7), none, .op (.len .sl (.t 6))⟩,
  ⟨(some 8), none, .op (.mv (.v (.int .i64 0)))⟩] [])
  (.block 0 (.loop (.seq (.reg [⟨(some 9), none, .op (.bin .none .lss (.t 8) (.t 7))⟩] [])
  (.seq (.cond (.t 9)
  .skip
  (.exit 0))
  (.seq (.block 1 (.seq (.reg [⟨(some 10), none, .op (.iad none (some 5) (.t 6) (.t 8))⟩,
  ⟨(some 11), none, .op (.load (some 5) (.t 10))⟩,
  ⟨(some 4), none, .op (.new [(.int .i64 0), .nils, (.bool false), (.int .i64 0), .nils])⟩,
  ⟨none, none, .op (.store 5 (.t 4) (.t 11))⟩] [])
  (.seq (.reg [⟨(some 12), none, .op (.fad 0 (.t 4))⟩,
  ⟨(some 13), none, .op (.load none (.t 12))⟩,
  ⟨(some 14), none, .op (.bin .none .gtr (.t 13) (.v (.int .i64 4)))⟩,
  ⟨(some 15), none, .op (.mv (.t 14))⟩,
  ⟨(some 16), some (15, false), .op (.fad 1 (.t 4))⟩,
  ⟨(some 17), some (15, false), .op (.load none (.t 16))⟩,
  ⟨(some 18), some (15, false), .op (.len .sl (.t 17))⟩,
  ⟨(some 19), some (15, false), .op (.bin .none .gtr (.t 18) (.v (.int .i64 16)))⟩,
  ⟨(some 20), none, .op (.pick (.t 15) (.v (.bool true)) (.t 19))⟩,
  ⟨(some 21), none, .op (.mv (.t 20))⟩,
  ⟨(some 22), some (21, false), .op (.fad 4 (.t 4))⟩,
  ⟨(some 23), some (21, false), .op (.load none (.t 22))⟩,
  ⟨(some 24), some (21, false), .op (.len .sl (.t 23))⟩,
  ⟨(some 25), some (21, false), .op (.bin .none .gtr (.t 24) (.v (.int .i64 256)))⟩,
  ⟨(some 26), none, .op (.pick (.t 21) (.v (.bool true)) (.t 25))⟩] [])
  (.cond (.t 26)
  (.seq (.reg [⟨(some 2), none, .op (.mv (.v (.bool false)))⟩] [])
  .ret)
  .skip))))
  (.reg [⟨(some 27), none, .op (.bin .none .add (.t 8) (.v (.int .i64 1)))⟩,
  ⟨(some 8), none, .op (.mv (.t 27))⟩] [])))))))
  (.seq (.reg [⟨(some 28), none, .op (.fad 0 (.t 1))⟩,
  ⟨(some 29), none, .op (.load none (.t 28))⟩,
  ⟨(some 30), none, .op (.len .sl (.t 29))⟩,
  ⟨(some 31), none, .op (.bin .none .leq (.t 30) (.v (.int .i64 16)))⟩,
  ⟨(some 2), none, .op (.mv (.t 31))⟩] [])
  .ret)))
theorem fn15 : Fn3 Try.prog 15 32 [(2, none)] fc15 := ⟨_, _, Try.func15, rfl, rfl, rfl, by kernel_rfl⟩
def code_Bounded_s (p_00 : Program) : Option Bool :=
  ((rng (fun (i_2 : Nat) (f_3 : Func) (s_1 : Unit) => ((jp (fun (s_6 : Bool) => (if s_6 then (some (.ret (some false))) else (some (.nxt ())))) (fun k_5 => (if (decide (f_3.Params > 4)) then (k_5 true) else (if (decide ((List.length f_3.Locals : Int) > 16)) then (k_5 true) else (k_5 (decide ((List.length f_3.Code : Int) > 256))))))) : Option (Stp Unit (Option Bool)))) p_00.Funcs ()).bind (oc (fun (s_1 : Unit) => (some (decide ((List.length p_00.Funcs : Int) ≤ 16))))))
theorem code_Bounded_ev {p_00 : Program} {r : Bool} (h : code_Bounded_s p_00 = some r) : PureEv Try.prog 15 [(Program.av p_00)] (.bool r) := by
  unfold code_Bounded_s at h
  refine PureEv_end mixed fn15 (by simp) [4] 6 ?_
  unfold fc15
  refine E_sq ?_
  refine E_reg ?_
  refine E_op0 (v' := (.cptr (Program.av p_00).cells 0)) rfl rfl ?_
  refine E_mv (v' := (.bool false)) rfl ?_
  refine E_nil ?_
  refine E_nx ?_
  refine E_as ?_
  refine E_sq ?_
  refine E_reg ?_
  refine E_op0 (v' := (.cptr (Program.av p_00).cells 0)) rfl rfl ?_
  refine E_op0 (v' := (.sl false 5 (List.map Func.av p_00.Funcs))) rfl rfl ?_
  refine E_len rfl ?_
  refine E_mv (v' := (.int .i64 0)) rfl ?_
  refine E_nil ?_
  refine E_nx ?_
  refine E_sq ?_
  refine E_rngO (fun s_1 => [(1, (.cptr (Program.av p_00).cells 0)), (6, (.sl false 5 (List.map Func.av p_00.Funcs)))]) (fun s_1 => []) h (by decide) (by decide) (fun _ => ⟨rfl, rfl, rfl, rfl⟩) (wk_aw ⟨(.refl _), (.refl _), (.refl _), (.refl _), trivial⟩) (fun i_2 f_3 s_1 c hx_4 hlt h => ?_) (fun s_1 fr' S' h hw => ?_)
  · refine E_sq ?_
    refine E_reg ?_
    refine E_iadF rfl rfl (getI_of hx_4) ?_
    refine E_op0 (v' := (Func.av f_3)) rfl rfl ?_
    refine E_op (v' := .ptr 0 0 0) (S' := [.arr 0 [(.int .i64 0), .nils, (.bool false), (.int .i64 0), .nils]]) rfl rfl rfl ?_
    refine E_do (S' := [.arr 0 [(.int .i64 f_3.Params), (.sl false 1 (List.map (avI .u8) f_3.Locals)), (.bool f_3.Result), (.int .i64 f_3.Keep), (.sl false 3 (List.map Instr.av f_3.Code))]]) rfl rfl ?_
    refine E_nil ?_
    refine E_nx ?_
    refine E_jp h (fun s_6 => [(1, (.cptr (Program.av p_00).cells 0)), (6, (.sl false 5 (List.map Func.av p_00.Funcs))), (7, (.int .i64 (List.length p_00.Funcs : Int))), (8, (.int .i64 (i_2 : Int))), (26, (.bool s_6))]) (fun s_6 => []) (fun k_5 h => ?_) (fun s_6 h => ?_)
    · refine E_reg ?_
      refine E_op0 (v' := (.ptr 0 0 0)) rfl rfl ?_
      refine E_op (v' := (.int .i64 f_3.Params)) (S' := [.arr 0 [(.int .i64 f_3.Params), (.sl false 1 (List.map (avI .u8) f_3.Locals)), (.bool f_3.Result), (.int .i64 f_3.Keep), (.sl false 3 (List.map Instr.av f_3.Code))]]) rfl rfl rfl ?_
      refine E_op0 (v' := (.bool (decide (f_3.Params > 4)))) rfl rfl ?_
      refine E_mv (v' := (.bool (decide (f_3.Params > 4)))) rfl ?_
      refine E_gsT (b := (decide (f_3.Params > 4))) rfl rfl rfl (fun hb => ?_) (fun hb => ?_)
      · rw [ite_f hb] at h
        refine E_op0 (v' := (.ptr 0 0 1)) rfl rfl ?_
        refine E_gh rfl ?_
        refine E_op (v' := (.sl false 1 (List.map (avI .u8) f_3.Locals))) (S' := [.arr 0 [(.int .i64 f_3.Params), (.sl false 1 (List.map (avI .u8) f_3.Locals)), (.bool f_3.Result), (.int .i64 f_3.Keep), (.sl false 3 (List.map Instr.av f_3.Code))]]) rfl rfl rfl ?_
        refine E_gh rfl ?_
        refine E_len rfl ?_
        refine E_gh rfl ?_
        refine E_op0 (v' := (.bool (decide ((List.length f_3.Locals : Int) > 16)))) rfl rfl ?_
        refine E_pf rfl rfl ?_
        refine E_mv (v' := (.bool (decide ((List.length f_3.Locals : Int) > 16)))) rfl ?_
        refine E_gsT (b := (decide ((List.length f_3.Locals : Int) > 16))) rfl rfl rfl (fun hb => ?_) (fun hb => ?_)
        · rw [ite_f hb] at h
          refine E_op0 (v' := (.ptr 0 0 4)) rfl rfl ?_
          refine E_gh rfl ?_
          refine E_op (v' := (.sl false 3 (List.map Instr.av f_3.Code))) (S' := [.arr 0 [(.int .i64 f_3.Params), (.sl false 1 (List.map (avI .u8) f_3.Locals)), (.bool f_3.Result), (.int .i64 f_3.Keep), (.sl false 3 (List.map Instr.av f_3.Code))]]) rfl rfl rfl ?_
          refine E_gh rfl ?_
          refine E_len rfl ?_
          refine E_gh rfl ?_
          refine E_op0 (v' := (.bool (decide ((List.length f_3.Code : Int) > 256)))) rfl rfl ?_
          refine E_pf rfl rfl ?_
          refine E_nil ?_
          exact E_jx _ h (wk_rn [] rfl (Nat.le_of_ble_eq_true rfl) trivial ⟨(rn_b (cp_blw (Program.enc.blw _ 0))), (rn_b (Func.enc.blws 0)), (rn_b rfl), (rn_b rfl), (rn_b rfl), trivial⟩)
        · rw [ite_t hb] at h
          refine E_gm rfl ?_
          refine E_gm rfl ?_
          refine E_gm rfl ?_
          refine E_pt rfl rfl ?_
          refine E_nil ?_
          exact E_jx _ h (wk_rn [] rfl (Nat.le_of_ble_eq_true rfl) trivial ⟨(rn_b (cp_blw (Program.enc.blw _ 0))), (rn_b (Func.enc.blws 0)), (rn_b rfl), (rn_b rfl), (rn_b rfl), trivial⟩)
      · rw [ite_t hb] at h
        refine E_gm rfl ?_
        refine E_gm rfl ?_
        refine E_gm rfl ?_
        refine E_pt rfl rfl ?_
        refine E_mv (v' := (.bool true)) rfl ?_
        refine E_gm rfl ?_
        refine E_gm rfl ?_
        refine E_gm rfl ?_
        refine E_gm rfl ?_
        refine E_pt rfl rfl ?_
        refine E_nil ?_
        exact E_jx _ h (wk_rn [] rfl (Nat.le_of_ble_eq_true rfl) trivial ⟨(rn_b (cp_blw (Program.enc.blw _ 0))), (rn_b (Func.enc.blws 0)), (rn_b rfl), (rn_b rfl), (rn_b rfl), trivial⟩)
    · refine E_cs (t := s_6) rfl (fun hb => ?_) (fun hb => ?_)
      · rw [ite_t hb] at h
        refine E_sq ?_
        refine E_reg ?_
        refine E_mv (v' := (.bool false)) rfl ?_
        refine E_nil ?_
        refine E_nx ?_
        refine E_ret ?_
        cases h
        refine L_rrO rfl (fun h => ?_)
        refine E_thr ?_
        cases h
        exact ⟨trivial, _, rfl, (fz_b rfl (.refl _))⟩
      · rw [ite_f hb] at h
        refine E_skip ?_
        cases h
        exact L_nn rfl (wk_aw ⟨(.refl _), (.refl _), (.refl _), (.refl _), trivial⟩)
  · refine X_nx hw ?_
    refine E_sq ?_
    refine E_reg ?_
    refine E_op0 (v' := (.cptr (Program.av p_00).cells 0)) rfl rfl ?_
    refine E_op0 (v' := (.sl false 5 (List.map Func.av p_00.Funcs))) rfl rfl ?_
    refine E_len rfl ?_
    refine E_op0 (v' := (.bool (decide ((List.length p_00.Funcs : Int) ≤ 16)))) rfl rfl ?_
    refine E_mv (v' := (.bool (decide ((List.length p_00.Funcs : Int) ≤ 16)))) rfl ?_
    refine E_nil ?_
    refine E_nx ?_
    refine E_ret ?_
    cases h
    exact ⟨trivial, _, rfl, (fz_b rfl (.refl _))⟩
/- windlass/kinds.names -/
def fc24 : FC := (.seq (.reg [⟨(some 3), none, .op (.box (.t 0))⟩,
  ⟨(some 4), none, .op (.box (.t 1))⟩,
  ⟨(some 5), none, .op (.box (.t 2))⟩,
  ⟨(some 6), none, .op (.mv (.v (.bool false)))⟩] [])
  (.seq (.seq (.reg [⟨(some 7), none, .op (.fad 0 (.t 5))⟩,
  ⟨(some 8), none, .op (.load none (.t 7))⟩] [])
  (.block 0 (.seq (.seq (.reg [⟨(some 10), none, .op (.bin .none .eql (.t 8) (.v (.int .u8 2)))⟩,
  ⟨(some 9), none, .op (.mv (.t 10))⟩] [])
  (.cond (.t 9)
  .skip
  (.reg [⟨(some 11), none, .op (.bin .none .eql (.t 8) (.v (.int .u8 3)))⟩,
  ⟨(some 9), none, .op (.mv (.t 11))⟩] [])))
  (.cond (.t 9)
  (.seq (.reg [⟨(some 12), none, .op (.fad 1 (.t 5))⟩,
  ⟨(some 13), none, .op (.load none (.t 12))⟩,
  ⟨(some 14), none, .op (.fad 1 (.t 4))⟩,
  ⟨(some 15), none, .op (.load none (.t 14))⟩,
  ⟨(some 16), none, .op (.len .sl (.t 15))⟩,
  ⟨(some 17), none, .op (.bin .none .lss (.t 13) (.t 16))⟩,
  ⟨(some 6), none, .op (.mv (.t 17))⟩] [])
  .ret)
  (.seq (.reg [⟨(some 19), none, .op (.bin .none .eql (.t 8) (.v (.int .u8 4)))⟩,
  ⟨(some 18), none, .op (.mv (.t 19))⟩] [])
  (.cond (.t 18)
  (.seq (.reg [⟨(some 20), none, .op (.fad 1 (.t 5))⟩,
  ⟨(some 21), none, .op (.load none (.t 20))⟩,
  ⟨(some 22), none, .op (.fad 1 (.t 4))⟩,
  ⟨(some 23), none, .op (.load none (.t 22))⟩,
  ⟨(some 24), none, .op (.len .sl (.t 23))⟩,
  ⟨(some 25), none, .op (.bin .none .lss (.t 21) (.t 24))⟩,
  ⟨(some 26), none, .op (.mv (.t 25))⟩,
  ⟨(some 27), some (26, true), .op (.fad 1 (.t 4))⟩,
  ⟨(some 28), some (26, true), .op (.load none (.t 27))⟩,
  ⟨(some 29), some (26, true), .op (.fad 1 (.t 5))⟩,
  ⟨(some 30), some (26, true), .op (.load none (.t 29))⟩,
  ⟨(some 31), some (26, true), .op (.iad none none (.t 28) (.t 30))⟩,
  ⟨(some 32), some (26, true), .op (.load none (.t 31))⟩,
  ⟨(some 33), some (26, true), .op (.bin .none .eql (.t 32) (.v (.int .u8 0)))⟩,
  ⟨(some 34), none, .op (.pick (.t 26) (.t 33) (.v (.bool false)))⟩,
  ⟨(some 6), none, .op (.mv (.t 34))⟩] [])
  .ret)
  (.seq (.seq (.reg [⟨(some 36), none, .op (.bin .none .eql (.t 8) (.v (.int .u8 23)))⟩,
  ⟨(some 35), none, .op (.mv (.t 36))⟩] [])
  (.cond (.t 35)
  .skip
  (.reg [⟨(some 37), none, .op (.bin .none .eql (.t 8) (.v (.int .u8 25)))⟩,
  ⟨(some 35), none, .op (.mv (.t 37))⟩] [])))
  (.cond (.t 35)
  (.seq (.reg [⟨(some 38), none, .op (.fad 1 (.t 5))⟩,
  ⟨(some 39), none, .op (.load none (.t 38))⟩,
  ⟨(some 40), none, .op (.fad 0 (.t 3))⟩,
  ⟨(some 41), none, .op (.load none (.t 40))⟩,
  ⟨(some 42), none, .op (.len .sl (.t 41))⟩,
  ⟨(some 43), none, .op (.bin .none .lss (.t 39) (.t 42))⟩,
  ⟨(some 6), none, .op (.mv (.t 43))⟩] [])
  .ret)
  (.seq (.seq (.reg [⟨(some 45), none, .op (.bin .none .eql (.t 8) (.v (.int .u8 21)))⟩,
  ⟨(some 44), none, .op (.mv (.t 45))⟩] [])
  (.cond (.t 44)
  .skip
  (.reg [⟨(some 46), none, .op (.bin .none .eql (.t 8) (.v (.int .u8 22)))⟩,
  ⟨(some 44), none, .op (.mv (.t 46))⟩] [])))
  (.cond (.t 44)
  (.seq (.reg [⟨(some 47), none, .op (.fad 1 (.t 5))⟩,
  ⟨(some 48), none, .op (.load none (.t 47))⟩,
  ⟨(some 49), none, .op (.fad 4 (.t 4))⟩,
  ⟨(some 50), none, .op (.load none (.t 49))⟩,
  ⟨(some 51), none, .op (.len .sl (.t 50))⟩,
  ⟨(some 52), none, .op (.bin .none .lss (.t 48) (.t 51))⟩,
  ⟨(some 6), none, .op (.mv (.t 52))⟩] [])
  .ret)
  .skip))))))))))
  (.seq (.reg [⟨(some 6), none, .op (.mv (.v (.bool true)))⟩] [])
  .ret)))
theorem fn24 : Fn3 Try.prog 24 53 [(6, none)] fc24 := ⟨_, _, Try.func24, rfl, rfl, rfl, by kernel_rfl⟩
def kinds_names_s (p_00 : Program) (f_01 : Func) (i_02 : Instr) : Option Bool :=
  (jp (fun (s_2 : (Func × Instr × Int × Bool)) => (if s_2.2.2.2 then (some (decide (s_2.2.1.Arg < (List.length s_2.1.Locals : Int)))) else (if (s_2.2.2.1 == 4) then (jp (fun (s_4 : Bool) => (some s_4)) (fun k_3 => (if (decide (s_2.2.1.Arg < (List.length s_2.1.Locals : Int))) then ((getI s_2.1.Locals s_2.2.1.Arg).bind fun y_5 => (k_3 (y_5 == 0))) else (k_3 false)))) else (jp (fun (s_7 : Bool) => (if s_7 then (some (decide (s_2.2.1.Arg < (List.length p_00.Funcs : Int)))) else (jp (fun (s_9 : Bool) => (if s_9 then (some (decide (s_2.2.1.Arg < (List.length s_2.1.Code : Int)))) else (some true))) (fun k_8 => (if (s_2.2.2.1 == 21) then (k_8 (s_2.2.2.1 == 21)) else (k_8 (s_2.2.2.1 == 22))))))) (fun k_6 => (if (s_2.2.2.1 == 23) then (k_6 (s_2.2.2.1 == 23)) else (k_6 (s_2.2.2.1 == 25)))))))) (fun k_1 => (if (i_02.Op == 2) then (k_1 (f_01, i_02, i_02.Op, (i_02.Op == 2))) else (k_1 (f_01, i_02, i_02.Op, (i_02.Op == 3))))))
theorem kinds_names_ev {p_00 : Program} {f_01 : Func} {i_02 : Instr} {r : Bool} (h : kinds_names_s p_00 f_01 i_02 = some r) : PureEv Try.prog 24 [(Program.av p_00), (Func.av f_01), (Instr.av i_02)] (.bool r) := by
  unfold kinds_names_s at h
  refine PureEv_end mixed fn24 (by simp) [] 6 ?_
  unfold fc24
  refine E_sq ?_
  refine E_reg ?_
  refine E_op0 (v' := (.cptr (Program.av p_00).cells 0)) rfl rfl ?_
  refine E_op0 (v' := (.cptr (Func.av f_01).cells 0)) rfl rfl ?_
  refine E_op0 (v' := (.cptr (Instr.av i_02).cells 0)) rfl rfl ?_
  refine E_mv (v' := (.bool false)) rfl ?_
  refine E_nil ?_
  refine E_nx ?_
  refine E_as ?_
  refine E_sq ?_
  refine E_reg ?_
  refine E_op0 (v' := (.cptr (Instr.av i_02).cells 0)) rfl rfl ?_
  refine E_op0 (v' := (.int .u8 i_02.Op)) rfl rfl ?_
  refine E_nil ?_
  refine E_nx ?_
  refine E_sq ?_
  refine E_block ?_
  refine E_as ?_
  refine E_sq ?_
  refine E_reg ?_
  refine E_op0 (v' := (.bool (i_02.Op == 2))) rfl rfl ?_
  refine E_mv (v' := (.bool (i_02.Op == 2))) rfl ?_
  refine E_nil ?_
  refine E_nx ?_
  refine E_jp h (fun s_2 => [(3, (.cptr (Program.av p_00).cells 0)), (4, (.cptr (Func.av s_2.1).cells 0)), (5, (.cptr (Instr.av s_2.2.1).cells 0)), (8, (.int .u8 s_2.2.2.1)), (9, (.bool s_2.2.2.2))]) (fun s_2 => []) (fun k_1 h => ?_) (fun s_2 h => ?_)
  · refine E_cs (t := (i_02.Op == 2)) rfl (fun hb => ?_) (fun hb => ?_)
    · rw [ite_t hb] at h
      refine E_skip ?_
      exact E_jx _ h (wk_aw ⟨(.refl _), (.refl _), (.refl _), (.refl _), (.refl _), trivial⟩)
    · rw [ite_f hb] at h
      refine E_reg ?_
      refine E_op0 (v' := (.bool (i_02.Op == 3))) rfl rfl ?_
      refine E_mv (v' := (.bool (i_02.Op == 3))) rfl ?_
      refine E_nil ?_
      exact E_jx _ h (wk_aw ⟨(.refl _), (.refl _), (.refl _), (.refl _), (.refl _), trivial⟩)
  · refine E_cs (t := s_2.2.2.2) rfl (fun hb => ?_) (fun hb => ?_)
    · rw [ite_t hb] at h
      refine E_sq ?_
      refine E_reg ?_
      refine E_op0 (v' := (.cptr (Instr.av s_2.2.1).cells 1)) rfl rfl ?_
      refine E_op0 (v' := (.int .i64 s_2.2.1.Arg)) rfl rfl ?_
      refine E_op0 (v' := (.cptr (Func.av s_2.1).cells 1)) rfl rfl ?_
      refine E_op0 (v' := (.sl false 1 (List.map (avI .u8) s_2.1.Locals))) rfl rfl ?_
      refine E_len rfl ?_
      refine E_op0 (v' := (.bool (decide (s_2.2.1.Arg < (List.length s_2.1.Locals : Int))))) rfl rfl ?_
      refine E_mv (v' := (.bool (decide (s_2.2.1.Arg < (List.length s_2.1.Locals : Int))))) rfl ?_
      refine E_nil ?_
      refine E_nx ?_
      refine E_ret ?_
      refine E_blr ?_
      refine E_thr ?_
      cases h
      exact ⟨trivial, _, rfl, (fz_b rfl (.refl _))⟩
    · rw [ite_f hb] at h
      refine E_sq ?_
      refine E_reg ?_
      refine E_op0 (v' := (.bool (s_2.2.2.1 == 4))) rfl rfl ?_
      refine E_mv (v' := (.bool (s_2.2.2.1 == 4))) rfl ?_
      refine E_nil ?_
      refine E_nx ?_
      refine E_cs (t := (s_2.2.2.1 == 4)) rfl (fun hb => ?_) (fun hb => ?_)
      · rw [ite_t hb] at h
        refine E_jp h (fun s_4 => [(6, (.bool s_4))]) (fun s_4 => []) (fun k_3 h => ?_) (fun s_4 h => ?_)
        · refine E_reg ?_
          refine E_op0 (v' := (.cptr (Instr.av s_2.2.1).cells 1)) rfl rfl ?_
          refine E_op0 (v' := (.int .i64 s_2.2.1.Arg)) rfl rfl ?_
          refine E_op0 (v' := (.cptr (Func.av s_2.1).cells 1)) rfl rfl ?_
          refine E_op0 (v' := (.sl false 1 (List.map (avI .u8) s_2.1.Locals))) rfl rfl ?_
          refine E_len rfl ?_
          refine E_op0 (v' := (.bool (decide (s_2.2.1.Arg < (List.length s_2.1.Locals : Int))))) rfl rfl ?_
          refine E_mv (v' := (.bool (decide (s_2.2.1.Arg < (List.length s_2.1.Locals : Int))))) rfl ?_
          refine E_gsT (b := (decide (s_2.2.1.Arg < (List.length s_2.1.Locals : Int)))) rfl rfl rfl (fun hb => ?_) (fun hb => ?_)
          · rw [ite_t hb] at h
            refine E_op0 (v' := (.cptr (Func.av s_2.1).cells 1)) rfl rfl ?_
            refine E_gh rfl ?_
            refine E_op0 (v' := (.sl false 1 (List.map (avI .u8) s_2.1.Locals))) rfl rfl ?_
            refine E_gh rfl ?_
            refine E_op0 (v' := (.cptr (Instr.av s_2.2.1).cells 1)) rfl rfl ?_
            refine E_gh rfl ?_
            refine E_op0 (v' := (.int .i64 s_2.2.1.Arg)) rfl rfl ?_
            refine E_gh rfl ?_
            obtain ⟨y_5, hy_5, h⟩ := bd_some h
            refine E_iadF rfl rfl hy_5 ?_
            refine E_gh rfl ?_
            refine E_op0 (v' := (.int .u8 y_5)) rfl rfl ?_
            refine E_gh rfl ?_
            refine E_op0 (v' := (.bool (y_5 == 0))) rfl rfl ?_
            refine E_pt rfl rfl ?_
            refine E_mv (v' := (.bool (y_5 == 0))) rfl ?_
            refine E_nil ?_
            exact E_jx _ h (wk_aw ⟨(.refl _), trivial⟩)
          · rw [ite_f hb] at h
            refine E_gm rfl ?_
            refine E_gm rfl ?_
            refine E_gm rfl ?_
            refine E_gm rfl ?_
            refine E_gm rfl ?_
            refine E_gm rfl ?_
            refine E_pf rfl rfl ?_
            refine E_mv (v' := (.bool false)) rfl ?_
            refine E_nil ?_
            exact E_jx _ h (wk_aw ⟨(.refl _), trivial⟩)
        · refine E_ret ?_
          refine E_blr ?_
          refine E_thr ?_
          cases h
          exact ⟨trivial, _, rfl, (fz_b rfl (.refl _))⟩
      · rw [ite_f hb] at h
        refine E_as ?_
        refine E_sq ?_
        refine E_reg ?_
        refine E_op0 (v' := (.bool (s_2.2.2.1 == 23))) rfl rfl ?_
        refine E_mv (v' := (.bool (s_2.2.2.1 == 23))) rfl ?_
        refine E_nil ?_
        refine E_nx ?_
        refine E_jp h (fun s_7 => [(3, (.cptr (Program.av p_00).cells 0)), (4, (.cptr (Func.av s_2.1).cells 0)), (5, (.cptr (Instr.av s_2.2.1).cells 0)), (8, (.int .u8 s_2.2.2.1)), (35, (.bool s_7))]) (fun s_7 => []) (fun k_6 h => ?_) (fun s_7 h => ?_)
        · refine E_cs (t := (s_2.2.2.1 == 23)) rfl (fun hb => ?_) (fun hb => ?_)
          · rw [ite_t hb] at h
            refine E_skip ?_
            exact E_jx _ h (wk_aw ⟨(.refl _), (.refl _), (.refl _), (.refl _), (.refl _), trivial⟩)
          · rw [ite_f hb] at h
            refine E_reg ?_
            refine E_op0 (v' := (.bool (s_2.2.2.1 == 25))) rfl rfl ?_
            refine E_mv (v' := (.bool (s_2.2.2.1 == 25))) rfl ?_
            refine E_nil ?_
            exact E_jx _ h (wk_aw ⟨(.refl _), (.refl _), (.refl _), (.refl _), (.refl _), trivial⟩)
        · refine E_cs (t := s_7) rfl (fun hb => ?_) (fun hb => ?_)
          · rw [ite_t hb] at h
            refine E_sq ?_
            refine E_reg ?_
            refine E_op0 (v' := (.cptr (Instr.av s_2.2.1).cells 1)) rfl rfl ?_
            refine E_op0 (v' := (.int .i64 s_2.2.1.Arg)) rfl rfl ?_
            refine E_op0 (v' := (.cptr (Program.av p_00).cells 0)) rfl rfl ?_
            refine E_op0 (v' := (.sl false 5 (List.map Func.av p_00.Funcs))) rfl rfl ?_
            refine E_len rfl ?_
            refine E_op0 (v' := (.bool (decide (s_2.2.1.Arg < (List.length p_00.Funcs : Int))))) rfl rfl ?_
            refine E_mv (v' := (.bool (decide (s_2.2.1.Arg < (List.length p_00.Funcs : Int))))) rfl ?_
            refine E_nil ?_
            refine E_nx ?_
            refine E_ret ?_
            refine E_blr ?_
            refine E_thr ?_
            cases h
            exact ⟨trivial, _, rfl, (fz_b rfl (.refl _))⟩
          · rw [ite_f hb] at h
            refine E_as ?_
            refine E_sq ?_
            refine E_reg ?_
            refine E_op0 (v' := (.bool (s_2.2.2.1 == 21))) rfl rfl ?_
            refine E_mv (v' := (.bool (s_2.2.2.1 == 21))) rfl ?_
            refine E_nil ?_
            refine E_nx ?_
            refine E_jp h (fun s_9 => [(4, (.cptr (Func.av s_2.1).cells 0)), (5, (.cptr (Instr.av s_2.2.1).cells 0)), (44, (.bool s_9))]) (fun s_9 => []) (fun k_8 h => ?_) (fun s_9 h => ?_)
            · refine E_cs (t := (s_2.2.2.1 == 21)) rfl (fun hb => ?_) (fun hb => ?_)
              · rw [ite_t hb] at h
                refine E_skip ?_
                exact E_jx _ h (wk_aw ⟨(.refl _), (.refl _), (.refl _), trivial⟩)
              · rw [ite_f hb] at h
                refine E_reg ?_
                refine E_op0 (v' := (.bool (s_2.2.2.1 == 22))) rfl rfl ?_
                refine E_mv (v' := (.bool (s_2.2.2.1 == 22))) rfl ?_
                refine E_nil ?_
                exact E_jx _ h (wk_aw ⟨(.refl _), (.refl _), (.refl _), trivial⟩)
            · refine E_cs (t := s_9) rfl (fun hb => ?_) (fun hb => ?_)
              · rw [ite_t hb] at h
                refine E_sq ?_
                refine E_reg ?_
                refine E_op0 (v' := (.cptr (Instr.av s_2.2.1).cells 1)) rfl rfl ?_
                refine E_op0 (v' := (.int .i64 s_2.2.1.Arg)) rfl rfl ?_
                refine E_op0 (v' := (.cptr (Func.av s_2.1).cells 4)) rfl rfl ?_
                refine E_op0 (v' := (.sl false 3 (List.map Instr.av s_2.1.Code))) rfl rfl ?_
                refine E_len rfl ?_
                refine E_op0 (v' := (.bool (decide (s_2.2.1.Arg < (List.length s_2.1.Code : Int))))) rfl rfl ?_
                refine E_mv (v' := (.bool (decide (s_2.2.1.Arg < (List.length s_2.1.Code : Int))))) rfl ?_
                refine E_nil ?_
                refine E_nx ?_
                refine E_ret ?_
                refine E_blr ?_
                refine E_thr ?_
                cases h
                exact ⟨trivial, _, rfl, (fz_b rfl (.refl _))⟩
              · rw [ite_f hb] at h
                refine E_skip ?_
                refine E_bln ?_
                refine E_nx ?_
                refine E_sq ?_
                refine E_reg ?_
                refine E_mv (v' := (.bool true)) rfl ?_
                refine E_nil ?_
                refine E_nx ?_
                refine E_ret ?_
                cases h
                exact ⟨trivial, _, rfl, (fz_b rfl (.refl _))⟩
/- windlass/kinds.head -/
def fc16 : FC := (.seq (.reg [⟨(some 2), none, .op (.box (.t 0))⟩,
  ⟨(some 3), none, .op (.box (.t 1))⟩,
  ⟨(some 4), none, .op (.mv (.v (.bool false)))⟩] [])
  (.seq (.seq (.reg [⟨(some 7), none, .op (.fad 4 (.t 3))⟩,
  ⟨(some 8), none, .op (.load none (.t 7))⟩,
  ⟨(some 9), none, .op (.len .sl (.t 8))⟩,
  ⟨(some 10), none, .op (.bin .none .eql (.t 9) (.v (.int .i64 0)))⟩,
  ⟨(some 11), none, .op (.mv (.t 10))⟩,
  ⟨(some 12), some (11, false), .op (.fad 3 (.t 3))⟩,
  ⟨(some 13), some (11, false), .op (.load none (.t 12))⟩,
  ⟨(some 14), some (11, false), .op (.fad 1 (.t 3))⟩,
  ⟨(some 15), some (11, false), .op (.load none (.t 14))⟩,
  ⟨(some 16), some (11, false), .op (.len .sl (.t 15))⟩,
  ⟨(some 17), some (11, false), .op (.bin .none .geq (.t 13) (.t 16))⟩,
  ⟨(some 18), none, .op (.pick (.t 11) (.v (.bool true)) (.t 17))⟩,
  ⟨(some 19), none, .op (.mv (.t 18))⟩,
  ⟨(some 20), some (19, false), .op (.fad 3 (.t 3))⟩,
  ⟨(some 21), some (19, false), .op (.load none (.t 20))⟩,
  ⟨(some 22), some (19, false), .op (.bin .none .geq (.t 21) (.v (.int .i64 0)))⟩,
  ⟨(some 23), some (19, false), .op (.mv (.t 22))⟩,
  ⟨(some 24), some (23, true), .op (.fad 1 (.t 3))⟩,
  ⟨(some 25), some (23, true), .op (.load none (.t 24))⟩,
  ⟨(some 26), some (23, true), .op (.fad 3 (.t 3))⟩,
  ⟨(some 27), some (23, true), .op (.load none (.t 26))⟩,
  ⟨(some 28), some (23, true), .op (.iad none none (.t 25) (.t 27))⟩,
  ⟨(some 29), some (23, true), .op (.load none (.t 28))⟩,
  ⟨(some 30), some (23, true), .op (.bin .none .neq (.t 29) (.v (.int .u8 0)))⟩,
  ⟨(some 31), some (19, false), .op (.pick (.t 23) (.t 30) (.v (.bool false)))⟩,
  ⟨(some 32), none, .op (.pick (.t 19) (.v (.bool true)) (.t 31))⟩] [])
  (.cond (.t 32)
  (.seq (.reg [⟨(some 4), none, .op (.mv (.v (.bool false)))⟩] [])
  .ret)
  .skip))
  (.seq (.seq (.reg [⟨(some 33), none, .op (.fad 4 (.t 3))⟩,
  ⟨(some 34), none, .op (.load none (.t 33))⟩,
  ⟨(some 35), none, .op (.len .sl (.t 34))⟩,
  ⟨(some 36), none, .op (.mv (.v (.int .i64 0)))⟩] [])
  (.block 0 (.loop (.seq (.reg [⟨(some 37), none, .op (.bin .none .lss (.t 36) (.t 35))⟩] [])
  (.seq (.cond (.t 37)
  .skip
  (.exit 0))
  (.seq (.block 1 (.seq (.reg [⟨(some 38), none, .op (.iad none (some 3) (.t 34) (.t 36))⟩,
  ⟨(some 39), none, .op (.load (some 3) (.t 38))⟩,
  ⟨(some 6), none, .op (.new [(.int .u8 0), (.int .i64 0), (.int .u64 0)])⟩,
  ⟨none, none, .op (.store 3 (.t 6) (.t 39))⟩] [])
  (.seq (.reg [⟨(some 40), none, .op (.load (some 1) (.t 2))⟩,
  ⟨(some 41), none, .op (.load (some 5) (.t 3))⟩,
  ⟨(some 42), none, .op (.load (some 3) (.t 6))⟩,
  ⟨(some 43), none, .call 24 [(.t 40), (.t 41), (.t 42)]⟩,
  ⟨(some 44), none, .op (.un .not (.t 43))⟩,
  ⟨(some 45), none, .op (.mv (.t 44))⟩,
  ⟨(some 46), some (45, false), .op (.fad 0 (.t 6))⟩,
  ⟨(some 47), some (45, false), .op (.load none (.t 46))⟩,
  ⟨(some 48), some (45, false), .op (.bin .none .eql (.t 47) (.v (.int .u8 25)))⟩,
  ⟨(some 49), some (45, false), .op (.mv (.t 48))⟩,
  ⟨(some 50), some (49, true), .op (.fad 2 (.t 3))⟩,
  ⟨(some 51), some (49, true), .op (.load none (.t 50))⟩,
  ⟨(some 52), some (45, false), .op (.pick (.t 49) (.t 51) (.v (.bool false)))⟩,
  ⟨(some 53), some (45, false), .op (.mv (.t 52))⟩,
  ⟨(some 54), some (53, true), .op (.fad 3 (.t 3))⟩,
  ⟨(some 55), some (53, true), .op (.load none (.t 54))⟩,
  ⟨(some 56), some (53, true), .op (.bin .none .lss (.t 55) (.v (.int .i64 0)))⟩,
  ⟨(some 57), some (45, false), .op (.pick (.t 53) (.t 56) (.v (.bool false)))⟩,
  ⟨(some 58), none, .op (.pick (.t 45) (.v (.bool true)) (.t 57))⟩] [])
  (.cond (.t 58)
  (.seq (.reg [⟨(some 4), none, .op (.mv (.v (.bool false)))⟩] [])
  .ret)
  .skip))))
  (.reg [⟨(some 59), none, .op (.bin .none .add (.t 36) (.v (.int .i64 1)))⟩,
  ⟨(some 36), none, .op (.mv (.t 59))⟩] [])))))))
  (.seq (.reg [⟨(some 4), none, .op (.mv (.v (.bool true)))⟩] [])
  .ret))))
theorem fn16 : Fn3 Try.prog 16 60 [(4, none)] fc16 := ⟨_, _, Try.func16, rfl, rfl, rfl, by kernel_rfl⟩
def kinds_head_s (p_00 : Program) (f_01 : Func) : Option Bool :=
  (jp (fun (s_2 : (Func × Bool)) => (if s_2.2 then (some false) else ((rng (fun (i_5 : Nat) (i_6 : Instr) (s_4 : Unit) => ((jp (fun (s_9 : Bool) => (if s_9 then (some (.ret (some false))) else (some (.nxt ())))) (fun k_8 => ((kinds_names_s p_00 s_2.1 i_6).bind fun nam_10 => (if (!nam_10) then (k_8 true) else (if (i_6.Op == 25) then (if s_2.1.Result then (k_8 (decide (s_2.1.Keep < 0))) else (k_8 false)) else (k_8 false)))))) : Option (Stp Unit (Option Bool)))) s_2.1.Code ()).bind (oc (fun (s_4 : Unit) => (some true)))))) (fun k_1 => (if ((List.length f_01.Code : Int) == 0) then (k_1 (f_01, true)) else (if (decide (f_01.Keep ≥ (List.length f_01.Locals : Int))) then (k_1 (f_01, true)) else (if (decide (f_01.Keep ≥ 0)) then ((getI f_01.Locals f_01.Keep).bind fun y_3 => (k_1 (f_01, (y_3 != 0)))) else (k_1 (f_01, false)))))))
theorem kinds_head_ev {p_00 : Program} {f_01 : Func} {r : Bool} (h : kinds_head_s p_00 f_01 = some r) : PureEv Try.prog 16 [(Program.av p_00), (Func.av f_01)] (.bool r) := by
  unfold kinds_head_s at h
  refine PureEv_end mixed fn16 (by simp) [6] 6 ?_
  unfold fc16
  refine E_sq ?_
  refine E_reg ?_
  refine E_op0 (v' := (.cptr (Program.av p_00).cells 0)) rfl rfl ?_
  refine E_op0 (v' := (.cptr (Func.av f_01).cells 0)) rfl rfl ?_
  refine E_mv (v' := (.bool false)) rfl ?_
  refine E_nil ?_
  refine E_nx ?_
  refine E_as ?_
  refine E_jp h (fun s_2 => [(2, (.cptr (Program.av p_00).cells 0)), (3, (.cptr (Func.av s_2.1).cells 0)), (32, (.bool s_2.2))]) (fun s_2 => []) (fun k_1 h => ?_) (fun s_2 h => ?_)
  · refine E_reg ?_
    refine E_op0 (v' := (.cptr (Func.av f_01).cells 4)) rfl rfl ?_
    refine E_op0 (v' := (.sl false 3 (List.map Instr.av f_01.Code))) rfl rfl ?_
    refine E_len rfl ?_
    refine E_op0 (v' := (.bool ((List.length f_01.Code : Int) == 0))) rfl rfl ?_
    refine E_mv (v' := (.bool ((List.length f_01.Code : Int) == 0))) rfl ?_
    refine E_gsT (b := ((List.length f_01.Code : Int) == 0)) rfl rfl rfl (fun hb => ?_) (fun hb => ?_)
    · rw [ite_f hb] at h
      refine E_op0 (v' := (.cptr (Func.av f_01).cells 3)) rfl rfl ?_
      refine E_gh rfl ?_
      refine E_op0 (v' := (.int .i64 f_01.Keep)) rfl rfl ?_
      refine E_gh rfl ?_
      refine E_op0 (v' := (.cptr (Func.av f_01).cells 1)) rfl rfl ?_
      refine E_gh rfl ?_
      refine E_op0 (v' := (.sl false 1 (List.map (avI .u8) f_01.Locals))) rfl rfl ?_
      refine E_gh rfl ?_
      refine E_len rfl ?_
      refine E_gh rfl ?_
      refine E_op0 (v' := (.bool (decide (f_01.Keep ≥ (List.length f_01.Locals : Int))))) rfl rfl ?_
      refine E_pf rfl rfl ?_
      refine E_mv (v' := (.bool (decide (f_01.Keep ≥ (List.length f_01.Locals : Int))))) rfl ?_
      refine E_gsT (b := (decide (f_01.Keep ≥ (List.length f_01.Locals : Int)))) rfl rfl rfl (fun hb => ?_) (fun hb => ?_)
      · rw [ite_f hb] at h
        refine E_op0 (v' := (.cptr (Func.av f_01).cells 3)) rfl rfl ?_
        refine E_gh rfl ?_
        refine E_op0 (v' := (.int .i64 f_01.Keep)) rfl rfl ?_
        refine E_gh rfl ?_
        refine E_op0 (v' := (.bool (decide (f_01.Keep ≥ 0)))) rfl rfl ?_
        refine E_gh rfl ?_
        refine E_mv (v' := (.bool (decide (f_01.Keep ≥ 0)))) rfl ?_
        refine E_gsT (b := (decide (f_01.Keep ≥ 0))) rfl rfl rfl (fun hb => ?_) (fun hb => ?_)
        · rw [ite_t hb] at h
          refine E_op0 (v' := (.cptr (Func.av f_01).cells 1)) rfl rfl ?_
          refine E_gh rfl ?_
          refine E_op0 (v' := (.sl false 1 (List.map (avI .u8) f_01.Locals))) rfl rfl ?_
          refine E_gh rfl ?_
          refine E_op0 (v' := (.cptr (Func.av f_01).cells 3)) rfl rfl ?_
          refine E_gh rfl ?_
          refine E_op0 (v' := (.int .i64 f_01.Keep)) rfl rfl ?_
          refine E_gh rfl ?_
          obtain ⟨y_3, hy_3, h⟩ := bd_some h
          refine E_iadF rfl rfl hy_3 ?_
          refine E_gh rfl ?_
          refine E_op0 (v' := (.int .u8 y_3)) rfl rfl ?_
          refine E_gh rfl ?_
          refine E_op0 (v' := (.bool (y_3 != 0))) rfl rfl ?_
          refine E_gh rfl ?_
          refine E_pt rfl rfl ?_
          refine E_pf rfl rfl ?_
          refine E_nil ?_
          exact E_jx _ h (wk_aw ⟨(.refl _), (.refl _), (.refl _), trivial⟩)
        · rw [ite_f hb] at h
          refine E_gm rfl ?_
          refine E_gm rfl ?_
          refine E_gm rfl ?_
          refine E_gm rfl ?_
          refine E_gm rfl ?_
          refine E_gm rfl ?_
          refine E_gh rfl ?_
          refine E_pf rfl rfl ?_
          refine E_pf rfl rfl ?_
          refine E_nil ?_
          exact E_jx _ h (wk_aw ⟨(.refl _), (.refl _), (.refl _), trivial⟩)
      · rw [ite_t hb] at h
        refine E_gm rfl ?_
        refine E_gm rfl ?_
        refine E_gm rfl ?_
        refine E_gz rfl ?_
        refine E_gz rfl ?_
        refine E_gz rfl ?_
        refine E_gz rfl ?_
        refine E_gz rfl ?_
        refine E_gz rfl ?_
        refine E_gz rfl ?_
        refine E_gm rfl ?_
        refine E_pt rfl rfl ?_
        refine E_nil ?_
        exact E_jx _ h (wk_aw ⟨(.refl _), (.refl _), (.refl _), trivial⟩)
    · rw [ite_t hb] at h
      refine E_gm rfl ?_
      refine E_gm rfl ?_
      refine E_gm rfl ?_
      refine E_gm rfl ?_
      refine E_gm rfl ?_
      refine E_pt rfl rfl ?_
      refine E_mv (v' := (.bool true)) rfl ?_
      refine E_gm rfl ?_
      refine E_gm rfl ?_
      refine E_gm rfl ?_
      refine E_gm rfl ?_
      refine E_gz rfl ?_
      refine E_gz rfl ?_
      refine E_gz rfl ?_
      refine E_gz rfl ?_
      refine E_gz rfl ?_
      refine E_gz rfl ?_
      refine E_gz rfl ?_
      refine E_gm rfl ?_
      refine E_pt rfl rfl ?_
      refine E_nil ?_
      exact E_jx _ h (wk_aw ⟨(.refl _), (.refl _), (.refl _), trivial⟩)
  · refine E_sq ?_
    refine E_cs (t := s_2.2) rfl (fun hb => ?_) (fun hb => ?_)
    · rw [ite_t hb] at h
      refine E_sq ?_
      refine E_reg ?_
      refine E_mv (v' := (.bool false)) rfl ?_
      refine E_nil ?_
      refine E_nx ?_
      refine E_ret ?_
      refine E_thr ?_
      cases h
      exact ⟨trivial, _, rfl, (fz_b rfl (.refl _))⟩
    · rw [ite_f hb] at h
      refine E_skip ?_
      refine E_nx ?_
      refine E_as ?_
      refine E_sq ?_
      refine E_reg ?_
      refine E_op0 (v' := (.cptr (Func.av s_2.1).cells 4)) rfl rfl ?_
      refine E_op0 (v' := (.sl false 3 (List.map Instr.av s_2.1.Code))) rfl rfl ?_
      refine E_len rfl ?_
      refine E_mv (v' := (.int .i64 0)) rfl ?_
      refine E_nil ?_
      refine E_nx ?_
      refine E_sq ?_
      refine E_rngO (fun s_4 => [(2, (.cptr (Program.av p_00).cells 0)), (3, (.cptr (Func.av s_2.1).cells 0)), (34, (.sl false 3 (List.map Instr.av s_2.1.Code)))]) (fun s_4 => []) h (by decide) (by decide) (fun _ => ⟨rfl, rfl, rfl, rfl⟩) (wk_aw ⟨(.refl _), (.refl _), (.refl _), (.refl _), (.refl _), trivial⟩) (fun i_5 i_6 s_4 c hx_7 hlt h => ?_) (fun s_4 fr' S' h hw => ?_)
      · refine E_sq ?_
        refine E_reg ?_
        refine E_iadF rfl rfl (getI_of hx_7) ?_
        refine E_op0 (v' := (Instr.av i_6)) rfl rfl ?_
        refine E_op (v' := .ptr 0 0 0) (S' := [.arr 0 [(.int .u8 0), (.int .i64 0), (.int .u64 0)]]) rfl rfl rfl ?_
        refine E_do (S' := [.arr 0 [(.int .u8 i_6.Op), (.int .i64 i_6.Arg), (.int .u64 i_6.Imm)]]) rfl rfl ?_
        refine E_nil ?_
        refine E_nx ?_
        refine E_jp h (fun s_9 => [(2, (.cptr (Program.av p_00).cells 0)), (3, (.cptr (Func.av s_2.1).cells 0)), (34, (.sl false 3 (List.map Instr.av s_2.1.Code))), (35, (.int .i64 (List.length s_2.1.Code : Int))), (36, (.int .i64 (i_5 : Int))), (58, (.bool s_9))]) (fun s_9 => []) (fun k_8 h => ?_) (fun s_9 h => ?_)
        · refine E_reg ?_
          refine E_op0 (v' := (Program.av p_00)) rfl rfl ?_
          refine E_op0 (v' := (Func.av s_2.1)) rfl rfl ?_
          refine E_opw (v' := (Instr.av i_6)) rfl (.aggL ⟨(.refl _), (.refl _), (.refl _), trivial⟩) rfl ?_
          obtain ⟨nam_10, hnam_10, h⟩ := bd_some h
          refine E_callW (kinds_names_ev  hnam_10) rfl ⟨(.refl _), (.refl _), (.refl _), trivial⟩ (blwL_of ⟨(Program.enc.blw _ 0), (Func.enc.blw _ 0), (Instr.enc.blw _ 0), trivial⟩) rfl ?_
          refine E_op0 (v' := (.bool (!nam_10))) rfl rfl ?_
          refine E_mv (v' := (.bool (!nam_10))) rfl ?_
          refine E_gsT (b := (!nam_10)) rfl rfl rfl (fun hb => ?_) (fun hb => ?_)
          · rw [ite_f hb] at h
            refine E_op0 (v' := (.ptr 0 0 0)) rfl rfl ?_
            refine E_gh rfl ?_
            refine E_op (v' := (.int .u8 i_6.Op)) (S' := [.arr 0 [(.int .u8 i_6.Op), (.int .i64 i_6.Arg), (.int .u64 i_6.Imm)]]) rfl rfl rfl ?_
            refine E_gh rfl ?_
            refine E_op0 (v' := (.bool (i_6.Op == 25))) rfl rfl ?_
            refine E_gh rfl ?_
            refine E_mv (v' := (.bool (i_6.Op == 25))) rfl ?_
            refine E_gsT (b := (i_6.Op == 25)) rfl rfl rfl (fun hb => ?_) (fun hb => ?_)
            · rw [ite_t hb] at h
              refine E_op0 (v' := (.cptr (Func.av s_2.1).cells 2)) rfl rfl ?_
              refine E_gh rfl ?_
              refine E_op0 (v' := (.bool s_2.1.Result)) rfl rfl ?_
              refine E_gh rfl ?_
              refine E_pt rfl rfl ?_
              refine E_gh rfl ?_
              refine E_mv (v' := (.bool s_2.1.Result)) rfl ?_
              refine E_gsT (b := s_2.1.Result) rfl rfl rfl (fun hb => ?_) (fun hb => ?_)
              · rw [ite_t hb] at h
                refine E_op0 (v' := (.cptr (Func.av s_2.1).cells 3)) rfl rfl ?_
                refine E_gh rfl ?_
                refine E_op0 (v' := (.int .i64 s_2.1.Keep)) rfl rfl ?_
                refine E_gh rfl ?_
                refine E_op0 (v' := (.bool (decide (s_2.1.Keep < 0)))) rfl rfl ?_
                refine E_gh rfl ?_
                refine E_pt rfl rfl ?_
                refine E_pf rfl rfl ?_
                refine E_nil ?_
                exact E_jx _ h (wk_rn [] rfl (Nat.le_of_ble_eq_true rfl) trivial ⟨(rn_b (cp_blw (Program.enc.blw _ 0))), (rn_b (cp_blw (Func.enc.blw _ 0))), (rn_b (Instr.enc.blws 0)), (rn_b rfl), (rn_b rfl), (rn_b rfl), trivial⟩)
              · rw [ite_f hb] at h
                refine E_gm rfl ?_
                refine E_gm rfl ?_
                refine E_gh rfl ?_
                refine E_pf rfl rfl ?_
                refine E_pf rfl rfl ?_
                refine E_nil ?_
                exact E_jx _ h (wk_rn [] rfl (Nat.le_of_ble_eq_true rfl) trivial ⟨(rn_b (cp_blw (Program.enc.blw _ 0))), (rn_b (cp_blw (Func.enc.blw _ 0))), (rn_b (Instr.enc.blws 0)), (rn_b rfl), (rn_b rfl), (rn_b rfl), trivial⟩)
            · rw [ite_f hb] at h
              refine E_gm rfl ?_
              refine E_gh rfl ?_
              refine E_pf rfl rfl ?_
              refine E_gh rfl ?_
              refine E_mv (v' := (.bool false)) rfl ?_
              refine E_gm rfl ?_
              refine E_gm rfl ?_
              refine E_gm rfl ?_
              refine E_gh rfl ?_
              refine E_pf rfl rfl ?_
              refine E_pf rfl rfl ?_
              refine E_nil ?_
              exact E_jx _ h (wk_rn [] rfl (Nat.le_of_ble_eq_true rfl) trivial ⟨(rn_b (cp_blw (Program.enc.blw _ 0))), (rn_b (cp_blw (Func.enc.blw _ 0))), (rn_b (Instr.enc.blws 0)), (rn_b rfl), (rn_b rfl), (rn_b rfl), trivial⟩)
          · rw [ite_t hb] at h
            refine E_gm rfl ?_
            refine E_gm rfl ?_
            refine E_gm rfl ?_
            refine E_gz rfl ?_
            refine E_gz rfl ?_
            refine E_gm rfl ?_
            refine E_gm rfl ?_
            refine E_gz rfl ?_
            refine E_gz rfl ?_
            refine E_gz rfl ?_
            refine E_gm rfl ?_
            refine E_pt rfl rfl ?_
            refine E_nil ?_
            exact E_jx _ h (wk_rn [] rfl (Nat.le_of_ble_eq_true rfl) trivial ⟨(rn_b (cp_blw (Program.enc.blw _ 0))), (rn_b (cp_blw (Func.enc.blw _ 0))), (rn_b (Instr.enc.blws 0)), (rn_b rfl), (rn_b rfl), (rn_b rfl), trivial⟩)
        · refine E_cs (t := s_9) rfl (fun hb => ?_) (fun hb => ?_)
          · rw [ite_t hb] at h
            refine E_sq ?_
            refine E_reg ?_
            refine E_mv (v' := (.bool false)) rfl ?_
            refine E_nil ?_
            refine E_nx ?_
            refine E_ret ?_
            cases h
            refine L_rrO rfl (fun h => ?_)
            refine E_thr ?_
            cases h
            exact ⟨trivial, _, rfl, (fz_b rfl (.refl _))⟩
          · rw [ite_f hb] at h
            refine E_skip ?_
            cases h
            exact L_nn rfl (wk_aw ⟨(.refl _), (.refl _), (.refl _), (.refl _), (.refl _), trivial⟩)
      · refine X_nx hw ?_
        refine E_sq ?_
        refine E_reg ?_
        refine E_mv (v' := (.bool true)) rfl ?_
        refine E_nil ?_
        refine E_nx ?_
        refine E_ret ?_
        cases h
        exact ⟨trivial, _, rfl, (fz_b rfl (.refl _))⟩
/- windlass/kinds.effect -/
def fc25 : FC := (.seq (.reg [⟨(some 4), none, .op (.box (.t 0))⟩,
  ⟨(some 5), none, .op (.box (.t 1))⟩,
  ⟨(some 6), none, .op (.box (.t 2))⟩,
  ⟨(some 8), none, .op (.mv (.v .nils))⟩,
  ⟨(some 9), none, .op (.mv (.v .nils))⟩] [])
  (.seq (.reg [⟨(some 12), none, .op (.bsl none [(.int .u8 0)] 1 [(0, 1, (.v (.int .u8 0)))])⟩,
  ⟨(some 10), none, .op (.mv (.t 12))⟩] [])
  (.seq (.seq (.reg [⟨(some 13), none, .op (.fad 0 (.t 6))⟩,
  ⟨(some 14), none, .op (.load none (.t 13))⟩] [])
  (.block 0 (.seq (.seq (.reg [⟨(some 16), none, .op (.bin .none .eql (.t 14) (.v (.int .u8 1)))⟩,
  ⟨(some 15), none, .op (.mv (.t 16))⟩] [])
  (.cond (.t 15)
  .skip
  (.reg [⟨(some 17), none, .op (.bin .none .eql (.t 14) (.v (.int .u8 28)))⟩,
  ⟨(some 15), none, .op (.mv (.t 17))⟩] [])))
  (.cond (.t 15)
  (.seq (.reg [⟨(some 18), none, .op (.mv (.t 10))⟩,
  ⟨(some 8), none, .op (.mv (.v .nils))⟩,
  ⟨(some 9), none, .op (.mv (.t 18))⟩] [])
  .ret)
  (.seq (.reg [⟨(some 20), none, .op (.bin .none .eql (.t 14) (.v (.int .u8 2)))⟩,
  ⟨(some 19), none, .op (.mv (.t 20))⟩] [])
  (.cond (.t 19)
  (.seq (.reg [⟨(some 21), none, .op (.fad 1 (.t 5))⟩,
  ⟨(some 22), none, .op (.load none (.t 21))⟩,
  ⟨(some 23), none, .op (.fad 1 (.t 6))⟩,
  ⟨(some 24), none, .op (.load none (.t 23))⟩,
  ⟨(some 25), none, .op (.fad 1 (.t 6))⟩,
  ⟨(some 26), none, .op (.load none (.t 25))⟩,
  ⟨(some 27), none, .op (.bin .none .add (.t 26) (.v (.int .i64 1)))⟩,
  ⟨(some 28), none, .op (.slc none (.t 22) (some (.t 24)) (some (.t 27)) none)⟩,
  ⟨(some 8), none, .op (.mv (.v .nils))⟩,
  ⟨(some 9), none, .op (.mv (.t 28))⟩] [])
  .ret)
  (.seq (.reg [⟨(some 30), none, .op (.bin .none .eql (.t 14) (.v (.int .u8 3)))⟩,
  ⟨(some 29), none, .op (.mv (.t 30))⟩] [])
  (.cond (.t 29)
  (.seq (.reg [⟨(some 31), none, .op (.fad 1 (.t 5))⟩,
  ⟨(some 32), none, .op (.load none (.t 31))⟩,
  ⟨(some 33), none, .op (.fad 1 (.t 6))⟩,
  ⟨(some 34), none, .op (.load none (.t 33))⟩,
  ⟨(some 35), none, .op (.fad 1 (.t 6))⟩,
  ⟨(some 36), none, .op (.load none (.t 35))⟩,
  ⟨(some 37), none, .op (.bin .none .add (.t 36) (.v (.int .i64 1)))⟩,
  ⟨(some 38), none, .op (.slc none (.t 32) (some (.t 34)) (some (.t 37)) none)⟩,
  ⟨(some 8), none, .op (.mv (.t 38))⟩,
  ⟨(some 9), none, .op (.mv (.v .nils))⟩] [])
  .ret)
  (.seq (.reg [⟨(some 40), none, .op (.bin .none .eql (.t 14) (.v (.int .u8 4)))⟩,
  ⟨(some 39), none, .op (.mv (.t 40))⟩] [])
  (.cond (.t 39)
  (.seq (.reg [⟨(some 41), none, .op (.bsl none [(.int .u8 0)] 1 [(0, 1, (.v (.int .u8 1)))])⟩,
  ⟨(some 8), none, .op (.mv (.v .nils))⟩,
  ⟨(some 9), none, .op (.mv (.t 41))⟩] [])
  .ret)
  (.seq (.reg [⟨(some 43), none, .op (.bin .none .eql (.t 14) (.v (.int .u8 5)))⟩,
  ⟨(some 42), none, .op (.mv (.t 43))⟩] [])
  (.cond (.t 42)
  (.seq (.reg [⟨(some 44), none, .op (.bsl none [(.int .u8 0)] 1 [(0, 1, (.v (.int .u8 1)))])⟩,
  ⟨(some 45), none, .op (.mv (.t 10))⟩,
  ⟨(some 8), none, .op (.mv (.t 44))⟩,
  ⟨(some 9), none, .op (.mv (.t 45))⟩] [])
  .ret)
  (.seq (.reg [⟨(some 47), none, .op (.bin .none .eql (.t 14) (.v (.int .u8 6)))⟩,
  ⟨(some 46), none, .op (.mv (.t 47))⟩] [])
  (.cond (.t 46)
  (.seq (.reg [⟨(some 48), none, .op (.bsl none [(.int .u8 0)] 2 [(0, 1, (.v (.int .u8 1))), (1, 1, (.v (.int .u8 0)))])⟩,
  ⟨(some 8), none, .op (.mv (.t 48))⟩,
  ⟨(some 9), none, .op (.mv (.v .nils))⟩] [])
  .ret)
  (.seq (.reg [⟨(some 50), none, .op (.bin .none .eql (.t 14) (.v (.int .u8 21)))⟩,
  ⟨(some 49), none, .op (.mv (.t 50))⟩] [])
  (.cond (.t 49)
  (.seq (.reg [⟨(some 8), none, .op (.mv (.v .nils))⟩,
  ⟨(some 9), none, .op (.mv (.v .nils))⟩] [])
  .ret)
  (.seq (.seq (.reg [⟨(some 52), none, .op (.bin .none .eql (.t 14) (.v (.int .u8 22)))⟩,
  ⟨(some 51), none, .op (.mv (.t 52))⟩] [])
  (.cond (.t 51)
  .skip
  (.seq (.reg [⟨(some 53), none, .op (.bin .none .eql (.t 14) (.v (.int .u8 26)))⟩,
  ⟨(some 51), none, .op (.mv (.t 53))⟩] [])
  (.cond (.t 51)
  .skip
  (.seq (.reg [⟨(some 54), none, .op (.bin .none .eql (.t 14) (.v (.int .u8 29)))⟩,
  ⟨(some 51), none, .op (.mv (.t 54))⟩] [])
  (.cond (.t 51)
  .skip
  (.reg [⟨(some 55), none, .op (.bin .none .eql (.t 14) (.v (.int .u8 30)))⟩,
  ⟨(some 51), none, .op (.mv (.t 55))⟩] [])))))))
  (.cond (.t 51)
  (.seq (.reg [⟨(some 56), none, .op (.mv (.t 10))⟩,
  ⟨(some 8), none, .op (.mv (.t 56))⟩,
  ⟨(some 9), none, .op (.mv (.v .nils))⟩] [])
  .ret)
  (.seq (.seq (.reg [⟨(some 58), none, .op (.bin .none .eql (.t 14) (.v (.int .u8 23)))⟩,
  ⟨(some 57), none, .op (.mv (.t 58))⟩] [])
  (.cond (.t 57)
  .skip
  (.reg [⟨(some 59), none, .op (.bin .none .eql (.t 14) (.v (.int .u8 25)))⟩,
  ⟨(some 57), none, .op (.mv (.t 59))⟩] [])))
  (.cond (.t 57)
  (.seq (.reg [⟨(some 60), none, .op (.fad 0 (.t 4))⟩,
  ⟨(some 61), none, .op (.load none (.t 60))⟩,
  ⟨(some 62), none, .op (.fad 1 (.t 6))⟩,
  ⟨(some 63), none, .op (.load none (.t 62))⟩,
  ⟨(some 64), none, .op (.iad none (some 5) (.t 61) (.t 63))⟩,
  ⟨(some 65), none, .op (.load (some 5) (.t 64))⟩,
  ⟨(some 11), none, .op (.new [(.int .i64 0), .nils, (.bool false), (.int .i64 0), .nils])⟩,
  ⟨none, none, .op (.store 5 (.t 11) (.t 65))⟩] [])
  (.seq (.seq (.reg [⟨(some 66), none, .op (.fad 0 (.t 6))⟩,
  ⟨(some 67), none, .op (.load none (.t 66))⟩,
  ⟨(some 68), none, .op (.bin .none .eql (.t 67) (.v (.int .u8 23)))⟩,
  ⟨(some 69), none, .op (.mv (.t 68))⟩,
  ⟨(some 70), some (69, true), .op (.fad 2 (.t 11))⟩,
  ⟨(some 71), some (69, true), .op (.load none (.t 70))⟩,
  ⟨(some 72), none, .op (.pick (.t 69) (.t 71) (.v (.bool false)))⟩] [])
  (.cond (.t 72)
  (.seq (.reg [⟨(some 73), none, .op (.fad 1 (.t 11))⟩,
  ⟨(some 74), none, .op (.load none (.t 73))⟩,
  ⟨(some 75), none, .op (.fad 0 (.t 11))⟩,
  ⟨(some 76), none, .op (.load none (.t 75))⟩,
  ⟨(some 77), none, .op (.slc none (.t 74) none (some (.t 76)) none)⟩,
  ⟨(some 78), none, .op (.mv (.t 10))⟩,
  ⟨(some 8), none, .op (.mv (.t 77))⟩,
  ⟨(some 9), none, .op (.mv (.t 78))⟩] [])
  .ret)
  .skip))
  (.seq (.reg [⟨(some 79), none, .op (.fad 1 (.t 11))⟩,
  ⟨(some 80), none, .op (.load none (.t 79))⟩,
  ⟨(some 81), none, .op (.fad 0 (.t 11))⟩,
  ⟨(some 82), none, .op (.load none (.t 81))⟩,
  ⟨(some 83), none, .op (.slc none (.t 80) none (some (.t 82)) none)⟩,
  ⟨(some 8), none, .op (.mv (.t 83))⟩,
  ⟨(some 9), none, .op (.mv (.v .nils))⟩] [])
  .ret)))
  (.seq (.reg [⟨(some 85), none, .op (.bin .none .eql (.t 14) (.v (.int .u8 24)))⟩,
  ⟨(some 84), none, .op (.mv (.t 85))⟩] [])
  (.cond (.t 84)
  (.seq (.seq (.reg [⟨(some 86), none, .op (.fad 2 (.t 5))⟩,
  ⟨(some 87), none, .op (.load none (.t 86))⟩] [])
  (.cond (.t 87)
  (.seq (.reg [⟨(some 88), none, .op (.mv (.t 10))⟩,
  ⟨(some 8), none, .op (.mv (.t 88))⟩,
  ⟨(some 9), none, .op (.mv (.v .nils))⟩] [])
  .ret)
  .skip))
  (.seq (.reg [⟨(some 8), none, .op (.mv (.v .nils))⟩,
  ⟨(some 9), none, .op (.mv (.v .nils))⟩] [])
  .ret))
  (.seq (.reg [⟨(some 90), none, .op (.bin .none .eql (.t 14) (.v (.int .u8 27)))⟩,
  ⟨(some 89), none, .op (.mv (.t 90))⟩] [])
  (.cond (.t 89)
  (.seq (.reg [⟨(some 91), none, .op (.bsl none [(.int .u8 0)] 2 [(0, 1, (.v (.int .u8 0))), (1, 1, (.v (.int .u8 0)))])⟩,
  ⟨(some 8), none, .op (.mv (.v .nils))⟩,
  ⟨(some 9), none, .op (.mv (.t 91))⟩] [])
  .ret)
  (.seq (.reg [⟨(some 93), none, .op (.bin .none .eql (.t 14) (.v (.int .u8 31)))⟩,
  ⟨(some 92), none, .op (.mv (.t 93))⟩] [])
  (.cond (.t 92)
  (.seq (.reg [⟨(some 94), none, .op (.mv (.t 3))⟩,
  ⟨(some 95), none, .op (.bsl none [(.int .u8 0)] 1 [(0, 1, (.t 94))])⟩,
  ⟨(some 8), none, .op (.mv (.t 95))⟩,
  ⟨(some 9), none, .op (.mv (.v .nils))⟩] [])
  .ret)
  (.seq (.reg [⟨(some 97), none, .op (.bin .none .eql (.t 14) (.v (.int .u8 32)))⟩,
  ⟨(some 96), none, .op (.mv (.t 97))⟩] [])
  (.cond (.t 96)
  (.seq (.reg [⟨(some 98), none, .op (.mv (.t 3))⟩,
  ⟨(some 99), none, .op (.bsl none [(.int .u8 0)] 1 [(0, 1, (.t 98))])⟩,
  ⟨(some 100), none, .op (.mv (.t 3))⟩,
  ⟨(some 101), none, .op (.mv (.t 3))⟩,
  ⟨(some 102), none, .op (.bsl none [(.int .u8 0)] 2 [(0, 1, (.t 100)), (1, 1, (.t 101))])⟩,
  ⟨(some 8), none, .op (.mv (.t 99))⟩,
  ⟨(some 9), none, .op (.mv (.t 102))⟩] [])
  .ret)
  .skip))))))))))))))))))))))))))))
  (.seq (.reg [⟨(some 103), none, .op (.bsl none [(.int .u8 0)] 2 [(0, 1, (.v (.int .u8 0))), (1, 1, (.v (.int .u8 0)))])⟩,
  ⟨(some 104), none, .op (.mv (.t 10))⟩,
  ⟨(some 8), none, .op (.mv (.t 103))⟩,
  ⟨(some 9), none, .op (.mv (.t 104))⟩] [])
  .ret))))
theorem fn25 : Fn3 Try.prog 25 105 [(8, none), (9, none)] fc25 := ⟨_, _, Try.func25, rfl, rfl, rfl, by kernel_rfl⟩
def kinds_effect_s (p_00 : Program) (f_01 : Func) (i_02 : Instr) (top_03 : Int) : Option ((List Int) × (List Int)) :=
  (jp (fun (s_2 : (Int × Func × Instr × Int × Bool)) => (if s_2.2.2.2.2 then (some ([], [0])) else (if (s_2.2.2.2.1 == 2) then ((subL s_2.2.1.Locals s_2.2.2.1.Arg (I64 (s_2.2.2.1.Arg + 1))).bind fun l_3 => (some ([], l_3))) else (if (s_2.2.2.2.1 == 3) then ((subL s_2.2.1.Locals s_2.2.2.1.Arg (I64 (s_2.2.2.1.Arg + 1))).bind fun l_4 => (some (l_4, []))) else (if (s_2.2.2.2.1 == 4) then (some ([], [1])) else (if (s_2.2.2.2.1 == 5) then (some ([1], [0])) else (if (s_2.2.2.2.1 == 6) then (some ([1, 0], [])) else (if (s_2.2.2.2.1 == 21) then (some ([], [])) else (jp (fun (s_6 : Bool) => (if s_6 then (some ([0], [])) else (jp (fun (s_8 : Bool) => (if s_8 then ((getI p_00.Funcs s_2.2.2.1.Arg).bind fun y_9 => (jp (fun (s_11 : Bool) => (if s_11 then ((subL y_9.Locals 0 y_9.Params).bind fun l_12 => (some (l_12, [0]))) else ((subL y_9.Locals 0 y_9.Params).bind fun l_13 => (some (l_13, []))))) (fun k_10 => (if (s_2.2.2.1.Op == 23) then (k_10 y_9.Result) else (k_10 false))))) else (if (s_2.2.2.2.1 == 24) then (if s_2.2.1.Result then (some ([0], [])) else (some ([], []))) else (if (s_2.2.2.2.1 == 27) then (some ([], [0, 0])) else (if (s_2.2.2.2.1 == 31) then (some ([s_2.1], [])) else (if (s_2.2.2.2.1 == 32) then (some ([s_2.1], [s_2.1, s_2.1])) else (some ([0, 0], [0])))))))) (fun k_7 => (if (s_2.2.2.2.1 == 23) then (k_7 (s_2.2.2.2.1 == 23)) else (k_7 (s_2.2.2.2.1 == 25))))))) (fun k_5 => (if (s_2.2.2.2.1 == 22) then (k_5 (s_2.2.2.2.1 == 22)) else (if (s_2.2.2.2.1 == 26) then (k_5 (s_2.2.2.2.1 == 26)) else (if (s_2.2.2.2.1 == 29) then (k_5 (s_2.2.2.2.1 == 29)) else (k_5 (s_2.2.2.2.1 == 30))))))))))))))) (fun k_1 => (if (i_02.Op == 1) then (k_1 (top_03, f_01, i_02, i_02.Op, (i_02.Op == 1))) else (k_1 (top_03, f_01, i_02, i_02.Op, (i_02.Op == 28))))))
theorem kinds_effect_ev {p_00 : Program} {f_01 : Func} {i_02 : Instr} {top_03 : Int} {r : ((List Int) × (List Int))} (h : kinds_effect_s p_00 f_01 i_02 top_03 = some r) : PureEv Try.prog 25 [(Program.av p_00), (Func.av f_01), (Instr.av i_02), (.int .u8 top_03)] (.tup [(.sl false 1 (List.map (avI .u8) r.1)), (.sl false 1 (List.map (avI .u8) r.2))]) := by
  unfold kinds_effect_s at h
  refine PureEv_end mixed fn25 (by simp) [11] 6 ?_
  unfold fc25
  refine E_sq ?_
  refine E_reg ?_
  refine E_op0 (v' := (.cptr (Program.av p_00).cells 0)) rfl rfl ?_
  refine E_op0 (v' := (.cptr (Func.av f_01).cells 0)) rfl rfl ?_
  refine E_op0 (v' := (.cptr (Instr.av i_02).cells 0)) rfl rfl ?_
  refine E_mv (v' := .nils) rfl ?_
  refine E_mv (v' := .nils) rfl ?_
  refine E_nil ?_
  refine E_nx ?_
  refine E_sq ?_
  refine E_reg ?_
  refine E_opw (v' := (.sl true 1 (List.map (avI .u8) [0]))) rfl (.refl _) rfl ?_
  refine E_mv (v' := (.sl true 1 (List.map (avI .u8) [0]))) rfl ?_
  refine E_nil ?_
  refine E_nx ?_
  refine E_as ?_
  refine E_sq ?_
  refine E_reg ?_
  refine E_op0 (v' := (.cptr (Instr.av i_02).cells 0)) rfl rfl ?_
  refine E_op0 (v' := (.int .u8 i_02.Op)) rfl rfl ?_
  refine E_nil ?_
  refine E_nx ?_
  refine E_sq ?_
  refine E_block ?_
  refine E_as ?_
  refine E_sq ?_
  refine E_reg ?_
  refine E_op0 (v' := (.bool (i_02.Op == 1))) rfl rfl ?_
  refine E_mv (v' := (.bool (i_02.Op == 1))) rfl ?_
  refine E_nil ?_
  refine E_nx ?_
  refine E_jp h (fun s_2 => [(3, (.int .u8 s_2.1)), (4, (.cptr (Program.av p_00).cells 0)), (5, (.cptr (Func.av s_2.2.1).cells 0)), (6, (.cptr (Instr.av s_2.2.2.1).cells 0)), (10, (.sl true 1 (List.map (avI .u8) [0]))), (14, (.int .u8 s_2.2.2.2.1)), (15, (.bool s_2.2.2.2.2))]) (fun s_2 => []) (fun k_1 h => ?_) (fun s_2 h => ?_)
  · refine E_cs (t := (i_02.Op == 1)) rfl (fun hb => ?_) (fun hb => ?_)
    · rw [ite_t hb] at h
      refine E_skip ?_
      exact E_jx _ h (wk_aw ⟨(.refl _), (.refl _), (.refl _), (.refl _), (.refl _), (.refl _), (.refl _), trivial⟩)
    · rw [ite_f hb] at h
      refine E_reg ?_
      refine E_op0 (v' := (.bool (i_02.Op == 28))) rfl rfl ?_
      refine E_mv (v' := (.bool (i_02.Op == 28))) rfl ?_
      refine E_nil ?_
      exact E_jx _ h (wk_aw ⟨(.refl _), (.refl _), (.refl _), (.refl _), (.refl _), (.refl _), (.refl _), trivial⟩)
  · refine E_cs (t := s_2.2.2.2.2) rfl (fun hb => ?_) (fun hb => ?_)
    · rw [ite_t hb] at h
      refine E_sq ?_
      refine E_reg ?_
      refine E_mv (v' := (.sl true 1 (List.map (avI .u8) [0]))) rfl ?_
      refine E_mv (v' := .nils) rfl ?_
      refine E_mv (v' := (.sl true 1 (List.map (avI .u8) [0]))) rfl ?_
      refine E_nil ?_
      refine E_nx ?_
      refine E_ret ?_
      refine E_blr ?_
      refine E_thr ?_
      cases h
      exact ⟨trivial, _, rfl, (fz_tup ⟨(fz_b rfl .nil), (fz_b ((encI .u8).blws 0) .ex), trivial⟩)⟩
    · rw [ite_f hb] at h
      refine E_sq ?_
      refine E_reg ?_
      refine E_op0 (v' := (.bool (s_2.2.2.2.1 == 2))) rfl rfl ?_
      refine E_mv (v' := (.bool (s_2.2.2.2.1 == 2))) rfl ?_
      refine E_nil ?_
      refine E_nx ?_
      refine E_cs (t := (s_2.2.2.2.1 == 2)) rfl (fun hb => ?_) (fun hb => ?_)
      · rw [ite_t hb] at h
        refine E_sq ?_
        refine E_reg ?_
        refine E_op0 (v' := (.cptr (Func.av s_2.2.1).cells 1)) rfl rfl ?_
        refine E_op0 (v' := (.sl false 1 (List.map (avI .u8) s_2.2.1.Locals))) rfl rfl ?_
        refine E_op0 (v' := (.cptr (Instr.av s_2.2.2.1).cells 1)) rfl rfl ?_
        refine E_op0 (v' := (.int .i64 s_2.2.2.1.Arg)) rfl rfl ?_
        refine E_op0 (v' := (.cptr (Instr.av s_2.2.2.1).cells 1)) rfl rfl ?_
        refine E_op0 (v' := (.int .i64 s_2.2.2.1.Arg)) rfl rfl ?_
        refine E_op0 (v' := (.int .i64 (I64 (s_2.2.2.1.Arg + 1)))) rfl rfl ?_
        obtain ⟨l_3, hl_3, h⟩ := bd_some h
        refine E_slcL rfl (fun h0 => loN_int h0) (fun h0 => hiN_int h0) hl_3 ?_
        refine E_mv (v' := .nils) rfl ?_
        refine E_mv (v' := (.sl false 1 (List.map (avI .u8) l_3))) rfl ?_
        refine E_nil ?_
        refine E_nx ?_
        refine E_ret ?_
        refine E_blr ?_
        refine E_thr ?_
        cases h
        exact ⟨trivial, _, rfl, (fz_tup ⟨(fz_b rfl .nil), (fz_b ((encI .u8).blws 0) (.refl _)), trivial⟩)⟩
      · rw [ite_f hb] at h
        refine E_sq ?_
        refine E_reg ?_
        refine E_op0 (v' := (.bool (s_2.2.2.2.1 == 3))) rfl rfl ?_
        refine E_mv (v' := (.bool (s_2.2.2.2.1 == 3))) rfl ?_
        refine E_nil ?_
        refine E_nx ?_
        refine E_cs (t := (s_2.2.2.2.1 == 3)) rfl (fun hb => ?_) (fun hb => ?_)
        · rw [ite_t hb] at h
          refine E_sq ?_
          refine E_reg ?_
          refine E_op0 (v' := (.cptr (Func.av s_2.2.1).cells 1)) rfl rfl ?_
          refine E_op0 (v' := (.sl false 1 (List.map (avI .u8) s_2.2.1.Locals))) rfl rfl ?_
          refine E_op0 (v' := (.cptr (Instr.av s_2.2.2.1).cells 1)) rfl rfl ?_
          refine E_op0 (v' := (.int .i64 s_2.2.2.1.Arg)) rfl rfl ?_
          refine E_op0 (v' := (.cptr (Instr.av s_2.2.2.1).cells 1)) rfl rfl ?_
          refine E_op0 (v' := (.int .i64 s_2.2.2.1.Arg)) rfl rfl ?_
          refine E_op0 (v' := (.int .i64 (I64 (s_2.2.2.1.Arg + 1)))) rfl rfl ?_
          obtain ⟨l_4, hl_4, h⟩ := bd_some h
          refine E_slcL rfl (fun h0 => loN_int h0) (fun h0 => hiN_int h0) hl_4 ?_
          refine E_mv (v' := (.sl false 1 (List.map (avI .u8) l_4))) rfl ?_
          refine E_mv (v' := .nils) rfl ?_
          refine E_nil ?_
          refine E_nx ?_
          refine E_ret ?_
          refine E_blr ?_
          refine E_thr ?_
          cases h
          exact ⟨trivial, _, rfl, (fz_tup ⟨(fz_b ((encI .u8).blws 0) (.refl _)), (fz_b rfl .nil), trivial⟩)⟩
        · rw [ite_f hb] at h
          refine E_sq ?_
          refine E_reg ?_
          refine E_op0 (v' := (.bool (s_2.2.2.2.1 == 4))) rfl rfl ?_
          refine E_mv (v' := (.bool (s_2.2.2.2.1 == 4))) rfl ?_
          refine E_nil ?_
          refine E_nx ?_
          refine E_cs (t := (s_2.2.2.2.1 == 4)) rfl (fun hb => ?_) (fun hb => ?_)
          · rw [ite_t hb] at h
            refine E_sq ?_
            refine E_reg ?_
            refine E_opw (v' := (.sl true 1 (List.map (avI .u8) [1]))) rfl (.refl _) rfl ?_
            refine E_mv (v' := .nils) rfl ?_
            refine E_mv (v' := (.sl true 1 (List.map (avI .u8) [1]))) rfl ?_
            refine E_nil ?_
            refine E_nx ?_
            refine E_ret ?_
            refine E_blr ?_
            refine E_thr ?_
            cases h
            exact ⟨trivial, _, rfl, (fz_tup ⟨(fz_b rfl .nil), (fz_b ((encI .u8).blws 0) .ex), trivial⟩)⟩
          · rw [ite_f hb] at h
            refine E_sq ?_
            refine E_reg ?_
            refine E_op0 (v' := (.bool (s_2.2.2.2.1 == 5))) rfl rfl ?_
            refine E_mv (v' := (.bool (s_2.2.2.2.1 == 5))) rfl ?_
            refine E_nil ?_
            refine E_nx ?_
            refine E_cs (t := (s_2.2.2.2.1 == 5)) rfl (fun hb => ?_) (fun hb => ?_)
            · rw [ite_t hb] at h
              refine E_sq ?_
              refine E_reg ?_
              refine E_opw (v' := (.sl true 1 (List.map (avI .u8) [1]))) rfl (.refl _) rfl ?_
              refine E_mv (v' := (.sl true 1 (List.map (avI .u8) [0]))) rfl ?_
              refine E_mv (v' := (.sl true 1 (List.map (avI .u8) [1]))) rfl ?_
              refine E_mv (v' := (.sl true 1 (List.map (avI .u8) [0]))) rfl ?_
              refine E_nil ?_
              refine E_nx ?_
              refine E_ret ?_
              refine E_blr ?_
              refine E_thr ?_
              cases h
              exact ⟨trivial, _, rfl, (fz_tup ⟨(fz_b ((encI .u8).blws 0) .ex), (fz_b ((encI .u8).blws 0) .ex), trivial⟩)⟩
            · rw [ite_f hb] at h
              refine E_sq ?_
              refine E_reg ?_
              refine E_op0 (v' := (.bool (s_2.2.2.2.1 == 6))) rfl rfl ?_
              refine E_mv (v' := (.bool (s_2.2.2.2.1 == 6))) rfl ?_
              refine E_nil ?_
              refine E_nx ?_
              refine E_cs (t := (s_2.2.2.2.1 == 6)) rfl (fun hb => ?_) (fun hb => ?_)
              · rw [ite_t hb] at h
                refine E_sq ?_
                refine E_reg ?_
                refine E_opw (v' := (.sl true 1 (List.map (avI .u8) [1, 0]))) rfl (.refl _) rfl ?_
                refine E_mv (v' := (.sl true 1 (List.map (avI .u8) [1, 0]))) rfl ?_
                refine E_mv (v' := .nils) rfl ?_
                refine E_nil ?_
                refine E_nx ?_
                refine E_ret ?_
                refine E_blr ?_
                refine E_thr ?_
                cases h
                exact ⟨trivial, _, rfl, (fz_tup ⟨(fz_b ((encI .u8).blws 0) .ex), (fz_b rfl .nil), trivial⟩)⟩
              · rw [ite_f hb] at h
                refine E_sq ?_
                refine E_reg ?_
                refine E_op0 (v' := (.bool (s_2.2.2.2.1 == 21))) rfl rfl ?_
                refine E_mv (v' := (.bool (s_2.2.2.2.1 == 21))) rfl ?_
                refine E_nil ?_
                refine E_nx ?_
                refine E_cs (t := (s_2.2.2.2.1 == 21)) rfl (fun hb => ?_) (fun hb => ?_)
                · rw [ite_t hb] at h
                  refine E_sq ?_
                  refine E_reg ?_
                  refine E_mv (v' := .nils) rfl ?_
                  refine E_mv (v' := .nils) rfl ?_
                  refine E_nil ?_
                  refine E_nx ?_
                  refine E_ret ?_
                  refine E_blr ?_
                  refine E_thr ?_
                  cases h
                  exact ⟨trivial, _, rfl, (fz_tup ⟨(fz_b rfl .nil), (fz_b rfl .nil), trivial⟩)⟩
                · rw [ite_f hb] at h
                  refine E_as ?_
                  refine E_sq ?_
                  refine E_reg ?_
                  refine E_op0 (v' := (.bool (s_2.2.2.2.1 == 22))) rfl rfl ?_
                  refine E_mv (v' := (.bool (s_2.2.2.2.1 == 22))) rfl ?_
                  refine E_nil ?_
                  refine E_nx ?_
                  refine E_jp h (fun s_6 => [(3, (.int .u8 s_2.1)), (4, (.cptr (Program.av p_00).cells 0)), (5, (.cptr (Func.av s_2.2.1).cells 0)), (6, (.cptr (Instr.av s_2.2.2.1).cells 0)), (10, (.sl true 1 (List.map (avI .u8) [0]))), (14, (.int .u8 s_2.2.2.2.1)), (51, (.bool s_6))]) (fun s_6 => []) (fun k_5 h => ?_) (fun s_6 h => ?_)
                  · refine E_cs (t := (s_2.2.2.2.1 == 22)) rfl (fun hb => ?_) (fun hb => ?_)
                    · rw [ite_t hb] at h
                      refine E_skip ?_
                      exact E_jx _ h (wk_aw ⟨(.refl _), (.refl _), (.refl _), (.refl _), (.refl _), (.refl _), (.refl _), trivial⟩)
                    · rw [ite_f hb] at h
                      refine E_sq ?_
                      refine E_reg ?_
                      refine E_op0 (v' := (.bool (s_2.2.2.2.1 == 26))) rfl rfl ?_
                      refine E_mv (v' := (.bool (s_2.2.2.2.1 == 26))) rfl ?_
                      refine E_nil ?_
                      refine E_nx ?_
                      refine E_cs (t := (s_2.2.2.2.1 == 26)) rfl (fun hb => ?_) (fun hb => ?_)
                      · rw [ite_t hb] at h
                        refine E_skip ?_
                        exact E_jx _ h (wk_aw ⟨(.refl _), (.refl _), (.refl _), (.refl _), (.refl _), (.refl _), (.refl _), trivial⟩)
                      · rw [ite_f hb] at h
                        refine E_sq ?_
                        refine E_reg ?_
                        refine E_op0 (v' := (.bool (s_2.2.2.2.1 == 29))) rfl rfl ?_
                        refine E_mv (v' := (.bool (s_2.2.2.2.1 == 29))) rfl ?_
                        refine E_nil ?_
                        refine E_nx ?_
                        refine E_cs (t := (s_2.2.2.2.1 == 29)) rfl (fun hb => ?_) (fun hb => ?_)
                        · rw [ite_t hb] at h
                          refine E_skip ?_
                          exact E_jx _ h (wk_aw ⟨(.refl _), (.refl _), (.refl _), (.refl _), (.refl _), (.refl _), (.refl _), trivial⟩)
                        · rw [ite_f hb] at h
                          refine E_reg ?_
                          refine E_op0 (v' := (.bool (s_2.2.2.2.1 == 30))) rfl rfl ?_
                          refine E_mv (v' := (.bool (s_2.2.2.2.1 == 30))) rfl ?_
                          refine E_nil ?_
                          exact E_jx _ h (wk_aw ⟨(.refl _), (.refl _), (.refl _), (.refl _), (.refl _), (.refl _), (.refl _), trivial⟩)
                  · refine E_cs (t := s_6) rfl (fun hb => ?_) (fun hb => ?_)
                    · rw [ite_t hb] at h
                      refine E_sq ?_
                      refine E_reg ?_
                      refine E_mv (v' := (.sl true 1 (List.map (avI .u8) [0]))) rfl ?_
                      refine E_mv (v' := (.sl true 1 (List.map (avI .u8) [0]))) rfl ?_
                      refine E_mv (v' := .nils) rfl ?_
                      refine E_nil ?_
                      refine E_nx ?_
                      refine E_ret ?_
                      refine E_blr ?_
                      refine E_thr ?_
                      cases h
                      exact ⟨trivial, _, rfl, (fz_tup ⟨(fz_b ((encI .u8).blws 0) .ex), (fz_b rfl .nil), trivial⟩)⟩
                    · rw [ite_f hb] at h
                      refine E_as ?_
                      refine E_sq ?_
                      refine E_reg ?_
                      refine E_op0 (v' := (.bool (s_2.2.2.2.1 == 23))) rfl rfl ?_
                      refine E_mv (v' := (.bool (s_2.2.2.2.1 == 23))) rfl ?_
                      refine E_nil ?_
                      refine E_nx ?_
                      refine E_jp h (fun s_8 => [(3, (.int .u8 s_2.1)), (4, (.cptr (Program.av p_00).cells 0)), (5, (.cptr (Func.av s_2.2.1).cells 0)), (6, (.cptr (Instr.av s_2.2.2.1).cells 0)), (10, (.sl true 1 (List.map (avI .u8) [0]))), (14, (.int .u8 s_2.2.2.2.1)), (57, (.bool s_8))]) (fun s_8 => []) (fun k_7 h => ?_) (fun s_8 h => ?_)
                      · refine E_cs (t := (s_2.2.2.2.1 == 23)) rfl (fun hb => ?_) (fun hb => ?_)
                        · rw [ite_t hb] at h
                          refine E_skip ?_
                          exact E_jx _ h (wk_aw ⟨(.refl _), (.refl _), (.refl _), (.refl _), (.refl _), (.refl _), (.refl _), trivial⟩)
                        · rw [ite_f hb] at h
                          refine E_reg ?_
                          refine E_op0 (v' := (.bool (s_2.2.2.2.1 == 25))) rfl rfl ?_
                          refine E_mv (v' := (.bool (s_2.2.2.2.1 == 25))) rfl ?_
                          refine E_nil ?_
                          exact E_jx _ h (wk_aw ⟨(.refl _), (.refl _), (.refl _), (.refl _), (.refl _), (.refl _), (.refl _), trivial⟩)
                      · refine E_cs (t := s_8) rfl (fun hb => ?_) (fun hb => ?_)
                        · rw [ite_t hb] at h
                          refine E_sq ?_
                          refine E_reg ?_
                          refine E_op0 (v' := (.cptr (Program.av p_00).cells 0)) rfl rfl ?_
                          refine E_op0 (v' := (.sl false 5 (List.map Func.av p_00.Funcs))) rfl rfl ?_
                          refine E_op0 (v' := (.cptr (Instr.av s_2.2.2.1).cells 1)) rfl rfl ?_
                          refine E_op0 (v' := (.int .i64 s_2.2.2.1.Arg)) rfl rfl ?_
                          obtain ⟨y_9, hy_9, h⟩ := bd_some h
                          refine E_iadF rfl rfl hy_9 ?_
                          refine E_op0 (v' := (Func.av y_9)) rfl rfl ?_
                          refine E_op (v' := .ptr 0 0 0) (S' := [.arr 0 [(.int .i64 0), .nils, (.bool false), (.int .i64 0), .nils]]) rfl rfl rfl ?_
                          refine E_do (S' := [.arr 0 [(.int .i64 y_9.Params), (.sl false 1 (List.map (avI .u8) y_9.Locals)), (.bool y_9.Result), (.int .i64 y_9.Keep), (.sl false 3 (List.map Instr.av y_9.Code))]]) rfl rfl ?_
                          refine E_nil ?_
                          refine E_nx ?_
                          refine E_as ?_
                          refine E_jp h (fun s_11 => [(10, (.sl true 1 (List.map (avI .u8) [0]))), (11, (.ptr 0 0 0)), (72, (.bool s_11))]) (fun s_11 => [.arr 0 [(.int .i64 y_9.Params), (.sl false 1 (List.map (avI .u8) y_9.Locals)), (.bool y_9.Result), (.int .i64 y_9.Keep), (.sl false 3 (List.map Instr.av y_9.Code))]]) (fun k_10 h => ?_) (fun s_11 h => ?_)
                          · refine E_reg ?_
                            refine E_op0 (v' := (.cptr (Instr.av s_2.2.2.1).cells 0)) rfl rfl ?_
                            refine E_op0 (v' := (.int .u8 s_2.2.2.1.Op)) rfl rfl ?_
                            refine E_op0 (v' := (.bool (s_2.2.2.1.Op == 23))) rfl rfl ?_
                            refine E_mv (v' := (.bool (s_2.2.2.1.Op == 23))) rfl ?_
                            refine E_gsT (b := (s_2.2.2.1.Op == 23)) rfl rfl rfl (fun hb => ?_) (fun hb => ?_)
                            · rw [ite_t hb] at h
                              refine E_op0 (v' := (.ptr 0 0 2)) rfl rfl ?_
                              refine E_gh rfl ?_
                              refine E_op (v' := (.bool y_9.Result)) (S' := [.arr 0 [(.int .i64 y_9.Params), (.sl false 1 (List.map (avI .u8) y_9.Locals)), (.bool y_9.Result), (.int .i64 y_9.Keep), (.sl false 3 (List.map Instr.av y_9.Code))]]) rfl rfl rfl ?_
                              refine E_pt rfl rfl ?_
                              refine E_nil ?_
                              exact E_jx _ h (wk_rn [some (0, 0)] rfl (Nat.le_of_ble_eq_true rfl) ⟨(rn_ob rfl rfl (.cons (rn_b rfl) (.cons (rn_b ((encI .u8).blws 0)) (.cons (rn_b rfl) (.cons (rn_b rfl) (.cons (rn_b (Instr.enc.blws 0)) (.nil (Nat.zero_le _))))))) rfl), trivial⟩ ⟨(rn_b ((encI .u8).blws 0)), (rn_ptr rfl rfl rfl rfl), (rn_b rfl), trivial⟩)
                            · rw [ite_f hb] at h
                              refine E_gm rfl ?_
                              refine E_pf rfl rfl ?_
                              refine E_nil ?_
                              exact E_jx _ h (wk_rn [some (0, 0)] rfl (Nat.le_of_ble_eq_true rfl) ⟨(rn_ob rfl rfl (.cons (rn_b rfl) (.cons (rn_b ((encI .u8).blws 0)) (.cons (rn_b rfl) (.cons (rn_b rfl) (.cons (rn_b (Instr.enc.blws 0)) (.nil (Nat.zero_le _))))))) rfl), trivial⟩ ⟨(rn_b ((encI .u8).blws 0)), (rn_ptr rfl rfl rfl rfl), (rn_b rfl), trivial⟩)
                          · refine E_sq ?_
                            refine E_cs (t := s_11) rfl (fun hb => ?_) (fun hb => ?_)
                            · rw [ite_t hb] at h
                              refine E_sq ?_
                              refine E_reg ?_
                              refine E_op0 (v' := (.ptr 0 0 1)) rfl rfl ?_
                              refine E_op (v' := (.sl false 1 (List.map (avI .u8) y_9.Locals))) (S' := [.arr 0 [(.int .i64 y_9.Params), (.sl false 1 (List.map (avI .u8) y_9.Locals)), (.bool y_9.Result), (.int .i64 y_9.Keep), (.sl false 3 (List.map Instr.av y_9.Code))]]) rfl rfl rfl ?_
                              refine E_op0 (v' := (.ptr 0 0 0)) rfl rfl ?_
                              refine E_op (v' := (.int .i64 y_9.Params)) (S' := [.arr 0 [(.int .i64 y_9.Params), (.sl false 1 (List.map (avI .u8) y_9.Locals)), (.bool y_9.Result), (.int .i64 y_9.Keep), (.sl false 3 (List.map Instr.av y_9.Code))]]) rfl rfl rfl ?_
                              obtain ⟨l_12, hl_12, h⟩ := bd_some h
                              refine E_slcL rfl (fun _ => rfl) (fun h0 => hiN_int h0) hl_12 ?_
                              refine E_mv (v' := (.sl true 1 (List.map (avI .u8) [0]))) rfl ?_
                              refine E_mv (v' := (.sl false 1 (List.map (avI .u8) l_12))) rfl ?_
                              refine E_mv (v' := (.sl true 1 (List.map (avI .u8) [0]))) rfl ?_
                              refine E_nil ?_
                              refine E_nx ?_
                              refine E_ret ?_
                              refine E_thr ?_
                              refine E_blr ?_
                              refine E_thr ?_
                              cases h
                              exact ⟨trivial, _, rfl, (fz_tup ⟨(fz_b ((encI .u8).blws 0) (.refl _)), (fz_b ((encI .u8).blws 0) .ex), trivial⟩)⟩
                            · rw [ite_f hb] at h
                              refine E_skip ?_
                              refine E_nx ?_
                              refine E_sq ?_
                              refine E_reg ?_
                              refine E_op0 (v' := (.ptr 0 0 1)) rfl rfl ?_
                              refine E_op (v' := (.sl false 1 (List.map (avI .u8) y_9.Locals))) (S' := [.arr 0 [(.int .i64 y_9.Params), (.sl false 1 (List.map (avI .u8) y_9.Locals)), (.bool y_9.Result), (.int .i64 y_9.Keep), (.sl false 3 (List.map Instr.av y_9.Code))]]) rfl rfl rfl ?_
                              refine E_op0 (v' := (.ptr 0 0 0)) rfl rfl ?_
                              refine E_op (v' := (.int .i64 y_9.Params)) (S' := [.arr 0 [(.int .i64 y_9.Params), (.sl false 1 (List.map (avI .u8) y_9.Locals)), (.bool y_9.Result), (.int .i64 y_9.Keep), (.sl false 3 (List.map Instr.av y_9.Code))]]) rfl rfl rfl ?_
                              obtain ⟨l_13, hl_13, h⟩ := bd_some h
                              refine E_slcL rfl (fun _ => rfl) (fun h0 => hiN_int h0) hl_13 ?_
                              refine E_mv (v' := (.sl false 1 (List.map (avI .u8) l_13))) rfl ?_
                              refine E_mv (v' := .nils) rfl ?_
                              refine E_nil ?_
                              refine E_nx ?_
                              refine E_ret ?_
                              refine E_blr ?_
                              refine E_thr ?_
                              cases h
                              exact ⟨trivial, _, rfl, (fz_tup ⟨(fz_b ((encI .u8).blws 0) (.refl _)), (fz_b rfl .nil), trivial⟩)⟩
                        · rw [ite_f hb] at h
                          refine E_sq ?_
                          refine E_reg ?_
                          refine E_op0 (v' := (.bool (s_2.2.2.2.1 == 24))) rfl rfl ?_
                          refine E_mv (v' := (.bool (s_2.2.2.2.1 == 24))) rfl ?_
                          refine E_nil ?_
                          refine E_nx ?_
                          refine E_cs (t := (s_2.2.2.2.1 == 24)) rfl (fun hb => ?_) (fun hb => ?_)
                          · rw [ite_t hb] at h
                            refine E_as ?_
                            refine E_sq ?_
                            refine E_reg ?_
                            refine E_op0 (v' := (.cptr (Func.av s_2.2.1).cells 2)) rfl rfl ?_
                            refine E_op0 (v' := (.bool s_2.2.1.Result)) rfl rfl ?_
                            refine E_nil ?_
                            refine E_nx ?_
                            refine E_sq ?_
                            refine E_cs (t := s_2.2.1.Result) rfl (fun hb => ?_) (fun hb => ?_)
                            · rw [ite_t hb] at h
                              refine E_sq ?_
                              refine E_reg ?_
                              refine E_mv (v' := (.sl true 1 (List.map (avI .u8) [0]))) rfl ?_
                              refine E_mv (v' := (.sl true 1 (List.map (avI .u8) [0]))) rfl ?_
                              refine E_mv (v' := .nils) rfl ?_
                              refine E_nil ?_
                              refine E_nx ?_
                              refine E_ret ?_
                              refine E_thr ?_
                              refine E_blr ?_
                              refine E_thr ?_
                              cases h
                              exact ⟨trivial, _, rfl, (fz_tup ⟨(fz_b ((encI .u8).blws 0) .ex), (fz_b rfl .nil), trivial⟩)⟩
                            · rw [ite_f hb] at h
                              refine E_skip ?_
                              refine E_nx ?_
                              refine E_sq ?_
                              refine E_reg ?_
                              refine E_mv (v' := .nils) rfl ?_
                              refine E_mv (v' := .nils) rfl ?_
                              refine E_nil ?_
                              refine E_nx ?_
                              refine E_ret ?_
                              refine E_blr ?_
                              refine E_thr ?_
                              cases h
                              exact ⟨trivial, _, rfl, (fz_tup ⟨(fz_b rfl .nil), (fz_b rfl .nil), trivial⟩)⟩
                          · rw [ite_f hb] at h
                            refine E_sq ?_
                            refine E_reg ?_
                            refine E_op0 (v' := (.bool (s_2.2.2.2.1 == 27))) rfl rfl ?_
                            refine E_mv (v' := (.bool (s_2.2.2.2.1 == 27))) rfl ?_
                            refine E_nil ?_
                            refine E_nx ?_
                            refine E_cs (t := (s_2.2.2.2.1 == 27)) rfl (fun hb => ?_) (fun hb => ?_)
                            · rw [ite_t hb] at h
                              refine E_sq ?_
                              refine E_reg ?_
                              refine E_opw (v' := (.sl true 1 (List.map (avI .u8) [0, 0]))) rfl (.refl _) rfl ?_
                              refine E_mv (v' := .nils) rfl ?_
                              refine E_mv (v' := (.sl true 1 (List.map (avI .u8) [0, 0]))) rfl ?_
                              refine E_nil ?_
                              refine E_nx ?_
                              refine E_ret ?_
                              refine E_blr ?_
                              refine E_thr ?_
                              cases h
                              exact ⟨trivial, _, rfl, (fz_tup ⟨(fz_b rfl .nil), (fz_b ((encI .u8).blws 0) .ex), trivial⟩)⟩
                            · rw [ite_f hb] at h
                              refine E_sq ?_
                              refine E_reg ?_
                              refine E_op0 (v' := (.bool (s_2.2.2.2.1 == 31))) rfl rfl ?_
                              refine E_mv (v' := (.bool (s_2.2.2.2.1 == 31))) rfl ?_
                              refine E_nil ?_
                              refine E_nx ?_
                              refine E_cs (t := (s_2.2.2.2.1 == 31)) rfl (fun hb => ?_) (fun hb => ?_)
                              · rw [ite_t hb] at h
                                refine E_sq ?_
                                refine E_reg ?_
                                refine E_mv (v' := (.int .u8 s_2.1)) rfl ?_
                                refine E_opw (v' := (.sl true 1 (List.map (avI .u8) [s_2.1]))) rfl (.refl _) rfl ?_
                                refine E_mv (v' := (.sl true 1 (List.map (avI .u8) [s_2.1]))) rfl ?_
                                refine E_mv (v' := .nils) rfl ?_
                                refine E_nil ?_
                                refine E_nx ?_
                                refine E_ret ?_
                                refine E_blr ?_
                                refine E_thr ?_
                                cases h
                                exact ⟨trivial, _, rfl, (fz_tup ⟨(fz_b ((encI .u8).blws 0) .ex), (fz_b rfl .nil), trivial⟩)⟩
                              · rw [ite_f hb] at h
                                refine E_sq ?_
                                refine E_reg ?_
                                refine E_op0 (v' := (.bool (s_2.2.2.2.1 == 32))) rfl rfl ?_
                                refine E_mv (v' := (.bool (s_2.2.2.2.1 == 32))) rfl ?_
                                refine E_nil ?_
                                refine E_nx ?_
                                refine E_cs (t := (s_2.2.2.2.1 == 32)) rfl (fun hb => ?_) (fun hb => ?_)
                                · rw [ite_t hb] at h
                                  refine E_sq ?_
                                  refine E_reg ?_
                                  refine E_mv (v' := (.int .u8 s_2.1)) rfl ?_
                                  refine E_opw (v' := (.sl true 1 (List.map (avI .u8) [s_2.1]))) rfl (.refl _) rfl ?_
                                  refine E_mv (v' := (.int .u8 s_2.1)) rfl ?_
                                  refine E_mv (v' := (.int .u8 s_2.1)) rfl ?_
                                  refine E_opw (v' := (.sl true 1 (List.map (avI .u8) [s_2.1, s_2.1]))) rfl (.refl _) rfl ?_
                                  refine E_mv (v' := (.sl true 1 (List.map (avI .u8) [s_2.1]))) rfl ?_
                                  refine E_mv (v' := (.sl true 1 (List.map (avI .u8) [s_2.1, s_2.1]))) rfl ?_
                                  refine E_nil ?_
                                  refine E_nx ?_
                                  refine E_ret ?_
                                  refine E_blr ?_
                                  refine E_thr ?_
                                  cases h
                                  exact ⟨trivial, _, rfl, (fz_tup ⟨(fz_b ((encI .u8).blws 0) .ex), (fz_b ((encI .u8).blws 0) .ex), trivial⟩)⟩
                                · rw [ite_f hb] at h
                                  refine E_skip ?_
                                  refine E_bln ?_
                                  refine E_nx ?_
                                  refine E_sq ?_
                                  refine E_reg ?_
                                  refine E_opw (v' := (.sl true 1 (List.map (avI .u8) [0, 0]))) rfl (.refl _) rfl ?_
                                  refine E_mv (v' := (.sl true 1 (List.map (avI .u8) [0]))) rfl ?_
                                  refine E_mv (v' := (.sl true 1 (List.map (avI .u8) [0, 0]))) rfl ?_
                                  refine E_mv (v' := (.sl true 1 (List.map (avI .u8) [0]))) rfl ?_
                                  refine E_nil ?_
                                  refine E_nx ?_
                                  refine E_ret ?_
                                  cases h
                                  exact ⟨trivial, _, rfl, (fz_tup ⟨(fz_b ((encI .u8).blws 0) .ex), (fz_b ((encI .u8).blws 0) .ex), trivial⟩)⟩
/- slices.Equal[[]windlass/api.Kind,windlass/api.Kind] -/
def fc26 : FC := (.seq (.reg [⟨(some 4), none, .op (.mv (.v (.bool false)))⟩] [])
  (.seq (.seq (.reg [⟨(some 6), none, .op (.mv (.t 0))⟩,
  ⟨(some 7), none, .op (.len .sl (.t 6))⟩,
  ⟨(some 8), none, .op (.mv (.t 1))⟩,
  ⟨(some 9), none, .op (.len .sl (.t 8))⟩,
  ⟨(some 10), none, .op (.bin .none .neq (.t 7) (.t 9))⟩] [])
  (.cond (.t 10)
  (.seq (.reg [⟨(some 4), none, .op (.mv (.v (.bool false)))⟩] [])
  .ret)
  .skip))
  (.seq (.seq (.reg [⟨(some 11), none, .op (.mv (.t 0))⟩,
  ⟨(some 12), none, .op (.len .sl (.t 11))⟩,
  ⟨(some 13), none, .op (.mv (.v (.int .i64 0)))⟩] [])
  (.block 0 (.loop (.seq (.reg [⟨(some 14), none, .op (.bin .none .lss (.t 13) (.t 12))⟩] [])
  (.seq (.cond (.t 14)
  .skip
  (.exit 0))
  (.seq (.block 1 (.seq (.reg [⟨(some 15), none, .op (.mv (.t 13))⟩,
  ⟨(some 5), none, .op (.mv (.t 15))⟩] [])
  (.seq (.reg [⟨(some 16), none, .op (.mv (.t 0))⟩,
  ⟨(some 17), none, .op (.mv (.t 5))⟩,
  ⟨(some 18), none, .op (.iad none none (.t 16) (.t 17))⟩,
  ⟨(some 19), none, .op (.load none (.t 18))⟩,
  ⟨(some 20), none, .op (.mv (.t 1))⟩,
  ⟨(some 21), none, .op (.mv (.t 5))⟩,
  ⟨(some 22), none, .op (.iad none none (.t 20) (.t 21))⟩,
  ⟨(some 23), none, .op (.load none (.t 22))⟩,
  ⟨(some 24), none, .op (.bin .none .neq (.t 19) (.t 23))⟩] [])
  (.cond (.t 24)
  (.seq (.reg [⟨(some 4), none, .op (.mv (.v (.bool false)))⟩] [])
  .ret)
  .skip))))
  (.reg [⟨(some 25), none, .op (.bin .none .add (.t 13) (.v (.int .i64 1)))⟩,
  ⟨(some 13), none, .op (.mv (.t 25))⟩] [])))))))
  (.seq (.reg [⟨(some 4), none, .op (.mv (.v (.bool true)))⟩] [])
  .ret))))
theorem fn26 : Fn3 Try.prog 26 26 [(4, none)] fc26 := ⟨_, _, Try.func26, rfl, rfl, rfl, by kernel_rfl⟩
def slices_Equal_s (s1_00 : (List Int)) (s2_01 : (List Int)) : Option Bool :=
  (if ((List.length s1_00 : Int) != (List.length s2_01 : Int)) then (some false) else ((rni (fun (i_2 : Nat) (s_1 : (List Int)) => (((getI s1_00 (i_2 : Int)).bind fun y_3 => ((getI s_1 (i_2 : Int)).bind fun y_4 => (if (y_3 != y_4) then (some (.ret (some false))) else (some (.nxt s_1))))) : Option (Stp (List Int) (Option Bool)))) (List.length s1_00 : Int) s2_01).bind (oc (fun (s_1 : (List Int)) => (some true)))))
theorem slices_Equal_ev {s1_00 : (List Int)} {s2_01 : (List Int)} {r : Bool} (h : slices_Equal_s s1_00 s2_01 = some r) : PureEv Try.prog 26 [(.sl false 1 (List.map (avI .u8) s1_00)), (.sl false 1 (List.map (avI .u8) s2_01))] (.bool r) := by
  unfold slices_Equal_s at h
  refine PureEv_end mixed fn26 (by simp) [] 6 ?_
  unfold fc26
  refine E_sq ?_
  refine E_reg ?_
  refine E_mv (v' := (.bool false)) rfl ?_
  refine E_nil ?_
  refine E_nx ?_
  refine E_as ?_
  refine E_sq ?_
  refine E_reg ?_
  refine E_mv (v' := (.sl false 1 (List.map (avI .u8) s1_00))) rfl ?_
  refine E_len rfl ?_
  refine E_mv (v' := (.sl false 1 (List.map (avI .u8) s2_01))) rfl ?_
  refine E_len rfl ?_
  refine E_op0 (v' := (.bool ((List.length s1_00 : Int) != (List.length s2_01 : Int)))) rfl rfl ?_
  refine E_nil ?_
  refine E_nx ?_
  refine E_sq ?_
  refine E_cs (t := ((List.length s1_00 : Int) != (List.length s2_01 : Int))) rfl (fun hb => ?_) (fun hb => ?_)
  · rw [ite_t hb] at h
    refine E_sq ?_
    refine E_reg ?_
    refine E_mv (v' := (.bool false)) rfl ?_
    refine E_nil ?_
    refine E_nx ?_
    refine E_ret ?_
    refine E_thr ?_
    cases h
    exact ⟨trivial, _, rfl, (fz_b rfl (.refl _))⟩
  · rw [ite_f hb] at h
    refine E_skip ?_
    refine E_nx ?_
    refine E_as ?_
    refine E_sq ?_
    refine E_reg ?_
    refine E_mv (v' := (.sl false 1 (List.map (avI .u8) s1_00))) rfl ?_
    refine E_len rfl ?_
    refine E_mv (v' := (.int .i64 0)) rfl ?_
    refine E_nil ?_
    refine E_nx ?_
    refine E_sq ?_
    refine E_rniO (fun s_1 => [(0, (.sl false 1 (List.map (avI .u8) s1_00))), (1, (.sl false 1 (List.map (avI .u8) s_1)))]) (fun s_1 => []) h (by decide) (by decide) (fun _ => ⟨rfl, rfl, rfl, rfl⟩) (wk_aw ⟨(.refl _), (.refl _), (.refl _), (.refl _), trivial⟩) (fun i_2 s_1 c hlt h => ?_) (fun s_1 fr' S' h hw => ?_)
    · refine E_sq ?_
      refine E_reg ?_
      refine E_mv (v' := (.int .i64 (i_2 : Int))) rfl ?_
      refine E_mv (v' := (.int .i64 (i_2 : Int))) rfl ?_
      refine E_nil ?_
      refine E_nx ?_
      refine E_sq ?_
      refine E_reg ?_
      refine E_mv (v' := (.sl false 1 (List.map (avI .u8) s1_00))) rfl ?_
      refine E_mv (v' := (.int .i64 (i_2 : Int))) rfl ?_
      obtain ⟨y_3, hy_3, h⟩ := bd_some h
      refine E_iadF rfl rfl hy_3 ?_
      refine E_op0 (v' := (.int .u8 y_3)) rfl rfl ?_
      refine E_mv (v' := (.sl false 1 (List.map (avI .u8) s_1))) rfl ?_
      refine E_mv (v' := (.int .i64 (i_2 : Int))) rfl ?_
      obtain ⟨y_4, hy_4, h⟩ := bd_some h
      refine E_iadF rfl rfl hy_4 ?_
      refine E_op0 (v' := (.int .u8 y_4)) rfl rfl ?_
      refine E_op0 (v' := (.bool (y_3 != y_4))) rfl rfl ?_
      refine E_nil ?_
      refine E_nx ?_
      refine E_cs (t := (y_3 != y_4)) rfl (fun hb => ?_) (fun hb => ?_)
      · rw [ite_t hb] at h
        refine E_sq ?_
        refine E_reg ?_
        refine E_mv (v' := (.bool false)) rfl ?_
        refine E_nil ?_
        refine E_nx ?_
        refine E_ret ?_
        cases h
        refine L_rrO rfl (fun h => ?_)
        refine E_thr ?_
        cases h
        exact ⟨trivial, _, rfl, (fz_b rfl (.refl _))⟩
      · rw [ite_f hb] at h
        refine E_skip ?_
        cases h
        exact L_nn rfl (wk_aw ⟨(.refl _), (.refl _), (.refl _), (.refl _), trivial⟩)
    · refine X_nx hw ?_
      refine E_sq ?_
      refine E_reg ?_
      refine E_mv (v' := (.bool true)) rfl ?_
      refine E_nil ?_
      refine E_nx ?_
      refine E_ret ?_
      cases h
      exact ⟨trivial, _, rfl, (fz_b rfl (.refl _))⟩
/- slices.Clone[[]windlass/api.Kind,windlass/api.Kind] -/
def fc27 : FC := (.seq (.reg [⟨(some 2), none, .op (.mv (.v .nils))⟩] [])
  (.seq (.seq (.reg [⟨(some 3), none, .op (.mv (.t 0))⟩,
  ⟨(some 4), none, .op (.bin .flat .eql (.t 3) (.v .nils))⟩] [])
  (.cond (.t 4)
  (.seq (.reg [⟨(some 2), none, .op (.mv (.v .nils))⟩] [])
  .ret)
  .skip))
  (.seq (.reg [⟨(some 5), none, .op (.bsl none [(.int .u8 0)] 0 [])⟩,
  ⟨(some 6), none, .op (.mv (.t 0))⟩,
  ⟨(some 7), none, .op (.app none 1 (.t 5) (.t 6))⟩,
  ⟨(some 2), none, .op (.mv (.t 7))⟩] [])
  .ret)))
theorem fn27 : Fn3 Try.prog 27 8 [(2, none)] fc27 := ⟨_, _, Try.func27, rfl, rfl, rfl, by kernel_rfl⟩
def slices_Clone_s (s_00 : List Int) : Option (List Int) :=
  ((appL 1 [] s_00).bind fun l_1 => (some l_1))
theorem slices_Clone_ev {s_00 : List Int} {r : List Int} (h : slices_Clone_s s_00 = some r) : Ev Try.prog 27 [.sl false 1 (List.map (avI .u8) s_00)] (hp []) (.ref 0 1 0 (List.length r) none) (hp [.arr 1 (flat (avI .u8) r)]) := by
  unfold slices_Clone_s at h
  obtain ⟨l_1, hl_1, h2⟩ := bd_some h
  clear h
  refine Ev_sl (fun hx => ?_) (fun hx => ?_) (fun hx => ?_)
  · obtain rfl : s_00 = [] := by simpa using hx
    have e : l_1 = [] := by unfold appL at hl_1; split at hl_1 <;> simp_all
    subst e
    refine Ev_end mixed fn27 (by simp) [5] ?_
    unfold fc27
    refine E_sq ?_
    refine E_reg ?_
    refine E_mv (v' := .nils) rfl ?_
    refine E_nil ?_
    refine E_nx ?_
    refine E_as ?_
    refine E_sq ?_
    refine E_reg ?_
    refine E_mv (v' := .nils) rfl ?_
    refine E_op0 (v' := (.bool true)) rfl rfl ?_
    refine E_nil ?_
    refine E_nx ?_
    refine E_sq ?_
    refine E_cs (t := true) rfl (fun hb => ?_) (fun hb => ?_)
    · refine E_sq ?_
      refine E_reg ?_
      refine E_mv (v' := .nils) rfl ?_
      refine E_nil ?_
      refine E_nx ?_
      refine E_ret ?_
      refine E_thr ?_
      cases h2
      exact ⟨trivial, _, _, rfl, gwk_rn [none] rfl (Nat.le_of_ble_eq_true rfl) ⟨(rn_obN rfl rfl rfl), trivial⟩, (rn_nil rfl)⟩
    · cases hb
  · obtain rfl : s_00 = [] := by simpa using hx
    refine Ev_end mixed fn27 (by simp) [5] ?_
    unfold fc27
    refine E_sq ?_
    refine E_reg ?_
    refine E_mv (v' := .nils) rfl ?_
    refine E_nil ?_
    refine E_nx ?_
    refine E_as ?_
    refine E_sq ?_
    refine E_reg ?_
    refine E_mv (v' := (.snn 1)) rfl ?_
    refine E_op0 (v' := (.bool false)) rfl rfl ?_
    refine E_nil ?_
    refine E_nx ?_
    refine E_sq ?_
    refine E_cs (t := false) rfl (fun hb => ?_) (fun hb => ?_)
    · cases hb
    · refine E_skip ?_
      refine E_nx ?_
      refine E_sq ?_
      refine E_reg ?_
      refine E_op (v' := (.ref 0 0 0 0 none)) (S' := [.arr 0 []]) rfl rfl rfl ?_
      refine E_mv (v' := (.snn 1)) rfl ?_
      refine E_apL (S' := [.arr 1 (flat (avI .u8) l_1)]) (encI .u8) (l := []) rfl (rfl) rfl hl_1 rfl ?_
      refine E_mv (v' := (.ref 0 1 0 (List.length l_1) none)) rfl ?_
      refine E_nil ?_
      refine E_nx ?_
      refine E_ret ?_
      cases h2
      exact ⟨trivial, _, _, rfl, gwk_rn [some (0, 0)] rfl (Nat.le_of_ble_eq_true rfl) ⟨(rn_ob rfl rfl (.refl ((encI .u8).blwf 0 _)) rfl), trivial⟩, (rn_refL (encI .u8) rfl rfl rfl)⟩
  · obtain ⟨x, xs, rfl⟩ : ∃ x xs, s_00 = x :: xs := by cases s_00 with | nil => exact (hx rfl).elim | cons x xs => exact ⟨x, xs, rfl⟩
    refine Ev_end mixed fn27 (by simp) [5] ?_
    unfold fc27
    refine E_sq ?_
    refine E_reg ?_
    refine E_mv (v' := .nils) rfl ?_
    refine E_nil ?_
    refine E_nx ?_
    refine E_as ?_
    refine E_sq ?_
    refine E_reg ?_
    refine E_mv (v' := (.sl false 1 (List.map (avI .u8) (x :: xs)))) rfl ?_
    refine E_op0 (v' := (.bool false)) rfl rfl ?_
    refine E_nil ?_
    refine E_nx ?_
    refine E_sq ?_
    refine E_cs (t := false) rfl (fun hb => ?_) (fun hb => ?_)
    · cases hb
    · refine E_skip ?_
      refine E_nx ?_
      refine E_sq ?_
      refine E_reg ?_
      refine E_op (v' := (.ref 0 0 0 0 none)) (S' := [.arr 0 []]) rfl rfl rfl ?_
      refine E_mv (v' := (.sl false 1 (List.map (avI .u8) (x :: xs)))) rfl ?_
      refine E_apL (S' := [.arr 1 (flat (avI .u8) l_1)]) (encI .u8) (l := []) rfl (src_sl (x :: xs)) rfl hl_1 rfl ?_
      refine E_mv (v' := (.ref 0 1 0 (List.length l_1) none)) rfl ?_
      refine E_nil ?_
      refine E_nx ?_
      refine E_ret ?_
      cases h2
      exact ⟨trivial, _, _, rfl, gwk_rn [some (0, 0)] rfl (Nat.le_of_ble_eq_true rfl) ⟨(rn_ob rfl rfl (.refl ((encI .u8).blwf 0 _)) rfl), trivial⟩, (rn_refL (encI .u8) rfl rfl rfl)⟩
/- windlass/kinds.follow -/
def fc28 : FC := (.seq (.reg [⟨(some 2), none, .op (.box (.t 0))⟩,
  ⟨(some 4), none, .op (.mv (.v .nils))⟩] [])
  (.seq (.seq (.reg [⟨(some 5), none, .op (.fad 0 (.t 2))⟩,
  ⟨(some 6), none, .op (.load none (.t 5))⟩] [])
  (.block 0 (.seq (.reg [⟨(some 8), none, .op (.bin .none .eql (.t 6) (.v (.int .u8 21)))⟩,
  ⟨(some 7), none, .op (.mv (.t 8))⟩] [])
  (.cond (.t 7)
  (.seq (.reg [⟨(some 9), none, .op (.fad 1 (.t 2))⟩,
  ⟨(some 10), none, .op (.load none (.t 9))⟩,
  ⟨(some 11), none, .op (.bsl none [(.int .i64 0)] 1 [(0, 1, (.t 10))])⟩,
  ⟨(some 4), none, .op (.mv (.t 11))⟩] [])
  .ret)
  (.seq (.reg [⟨(some 13), none, .op (.bin .none .eql (.t 6) (.v (.int .u8 22)))⟩,
  ⟨(some 12), none, .op (.mv (.t 13))⟩] [])
  (.cond (.t 12)
  (.seq (.reg [⟨(some 14), none, .op (.mv (.t 1))⟩,
  ⟨(some 15), none, .op (.bin .none .add (.t 14) (.v (.int .i64 1)))⟩,
  ⟨(some 16), none, .op (.fad 1 (.t 2))⟩,
  ⟨(some 17), none, .op (.load none (.t 16))⟩,
  ⟨(some 18), none, .op (.bsl none [(.int .i64 0)] 2 [(0, 1, (.t 15)), (1, 1, (.t 17))])⟩,
  ⟨(some 4), none, .op (.mv (.t 18))⟩] [])
  .ret)
  (.seq (.seq (.reg [⟨(some 20), none, .op (.bin .none .eql (.t 6) (.v (.int .u8 24)))⟩,
  ⟨(some 19), none, .op (.mv (.t 20))⟩] [])
  (.cond (.t 19)
  .skip
  (.seq (.reg [⟨(some 21), none, .op (.bin .none .eql (.t 6) (.v (.int .u8 26)))⟩,
  ⟨(some 19), none, .op (.mv (.t 21))⟩] [])
  (.cond (.t 19)
  .skip
  (.reg [⟨(some 22), none, .op (.bin .none .eql (.t 6) (.v (.int .u8 30)))⟩,
  ⟨(some 19), none, .op (.mv (.t 22))⟩] [])))))
  (.cond (.t 19)
  (.seq (.reg [⟨(some 4), none, .op (.mv (.v .nils))⟩] [])
  .ret)
  .skip))))))))
  (.seq (.reg [⟨(some 23), none, .op (.mv (.t 1))⟩,
  ⟨(some 24), none, .op (.bin .none .add (.t 23) (.v (.int .i64 1)))⟩,
  ⟨(some 25), none, .op (.bsl none [(.int .i64 0)] 1 [(0, 1, (.t 24))])⟩,
  ⟨(some 4), none, .op (.mv (.t 25))⟩] [])
  .ret)))
theorem fn28 : Fn3 Try.prog 28 26 [(4, none)] fc28 := ⟨_, _, Try.func28, rfl, rfl, rfl, by kernel_rfl⟩
def kinds_follow_s (i_00 : Instr) (vat_01 : Int) : Option (List Int) :=
  (if (i_00.Op == 21) then (some [i_00.Arg]) else (if (i_00.Op == 22) then (some [(I64 (vat_01 + 1)), i_00.Arg]) else (jp (fun (s_2 : (Int × Bool)) => (if s_2.2 then (some []) else (some [(I64 (s_2.1 + 1))]))) (fun k_1 => (if (i_00.Op == 24) then (k_1 (vat_01, (i_00.Op == 24))) else (if (i_00.Op == 26) then (k_1 (vat_01, (i_00.Op == 26))) else (k_1 (vat_01, (i_00.Op == 30)))))))))
theorem kinds_follow_ev {i_00 : Instr} {vat_01 : Int} {r : (List Int)} (h : kinds_follow_s i_00 vat_01 = some r) : PureEv Try.prog 28 [(Instr.av i_00), (.int .i64 vat_01)] (.sl false 1 (List.map (avI .i64) r)) := by
  unfold kinds_follow_s at h
  refine PureEv_end mixed fn28 (by simp) [] 6 ?_
  unfold fc28
  refine E_sq ?_
  refine E_reg ?_
  refine E_op0 (v' := (.cptr (Instr.av i_00).cells 0)) rfl rfl ?_
  refine E_mv (v' := .nils) rfl ?_
  refine E_nil ?_
  refine E_nx ?_
  refine E_as ?_
  refine E_sq ?_
  refine E_reg ?_
  refine E_op0 (v' := (.cptr (Instr.av i_00).cells 0)) rfl rfl ?_
  refine E_op0 (v' := (.int .u8 i_00.Op)) rfl rfl ?_
  refine E_nil ?_
  refine E_nx ?_
  refine E_sq ?_
  refine E_block ?_
  refine E_sq ?_
  refine E_reg ?_
  refine E_op0 (v' := (.bool (i_00.Op == 21))) rfl rfl ?_
  refine E_mv (v' := (.bool (i_00.Op == 21))) rfl ?_
  refine E_nil ?_
  refine E_nx ?_
  refine E_cs (t := (i_00.Op == 21)) rfl (fun hb => ?_) (fun hb => ?_)
  · rw [ite_t hb] at h
    refine E_sq ?_
    refine E_reg ?_
    refine E_op0 (v' := (.cptr (Instr.av i_00).cells 1)) rfl rfl ?_
    refine E_op0 (v' := (.int .i64 i_00.Arg)) rfl rfl ?_
    refine E_opw (v' := (.sl true 1 (List.map (avI .i64) [i_00.Arg]))) rfl (.refl _) rfl ?_
    refine E_mv (v' := (.sl true 1 (List.map (avI .i64) [i_00.Arg]))) rfl ?_
    refine E_nil ?_
    refine E_nx ?_
    refine E_ret ?_
    refine E_blr ?_
    refine E_thr ?_
    cases h
    exact ⟨trivial, _, rfl, (fz_b ((encI .i64).blws 0) .ex)⟩
  · rw [ite_f hb] at h
    refine E_sq ?_
    refine E_reg ?_
    refine E_op0 (v' := (.bool (i_00.Op == 22))) rfl rfl ?_
    refine E_mv (v' := (.bool (i_00.Op == 22))) rfl ?_
    refine E_nil ?_
    refine E_nx ?_
    refine E_cs (t := (i_00.Op == 22)) rfl (fun hb => ?_) (fun hb => ?_)
    · rw [ite_t hb] at h
      refine E_sq ?_
      refine E_reg ?_
      refine E_mv (v' := (.int .i64 vat_01)) rfl ?_
      refine E_op0 (v' := (.int .i64 (I64 (vat_01 + 1)))) rfl rfl ?_
      refine E_op0 (v' := (.cptr (Instr.av i_00).cells 1)) rfl rfl ?_
      refine E_op0 (v' := (.int .i64 i_00.Arg)) rfl rfl ?_
      refine E_opw (v' := (.sl true 1 (List.map (avI .i64) [(I64 (vat_01 + 1)), i_00.Arg]))) rfl (.refl _) rfl ?_
      refine E_mv (v' := (.sl true 1 (List.map (avI .i64) [(I64 (vat_01 + 1)), i_00.Arg]))) rfl ?_
      refine E_nil ?_
      refine E_nx ?_
      refine E_ret ?_
      refine E_blr ?_
      refine E_thr ?_
      cases h
      exact ⟨trivial, _, rfl, (fz_b ((encI .i64).blws 0) .ex)⟩
    · rw [ite_f hb] at h
      refine E_as ?_
      refine E_sq ?_
      refine E_reg ?_
      refine E_op0 (v' := (.bool (i_00.Op == 24))) rfl rfl ?_
      refine E_mv (v' := (.bool (i_00.Op == 24))) rfl ?_
      refine E_nil ?_
      refine E_nx ?_
      refine E_jp h (fun s_2 => [(1, (.int .i64 s_2.1)), (19, (.bool s_2.2))]) (fun s_2 => []) (fun k_1 h => ?_) (fun s_2 h => ?_)
      · refine E_cs (t := (i_00.Op == 24)) rfl (fun hb => ?_) (fun hb => ?_)
        · rw [ite_t hb] at h
          refine E_skip ?_
          exact E_jx _ h (wk_aw ⟨(.refl _), (.refl _), trivial⟩)
        · rw [ite_f hb] at h
          refine E_sq ?_
          refine E_reg ?_
          refine E_op0 (v' := (.bool (i_00.Op == 26))) rfl rfl ?_
          refine E_mv (v' := (.bool (i_00.Op == 26))) rfl ?_
          refine E_nil ?_
          refine E_nx ?_
          refine E_cs (t := (i_00.Op == 26)) rfl (fun hb => ?_) (fun hb => ?_)
          · rw [ite_t hb] at h
            refine E_skip ?_
            exact E_jx _ h (wk_aw ⟨(.refl _), (.refl _), trivial⟩)
          · rw [ite_f hb] at h
            refine E_reg ?_
            refine E_op0 (v' := (.bool (i_00.Op == 30))) rfl rfl ?_
            refine E_mv (v' := (.bool (i_00.Op == 30))) rfl ?_
            refine E_nil ?_
            exact E_jx _ h (wk_aw ⟨(.refl _), (.refl _), trivial⟩)
      · refine E_cs (t := s_2.2) rfl (fun hb => ?_) (fun hb => ?_)
        · rw [ite_t hb] at h
          refine E_sq ?_
          refine E_reg ?_
          refine E_mv (v' := .nils) rfl ?_
          refine E_nil ?_
          refine E_nx ?_
          refine E_ret ?_
          refine E_blr ?_
          refine E_thr ?_
          cases h
          exact ⟨trivial, _, rfl, (fz_b rfl .nil)⟩
        · rw [ite_f hb] at h
          refine E_skip ?_
          refine E_bln ?_
          refine E_nx ?_
          refine E_sq ?_
          refine E_reg ?_
          refine E_mv (v' := (.int .i64 s_2.1)) rfl ?_
          refine E_op0 (v' := (.int .i64 (I64 (s_2.1 + 1)))) rfl rfl ?_
          refine E_opw (v' := (.sl true 1 (List.map (avI .i64) [(I64 (s_2.1 + 1))]))) rfl (.refl _) rfl ?_
          refine E_mv (v' := (.sl true 1 (List.map (avI .i64) [(I64 (s_2.1 + 1))]))) rfl ?_
          refine E_nil ?_
          refine E_nx ?_
          refine E_ret ?_
          cases h
          exact ⟨trivial, _, rfl, (fz_b ((encI .i64).blws 0) .ex)⟩
def slices_Equal_r_s (s1_00 : (List Int)) (s2_01 : (List Int)) : Option Bool :=
  (if ((List.length s1_00 : Int) != (List.length s2_01 : Int)) then (some false) else ((rni (fun (i_2 : Nat) (s_1 : Unit) => (((getI s1_00 (i_2 : Int)).bind fun y_3 => ((getI s2_01 (i_2 : Int)).bind fun y_4 => (if (y_3 != y_4) then (some (.ret (some false))) else (some (.nxt ()))))) : Option (Stp Unit (Option Bool)))) (List.length s1_00 : Int) ()).bind (oc (fun (s_1 : Unit) => (some true)))))
theorem slices_Equal_r_ev {s1_00 : (List Int)} {s2_01 : (List Int)} {r : Bool} (h : slices_Equal_r_s s1_00 s2_01 = some r) : Ev Try.prog 26 [(.sl false 1 (List.map (avI .u8) s1_00)), (.ref 0 0 0 (List.length s2_01) none)] (hp [.arr 0 (flat (avI .u8) s2_01)]) (.bool r) (hp [.arr 0 (flat (avI .u8) s2_01)]) := by
  unfold slices_Equal_r_s at h
  refine Ev_end mixed fn26 (by simp) [] ?_
  unfold fc26
  refine E_sq ?_
  refine E_reg ?_
  refine E_mv (v' := (.bool false)) rfl ?_
  refine E_nil ?_
  refine E_nx ?_
  refine E_as ?_
  refine E_sq ?_
  refine E_reg ?_
  refine E_mv (v' := (.sl false 1 (List.map (avI .u8) s1_00))) rfl ?_
  refine E_len rfl ?_
  refine E_mv (v' := (.ref 0 0 0 (List.length s2_01) none)) rfl ?_
  refine E_lenR rfl ?_
  refine E_op0 (v' := (.bool ((List.length s1_00 : Int) != (List.length s2_01 : Int)))) rfl rfl ?_
  refine E_nil ?_
  refine E_nx ?_
  refine E_sq ?_
  refine E_cs (t := ((List.length s1_00 : Int) != (List.length s2_01 : Int))) rfl (fun hb => ?_) (fun hb => ?_)
  · rw [ite_t hb] at h
    refine E_sq ?_
    refine E_reg ?_
    refine E_mv (v' := (.bool false)) rfl ?_
    refine E_nil ?_
    refine E_nx ?_
    refine E_ret ?_
    refine E_thr ?_
    cases h
    exact ⟨trivial, _, _, rfl, gwk_rn [some (0, 0)] rfl (Nat.le_of_ble_eq_true rfl) ⟨(rn_obS rfl rfl (.refl ((encI .u8).blwf 0 _)) rfl), trivial⟩, (rn_b rfl)⟩
  · rw [ite_f hb] at h
    refine E_skip ?_
    refine E_nx ?_
    refine E_as ?_
    refine E_sq ?_
    refine E_reg ?_
    refine E_mv (v' := (.sl false 1 (List.map (avI .u8) s1_00))) rfl ?_
    refine E_len rfl ?_
    refine E_mv (v' := (.int .i64 0)) rfl ?_
    refine E_nil ?_
    refine E_nx ?_
    refine E_sq ?_
    refine E_rniO (fun s_1 => [(0, (.sl false 1 (List.map (avI .u8) s1_00))), (1, (.ref 0 0 0 (List.length s2_01) none))]) (fun s_1 => [.arr 0 (flat (avI .u8) s2_01)]) h (by decide) (by decide) (fun _ => ⟨rfl, rfl, rfl, rfl⟩) (wk_rn [some (0, 0)] rfl (Nat.le_of_ble_eq_true rfl) ⟨(rn_obS rfl rfl (.refl ((encI .u8).blwf 0 _)) rfl), trivial⟩ ⟨(rn_b rfl), (rn_b rfl), (rn_b ((encI .u8).blws 0)), (rn_refL (encI .u8) rfl rfl rfl), trivial⟩) (fun i_2 s_1 c hlt h => ?_) (fun s_1 fr' S' h hw => ?_)
    · refine E_sq ?_
      refine E_reg ?_
      refine E_mv (v' := (.int .i64 (i_2 : Int))) rfl ?_
      refine E_mv (v' := (.int .i64 (i_2 : Int))) rfl ?_
      refine E_nil ?_
      refine E_nx ?_
      refine E_sq ?_
      refine E_reg ?_
      refine E_mv (v' := (.sl false 1 (List.map (avI .u8) s1_00))) rfl ?_
      refine E_mv (v' := (.int .i64 (i_2 : Int))) rfl ?_
      obtain ⟨y_3, hy_3, h⟩ := bd_some h
      refine E_iadF rfl rfl hy_3 ?_
      refine E_op0 (v' := (.int .u8 y_3)) rfl rfl ?_
      refine E_mv (v' := (.ref 0 0 0 (List.length s2_01) none)) rfl ?_
      refine E_mv (v' := (.int .i64 (i_2 : Int))) rfl ?_
      obtain ⟨y_4, hy_4, h⟩ := bd_some h
      refine E_iadR rfl rfl ⟨(getI_some hy_4).1, (getI_some hy_4).2.1⟩ ?_
      refine E_ldR (encI .u8) rfl rfl (by first | rfl | exact (Nat.add_zero _).symm | (simp only [Nat.zero_add]; exact (Nat.add_zero _).symm) | (simp only [Nat.zero_add, Nat.add_zero])) (getI_some hy_4).2.2 rfl (.refl _) ?_
      refine E_op0 (v' := (.bool (y_3 != y_4))) rfl rfl ?_
      refine E_nil ?_
      refine E_nx ?_
      refine E_cs (t := (y_3 != y_4)) rfl (fun hb => ?_) (fun hb => ?_)
      · rw [ite_t hb] at h
        refine E_sq ?_
        refine E_reg ?_
        refine E_mv (v' := (.bool false)) rfl ?_
        refine E_nil ?_
        refine E_nx ?_
        refine E_ret ?_
        cases h
        refine L_rrO rfl (fun h => ?_)
        refine E_thr ?_
        cases h
        exact ⟨trivial, _, _, rfl, gwk_rn [some (0, 0)] rfl (Nat.le_of_ble_eq_true rfl) ⟨(rn_obS rfl rfl (.refl ((encI .u8).blwf 0 _)) rfl), trivial⟩, (rn_b rfl)⟩
      · rw [ite_f hb] at h
        refine E_skip ?_
        cases h
        exact L_nn rfl (wk_rn [some (0, 0)] rfl (Nat.le_of_ble_eq_true rfl) ⟨(rn_obS rfl rfl (.refl ((encI .u8).blwf 0 _)) rfl), trivial⟩ ⟨(rn_b rfl), (rn_b rfl), (rn_b ((encI .u8).blws 0)), (rn_refL (encI .u8) rfl rfl rfl), trivial⟩)
    · refine X_nx hw ?_
      refine E_sq ?_
      refine E_reg ?_
      refine E_mv (v' := (.bool true)) rfl ?_
      refine E_nil ?_
      refine E_nx ?_
      refine E_ret ?_
      cases h
      exact ⟨trivial, _, _, rfl, gwk_rn [some (0, 0)] rfl (Nat.le_of_ble_eq_true rfl) ⟨(rn_obS rfl rfl (.refl ((encI .u8).blwf 0 _)) rfl), trivial⟩, (rn_b rfl)⟩
def slices_Clone_z_s (s_00 : List Int) : Option (List Int) :=
  ((appL 1 [] s_00).bind fun l_1 => (some l_1))
theorem slices_Clone_z_ev {s_00 : List Int} {r : List Int} (h : slices_Clone_z_s s_00 = some r) : PureEv Try.prog 27 [.sl false 1 (List.map (avI .u8) s_00)] (.sl false 1 (List.map (avI .u8) r)) := by
  unfold slices_Clone_z_s at h
  obtain ⟨l_1, hl_1, h2⟩ := bd_some h
  clear h
  refine PureEv_sl (fun hx => ?_) (fun hx => ?_) (fun hx => ?_)
  · obtain rfl : s_00 = [] := by simpa using hx
    have e : l_1 = [] := by unfold appL at hl_1; split at hl_1 <;> simp_all
    subst e
    refine PureEv_end mixed fn27 (by simp) [5] 6 ?_
    unfold fc27
    refine E_sq ?_
    refine E_reg ?_
    refine E_mv (v' := .nils) rfl ?_
    refine E_nil ?_
    refine E_nx ?_
    refine E_as ?_
    refine E_sq ?_
    refine E_reg ?_
    refine E_mv (v' := .nils) rfl ?_
    refine E_op0 (v' := (.bool true)) rfl rfl ?_
    refine E_nil ?_
    refine E_nx ?_
    refine E_sq ?_
    refine E_cs (t := true) rfl (fun hb => ?_) (fun hb => ?_)
    · refine E_sq ?_
      refine E_reg ?_
      refine E_mv (v' := .nils) rfl ?_
      refine E_nil ?_
      refine E_nx ?_
      refine E_ret ?_
      refine E_thr ?_
      cases h2
      exact ⟨trivial, _, rfl, (fz_b rfl .nil)⟩
    · cases hb
  · obtain rfl : s_00 = [] := by simpa using hx
    refine PureEv_end mixed fn27 (by simp) [5] 6 ?_
    unfold fc27
    refine E_sq ?_
    refine E_reg ?_
    refine E_mv (v' := .nils) rfl ?_
    refine E_nil ?_
    refine E_nx ?_
    refine E_as ?_
    refine E_sq ?_
    refine E_reg ?_
    refine E_mv (v' := (.snn 1)) rfl ?_
    refine E_op0 (v' := (.bool false)) rfl rfl ?_
    refine E_nil ?_
    refine E_nx ?_
    refine E_sq ?_
    refine E_cs (t := false) rfl (fun hb => ?_) (fun hb => ?_)
    · cases hb
    · refine E_skip ?_
      refine E_nx ?_
      refine E_sq ?_
      refine E_reg ?_
      refine E_op (v' := (.ref 0 0 0 0 none)) (S' := [.arr 0 []]) rfl rfl rfl ?_
      refine E_mv (v' := (.snn 1)) rfl ?_
      refine E_apL (S' := [.arr 1 (flat (avI .u8) l_1)]) (encI .u8) (l := []) rfl (rfl) rfl hl_1 rfl ?_
      refine E_mv (v' := (.ref 0 1 0 (List.length l_1) none)) rfl ?_
      refine E_nil ?_
      refine E_nx ?_
      refine E_ret ?_
      cases h2
      exact ⟨trivial, _, rfl, (fz_ref (encI .u8) (Nat.zero_le _) rfl)⟩
  · obtain ⟨x, xs, rfl⟩ : ∃ x xs, s_00 = x :: xs := by cases s_00 with | nil => exact (hx rfl).elim | cons x xs => exact ⟨x, xs, rfl⟩
    refine PureEv_end mixed fn27 (by simp) [5] 6 ?_
    unfold fc27
    refine E_sq ?_
    refine E_reg ?_
    refine E_mv (v' := .nils) rfl ?_
    refine E_nil ?_
    refine E_nx ?_
    refine E_as ?_
    refine E_sq ?_
    refine E_reg ?_
    refine E_mv (v' := (.sl false 1 (List.map (avI .u8) (x :: xs)))) rfl ?_
    refine E_op0 (v' := (.bool false)) rfl rfl ?_
    refine E_nil ?_
    refine E_nx ?_
    refine E_sq ?_
    refine E_cs (t := false) rfl (fun hb => ?_) (fun hb => ?_)
    · cases hb
    · refine E_skip ?_
      refine E_nx ?_
      refine E_sq ?_
      refine E_reg ?_
      refine E_op (v' := (.ref 0 0 0 0 none)) (S' := [.arr 0 []]) rfl rfl rfl ?_
      refine E_mv (v' := (.sl false 1 (List.map (avI .u8) (x :: xs)))) rfl ?_
      refine E_apL (S' := [.arr 1 (flat (avI .u8) l_1)]) (encI .u8) (l := []) rfl (src_sl (x :: xs)) rfl hl_1 rfl ?_
      refine E_mv (v' := (.ref 0 1 0 (List.length l_1) none)) rfl ?_
      refine E_nil ?_
      refine E_nx ?_
      refine E_ret ?_
      cases h2
      exact ⟨trivial, _, rfl, (fz_ref (encI .u8) (Nat.zero_le _) rfl)⟩
def gc_kinds_function : FC := (.seq (.reg [⟨(some 2), none, .op (.box (.t 0))⟩,
  ⟨(some 3), none, .op (.box (.t 1))⟩,
  ⟨(some 4), none, .op (.mv (.v .nils))⟩,
  ⟨(some 5), none, .op (.mv (.v .nils))⟩,
  ⟨(some 6), none, .op (.mv (.v (.bool false)))⟩,
  ⟨(some 7), none, .op (.mv (.v (.int .i64 0)))⟩] [])
  (.seq (.reg [⟨(some 23), none, .op (.fad 4 (.t 3))⟩,
  ⟨(some 24), none, .op (.load none (.t 23))⟩,
  ⟨(some 25), none, .op (.len .sl (.t 24))⟩,
  ⟨(some 26), none, .op (.mksl none 1 [(.bool false)] (.t 25) (.t 25))⟩,
  ⟨(some 27), none, .op (.fad 4 (.t 3))⟩,
  ⟨(some 28), none, .op (.load none (.t 27))⟩,
  ⟨(some 29), none, .op (.len .sl (.t 28))⟩,
  ⟨(some 30), none, .op (.mksl none 24 [.nils] (.t 29) (.t 29))⟩,
  ⟨(some 8), none, .op (.mv (.t 26))⟩,
  ⟨(some 9), none, .op (.mv (.t 30))⟩] [(3, 5), (1, 7), (3, 7)])
  (.seq (.reg [⟨(some 31), none, .op (.mv (.t 8))⟩,
  ⟨(some 32), none, .op (.iad none none (.t 31) (.v (.int .i64 0)))⟩,
  ⟨none, none, .op (.store 1 (.t 32) (.v (.bool true)))⟩] [])
  (.seq (.reg [⟨(some 10), none, .op (.mv (.v (.bool false)))⟩] [])
  (.seq (.seq (.reg [⟨(some 33), none, .op (.bsl none [(.int .i64 0)] 1 [(0, 1, (.v (.int .i64 0)))])⟩,
  ⟨(some 11), none, .op (.mv (.t 33))⟩] [])
  (.block 0 (.loop (.seq (.seq (.reg [⟨(some 34), none, .op (.mv (.t 11))⟩,
  ⟨(some 35), none, .op (.len .sl (.t 34))⟩,
  ⟨(some 36), none, .op (.bin .none .gtr (.t 35) (.v (.int .i64 0)))⟩] [])
  (.cond (.t 36)
  .skip
  (.exit 0)))
  (.block 1 (.seq (.reg [⟨(some 37), none, .op (.mv (.t 11))⟩,
  ⟨(some 38), none, .op (.mv (.t 11))⟩,
  ⟨(some 39), none, .op (.len .sl (.t 38))⟩,
  ⟨(some 40), none, .op (.bin .none .sub (.t 39) (.v (.int .i64 1)))⟩,
  ⟨(some 41), none, .op (.iad none none (.t 37) (.t 40))⟩,
  ⟨(some 42), none, .op (.load none (.t 41))⟩,
  ⟨(some 12), none, .op (.mv (.t 42))⟩] [])
  (.seq (.reg [⟨(some 43), none, .op (.mv (.t 11))⟩,
  ⟨(some 44), none, .op (.mv (.t 11))⟩,
  ⟨(some 45), none, .op (.len .sl (.t 44))⟩,
  ⟨(some 46), none, .op (.bin .none .sub (.t 45) (.v (.int .i64 1)))⟩,
  ⟨(some 47), none, .op (.slc none (.t 43) none (some (.t 46)) none)⟩,
  ⟨(some 11), none, .op (.mv (.t 47))⟩] [])
  (.seq (.reg [⟨(some 48), none, .op (.mv (.t 9))⟩,
  ⟨(some 49), none, .op (.mv (.t 12))⟩,
  ⟨(some 50), none, .op (.iad none none (.t 48) (.t 49))⟩,
  ⟨(some 51), none, .op (.load none (.t 50))⟩,
  ⟨(some 52), none, .op (.fad 4 (.t 3))⟩,
  ⟨(some 53), none, .op (.load none (.t 52))⟩,
  ⟨(some 54), none, .op (.mv (.t 12))⟩,
  ⟨(some 55), none, .op (.iad none (some 3) (.t 53) (.t 54))⟩,
  ⟨(some 56), none, .op (.load (some 3) (.t 55))⟩,
  ⟨(some 14), none, .op (.new [(.int .u8 0), (.int .i64 0), (.int .u64 0)])⟩,
  ⟨(some 13), none, .op (.mv (.t 51))⟩,
  ⟨none, none, .op (.store 3 (.t 14) (.t 56))⟩] [(3, 9), (5, 9), (8, 9)])
  (.seq (.reg [⟨(some 15), none, .op (.mv (.v (.int .u8 0)))⟩] [])
  (.seq (.seq (.reg [⟨(some 57), none, .op (.mv (.t 13))⟩,
  ⟨(some 58), none, .op (.len .sl (.t 57))⟩,
  ⟨(some 59), none, .op (.bin .none .gtr (.t 58) (.v (.int .i64 0)))⟩] [])
  (.cond (.t 59)
  (.reg [⟨(some 60), none, .op (.mv (.t 13))⟩,
  ⟨(some 61), none, .op (.mv (.t 13))⟩,
  ⟨(some 62), none, .op (.len .sl (.t 61))⟩,
  ⟨(some 63), none, .op (.bin .none .sub (.t 62) (.v (.int .i64 1)))⟩,
  ⟨(some 64), none, .op (.iad none none (.t 60) (.t 63))⟩,
  ⟨(some 65), none, .op (.load none (.t 64))⟩,
  ⟨(some 15), none, .op (.mv (.t 65))⟩] [])
  .skip))
  (.seq (.reg [⟨(some 67), none, .op (.load (some 1) (.t 2))⟩,
  ⟨(some 68), none, .op (.load (some 5) (.t 3))⟩,
  ⟨(some 69), none, .op (.load (some 3) (.t 14))⟩,
  ⟨(some 70), none, .op (.mv (.t 15))⟩,
  ⟨(some 71), none, .call 25 [(.t 67), (.t 68), (.t 69), (.t 70)]⟩,
  ⟨(some 66), none, .op (.mv (.t 71))⟩,
  ⟨(some 72), none, .op (.ext 0 (.t 66))⟩,
  ⟨(some 73), none, .op (.ext 1 (.t 66))⟩,
  ⟨(some 16), none, .op (.mv (.t 72))⟩,
  ⟨(some 17), none, .op (.mv (.t 73))⟩] [])
  (.seq (.reg [⟨(some 74), none, .op (.mv (.t 13))⟩,
  ⟨(some 75), none, .op (.len .sl (.t 74))⟩,
  ⟨(some 76), none, .op (.mv (.t 16))⟩,
  ⟨(some 77), none, .op (.len .sl (.t 76))⟩,
  ⟨(some 78), none, .op (.bin .none .sub (.t 75) (.t 77))⟩,
  ⟨(some 18), none, .op (.mv (.t 78))⟩] [])
  (.seq (.seq (.reg [⟨(some 79), none, .op (.mv (.t 18))⟩,
  ⟨(some 80), none, .op (.bin .none .lss (.t 79) (.v (.int .i64 0)))⟩,
  ⟨(some 81), none, .op (.mv (.t 80))⟩,
  ⟨(some 82), some (81, false), .op (.mv (.t 13))⟩,
  ⟨(some 83), some (81, false), .op (.mv (.t 18))⟩,
  ⟨(some 84), some (81, false), .op (.slc none (.t 82) (some (.t 83)) none none)⟩,
  ⟨(some 85), some (81, false), .op (.mv (.t 16))⟩,
  ⟨(some 86), some (81, false), .call 26 [(.t 84), (.t 85)]⟩,
  ⟨(some 87), some (81, false), .op (.un .not (.t 86))⟩,
  ⟨(some 88), none, .op (.pick (.t 81) (.v (.bool true)) (.t 87))⟩,
  ⟨(some 89), none, .op (.mv (.t 88))⟩,
  ⟨(some 90), some (89, false), .op (.fad 0 (.t 14))⟩,
  ⟨(some 91), some (89, false), .op (.load none (.t 90))⟩,
  ⟨(some 92), some (89, false), .op (.bin .none .eql (.t 91) (.v (.int .u8 24)))⟩,
  ⟨(some 93), some (89, false), .op (.mv (.t 92))⟩,
  ⟨(some 94), some (93, true), .op (.mv (.t 18))⟩,
  ⟨(some 95), some (93, true), .op (.bin .none .gtr (.t 94) (.v (.int .i64 0)))⟩,
  ⟨(some 96), some (89, false), .op (.pick (.t 93) (.t 95) (.v (.bool false)))⟩,
  ⟨(some 97), none, .op (.pick (.t 89) (.v (.bool true)) (.t 96))⟩] [])
  (.cond (.t 97)
  (.seq (.reg [⟨(some 4), none, .op (.mv (.v .nils))⟩,
  ⟨(some 5), none, .op (.mv (.v .nils))⟩,
  ⟨(some 6), none, .op (.mv (.v (.bool false)))⟩,
  ⟨(some 7), none, .op (.mv (.v (.int .i64 50)))⟩] [])
  .ret)
  .skip))
  (.seq (.reg [⟨(some 98), none, .op (.mv (.t 13))⟩,
  ⟨(some 99), none, .op (.mv (.t 18))⟩,
  ⟨(some 100), none, .op (.slc none (.t 98) none (some (.t 99)) none)⟩,
  ⟨(some 101), none, .call 27 [(.t 100)]⟩,
  ⟨(some 102), none, .op (.mv (.t 17))⟩,
  ⟨(some 103), none, .op (.app none 1 (.t 101) (.t 102))⟩,
  ⟨(some 19), none, .op (.mv (.t 103))⟩] [])
  (.seq (.reg [⟨(some 104), none, .op (.mv (.t 10))⟩,
  ⟨(some 105), none, .op (.mv (.t 104))⟩,
  ⟨(some 106), some (105, false), .op (.mv (.t 19))⟩,
  ⟨(some 107), some (105, false), .op (.len .sl (.t 106))⟩,
  ⟨(some 108), some (105, false), .op (.bin .none .gtr (.t 107) (.v (.int .i64 16)))⟩,
  ⟨(some 109), none, .op (.pick (.t 105) (.v (.bool true)) (.t 108))⟩,
  ⟨(some 10), none, .op (.mv (.t 109))⟩] [])
  (.seq (.reg [⟨(some 110), none, .op (.load (some 3) (.t 14))⟩,
  ⟨(some 111), none, .op (.mv (.t 12))⟩,
  ⟨(some 112), none, .call 28 [(.t 110), (.t 111)]⟩,
  ⟨(some 113), none, .op (.len .sl (.t 112))⟩,
  ⟨(some 114), none, .op (.mv (.v (.int .i64 0)))⟩] [])
  (.block 2 (.loop (.seq (.reg [⟨(some 115), none, .op (.bin .none .lss (.t 114) (.t 113))⟩] [])
  (.seq (.cond (.t 115)
  .skip
  (.exit 2))
  (.seq (.block 3 (.seq (.reg [⟨(some 116), none, .op (.iad none none (.t 112) (.t 114))⟩,
  ⟨(some 117), none, .op (.load none (.t 116))⟩,
  ⟨(some 21), none, .op (.mv (.t 117))⟩] [])
  (.block 4 (.seq (.reg [⟨(some 119), none, .op (.mv (.t 21))⟩,
  ⟨(some 120), none, .op (.fad 4 (.t 3))⟩,
  ⟨(some 121), none, .op (.load none (.t 120))⟩,
  ⟨(some 122), none, .op (.len .sl (.t 121))⟩,
  ⟨(some 123), none, .op (.bin .none .geq (.t 119) (.t 122))⟩,
  ⟨(some 118), none, .op (.mv (.t 123))⟩] [])
  (.cond (.t 118)
  (.seq (.reg [⟨(some 4), none, .op (.mv (.v .nils))⟩,
  ⟨(some 5), none, .op (.mv (.v .nils))⟩,
  ⟨(some 6), none, .op (.mv (.v (.bool false)))⟩,
  ⟨(some 7), none, .op (.mv (.v (.int .i64 50)))⟩] [])
  .ret)
  (.seq (.reg [⟨(some 125), none, .op (.mv (.t 8))⟩,
  ⟨(some 126), none, .op (.mv (.t 21))⟩,
  ⟨(some 127), none, .op (.iad none none (.t 125) (.t 126))⟩,
  ⟨(some 128), none, .op (.load none (.t 127))⟩,
  ⟨(some 129), none, .op (.un .not (.t 128))⟩,
  ⟨(some 124), none, .op (.mv (.t 129))⟩] [])
  (.cond (.t 124)
  (.seq (.block 1000003 (.seq (.reg [⟨(some 130), none, .op (.mv (.t 8))⟩,
  ⟨(some 131), none, .op (.mv (.t 21))⟩,
  ⟨(some 132), none, .op (.mv (.t 9))⟩,
  ⟨(some 133), none, .op (.mv (.t 21))⟩,
  ⟨(some 134), none, .op (.mv (.t 19))⟩,
  ⟨(some 135), none, .op (.iad none none (.t 130) (.t 131))⟩,
  ⟨none, none, .op (.store 1 (.t 135) (.v (.bool true)))⟩,
  ⟨(some 136), none, .op (.iad none none (.t 132) (.t 133))⟩] []) (.reg [⟨none, none, .op (.store 1 (.t 136) (.t 134))⟩] [])))
  (.reg [⟨(some 137), none, .op (.mv (.t 11))⟩,
  ⟨(some 138), none, .op (.mv (.t 21))⟩,
  ⟨(some 139), none, .op (.bsl none [(.int .i64 0)] 1 [(0, 1, (.t 138))])⟩,
  ⟨(some 140), none, .op (.app none 8 (.t 137) (.t 139))⟩,
  ⟨(some 11), none, .op (.mv (.t 140))⟩] []))
  (.seq (.reg [⟨(some 142), none, .op (.mv (.t 9))⟩,
  ⟨(some 143), none, .op (.mv (.t 21))⟩,
  ⟨(some 144), none, .op (.iad none none (.t 142) (.t 143))⟩,
  ⟨(some 145), none, .op (.load none (.t 144))⟩,
  ⟨(some 146), none, .op (.mv (.t 19))⟩,
  ⟨(some 147), none, .call 26 [(.t 145), (.t 146)]⟩,
  ⟨(some 148), none, .op (.un .not (.t 147))⟩,
  ⟨(some 141), none, .op (.mv (.t 148))⟩] [])
  (.cond (.t 141)
  (.seq (.reg [⟨(some 4), none, .op (.mv (.v .nils))⟩,
  ⟨(some 5), none, .op (.mv (.v .nils))⟩,
  ⟨(some 6), none, .op (.mv (.v (.bool false)))⟩,
  ⟨(some 7), none, .op (.mv (.v (.int .i64 50)))⟩] [])
  .ret)
  .skip)))))))))
  (.reg [⟨(some 149), none, .op (.bin .none .add (.t 114) (.v (.int .i64 1)))⟩,
  ⟨(some 114), none, .op (.mv (.t 149))⟩] []))))))))))))))))))))))
  (.seq (.seq (.reg [⟨(some 150), none, .op (.mv (.t 9))⟩,
  ⟨(some 151), none, .op (.len .sl (.t 150))⟩,
  ⟨(some 152), none, .op (.mv (.v (.int .i64 0)))⟩] [])
  (.block 5 (.loop (.seq (.reg [⟨(some 153), none, .op (.bin .none .lss (.t 152) (.t 151))⟩] [])
  (.seq (.cond (.t 153)
  .skip
  (.exit 5))
  (.seq (.block 6 (.seq (.reg [⟨(some 154), none, .op (.mv (.t 152))⟩,
  ⟨(some 22), none, .op (.mv (.t 154))⟩] [])
  (.reg [⟨(some 155), none, .op (.mv (.t 9))⟩,
  ⟨(some 156), none, .op (.mv (.t 22))⟩,
  ⟨(some 157), none, .op (.mv (.t 9))⟩,
  ⟨(some 158), none, .op (.mv (.t 22))⟩,
  ⟨(some 159), none, .op (.iad none none (.t 157) (.t 158))⟩,
  ⟨(some 160), none, .op (.load none (.t 159))⟩,
  ⟨(some 161), none, .call 27 [(.t 160)]⟩,
  ⟨(some 162), none, .op (.iad none none (.t 155) (.t 156))⟩,
  ⟨none, none, .op (.store 1 (.t 162) (.t 161))⟩] [])))
  (.reg [⟨(some 163), none, .op (.bin .none .add (.t 152) (.v (.int .i64 1)))⟩,
  ⟨(some 152), none, .op (.mv (.t 163))⟩] [])))))))
  (.seq (.reg [⟨(some 164), none, .op (.mv (.t 8))⟩,
  ⟨(some 165), none, .op (.mv (.t 9))⟩,
  ⟨(some 166), none, .op (.mv (.t 10))⟩,
  ⟨(some 4), none, .op (.mv (.t 164))⟩,
  ⟨(some 5), none, .op (.mv (.t 165))⟩,
  ⟨(some 6), none, .op (.mv (.t 166))⟩,
  ⟨(some 7), none, .op (.mv (.v (.int .i64 0)))⟩] [])
  .ret)))))))
theorem gn_kinds_function : Fn3S Try.prog 17 167 [(4, none), (5, none), (6, none), (7, none)] gc_kinds_function := ⟨_, _, Try.func17, rfl, rfl, rfl, by kernel_rfl, by kernel_rfl⟩
end Go.Proofs.Ytiocagilhbomgaa
