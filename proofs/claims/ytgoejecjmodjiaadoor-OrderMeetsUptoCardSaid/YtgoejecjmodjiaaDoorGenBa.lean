/- What the functions compute, and that they do (printed by wip/gen/gen.py), part 1. -/
import Derived.Test.YtgoejecjmodjiaaDoorWlH2
import Derived.Test.YtgoejecjmodjiaaDoorRows
import Derived.Test.YtgoejecjmodjiaaDoorWlTz
namespace Go.Proofs.YtgoejecjmodjiaaDoor
open Go Go.Ab
abbrev oO (d : Nat) (r : ROp) : ROper := ⟨some d, none, .op r⟩
set_option maxRecDepth 20000
set_option maxHeartbeats 2000000
set_option linter.unusedVariables false
set_option linter.unusedSimpArgs false
theorem mixed : Tryd.prog.follows .mixedOrders = true := Tryd.checked.mixed
structure Bits_Set where
  n : Int
  words : (List Int)
def Bits_Set.cells (x : Bits_Set) : List AV := [(.int .i64 x.n), (.sl false 1 (List.map (avI .u64) x.words))]
def Bits_Set.av (x : Bits_Set) : AV := .agg (Bits_Set.cells x)
theorem Bits_Set.enc : Enc Bits_Set.av (some 2) := ⟨fun _ => rfl, fun _ => rfl, fun _ => rfl, fun x n => blwL_of ⟨((encI .i64).blw x.n n), ((encL (encI .u64) 1).blw x.words n), trivial⟩⟩
structure Node where
  Op : Int
  By : Int
  D : Int
  E : Int
  A : Int
  B : Int
  F : Int
  Cell : Int
  Imm : Int
  Args : (List Int)
  Next : Int
  Else : Int
def Node.cells (x : Node) : List AV := [(.int .u8 x.Op), (.int .u8 x.By), (.int .i64 x.D), (.int .i64 x.E), (.int .i64 x.A), (.int .i64 x.B), (.int .i64 x.F), (.int .i64 x.Cell), (.int .u64 x.Imm), (.sl false 1 (List.map (avI .i64) x.Args)), (.int .i64 x.Next), (.int .i64 x.Else)]
def Node.av (x : Node) : AV := .agg (Node.cells x)
theorem Node.enc : Enc Node.av (some 12) := ⟨fun _ => rfl, fun _ => rfl, fun _ => rfl, fun x n => blwL_of ⟨((encI .u8).blw x.Op n), ((encI .u8).blw x.By n), ((encI .i64).blw x.D n), ((encI .i64).blw x.E n), ((encI .i64).blw x.A n), ((encI .i64).blw x.B n), ((encI .i64).blw x.F n), ((encI .i64).blw x.Cell n), ((encI .u64).blw x.Imm n), ((encL (encI .i64) 1).blw x.Args n), ((encI .i64).blw x.Next n), ((encI .i64).blw x.Else n), trivial⟩⟩
structure Graph where
  Params : (List Int)
  Kinds : (List Int)
  Cells : Int
  Init : (List Int)
  Result : Bool
  Keep : Int
  Nodes : (List Node)
  Entry : Int
def Graph.cells (x : Graph) : List AV := [(.sl false 1 (List.map (avI .i64) x.Params)), (.sl false 1 (List.map (avI .u8) x.Kinds)), (.int .i64 x.Cells), (.sl false 1 (List.map (avI .i64) x.Init)), (.bool x.Result), (.int .i64 x.Keep), (.sl false 12 (List.map Node.av x.Nodes)), (.int .i64 x.Entry)]
def Graph.av (x : Graph) : AV := .agg (Graph.cells x)
theorem Graph.enc : Enc Graph.av (some 8) := ⟨fun _ => rfl, fun _ => rfl, fun _ => rfl, fun x n => blwL_of ⟨((encL (encI .i64) 1).blw x.Params n), ((encL (encI .u8) 1).blw x.Kinds n), ((encI .i64).blw x.Cells n), ((encL (encI .i64) 1).blw x.Init n), (encB.blw x.Result n), ((encI .i64).blw x.Keep n), ((encL Node.enc 12).blw x.Nodes n), ((encI .i64).blw x.Entry n), trivial⟩⟩
structure Graphs where
  Funcs : (List Graph)
def Graphs.cells (x : Graphs) : List AV := [(.sl false 8 (List.map Graph.av x.Funcs))]
def Graphs.av (x : Graphs) : AV := .agg (Graphs.cells x)
theorem Graphs.enc : Enc Graphs.av (some 1) := ⟨fun _ => rfl, fun _ => rfl, fun _ => rfl, fun x n => blwL_of ⟨((encL Graph.enc 8).blw x.Funcs n), trivial⟩⟩
def fc61 : FC := (.seq (.reg [oO 2 (.mv (.v .nils))] []) (.seq (.reg [oO 3 (.mv (.v .nils))] []) (.seq (.seq (.reg [oO 6 (.mv (.t 0)), oO 7 (.bin .ptr .neq (.t 6) (.v .nilp))] []) (.cond (.t 7) (.seq (.reg [oO 8 (.mv (.t 0)), oO 9 (.nchk (.t 8)), oO 10 (.fad 1 (.t 9)), oO 11 (.load none (.t 10)), oO 12 (.len .sl (.t 11)), oO 13 (.mv (.v (.int .i64 0)))] []) (.block 0 (.loop (.seq (.reg [oO 14 (.bin .none .lss (.t 13) (.t 12))] []) (.seq (.cond (.t 14) .skip (.exit 0)) (.seq (.block 1 (.seq (.reg [oO 15 (.mv (.t 13)), oO 16 (.iad none none (.t 11) (.t 13)), oO 17 (.load none (.t 16)), oO 4 (.mv (.t 15)), oO 5 (.mv (.t 17))] []) (.block 2 (.loop (.seq (.seq (.reg [oO 18 (.mv (.t 5)), oO 19 (.bin .none .neq (.t 18) (.v (.int .u64 0)))] []) (.cond (.t 19) .skip (.exit 2))) (.seq (.block 3 (.reg [oO 24 (.mv (.t 3)), oO 25 (.mv (.t 4)), oO 26 (.bin .none .mul (.v (.int .i64 64)) (.t 25)), oO 27 (.mv (.t 5)), ⟨(some 28), none, .call 81 [(.t 27)]⟩, oO 29 (.bin .none .add (.t 26) (.t 28)), oO 30 (.bsl none [(.int .i64 0)] 1 [(0, 1, (.t 29))]), oO 31 (.app none 8 (.t 24) (.t 30)), oO 3 (.mv (.t 31))] [])) (.reg [oO 20 (.mv (.t 5)), oO 21 (.mv (.t 5)), oO 22 (.bin .none .sub (.t 21) (.v (.int .u64 1))), oO 23 (.bin .none .and (.t 20) (.t 22)), oO 5 (.mv (.t 23))] []))))))) (.reg [oO 32 (.bin .none .add (.t 13) (.v (.int .i64 1))), oO 13 (.mv (.t 32))] []))))))) .skip)) (.seq (.reg [oO 33 (.mv (.t 3)), oO 2 (.mv (.t 33))] []) .ret))))
theorem fn61 : Fn3 Tryd.prog 61 34 [(2, none)] fc61 := ⟨_, _, Tryd.func61, rfl, rfl, rfl, by kernel_rfl⟩
def bits_Set_List_s (fuel : Nat) (s_00 : Bits_Set) : Option (List Int) :=
  ((rng (fun (i_2 : Nat) (w_3 : Int) (s_1 : (List Int)) => (((whileN (fun (s_5 : (Int × (List Int))) => ((if (s_5.1 != 0) then ((math_bits_TrailingZeros64_s s_5.1).bind fun tra_6 => ((appL 8 s_5.2 [(I64 ((I64 (64 * (i_2 : Int))) + tra_6))]).bind fun l_7 => (some (.nxt ((bitAnd .u64 s_5.1 (U64 (s_5.1 - 1))), l_7))))) else (some (.brk (s_5.1, s_5.2)))) : Option (Stp (Int × (List Int)) (Option (Stp (List Int) (Option (List Int))))))) fuel (w_3, s_1)).bind (oc (fun (s_5 : (Int × (List Int))) => (some (.nxt s_5.2))))) : Option (Stp (List Int) (Option (List Int))))) s_00.words []).bind (oc (fun (s_1 : (List Int)) => (some s_1))))
theorem bits_Set_List_ev {fuel : Nat} {s_00 : Bits_Set} {r : (List Int)} (h : bits_Set_List_s fuel s_00 = some r) : PureEv Tryd.prog 61 [(.cptr (Bits_Set.av s_00).cells 0)] (.sl false 1 (List.map (avI .i64) r)) := by
 unfold bits_Set_List_s at h
 refine PureEv_end mixed fn61 (by simp) [31] 6 ?_
 unfold fc61
 refine E_sq (E_reg (E_mv (v' := .nils) rfl (E_nil (E_nx (E_sq (E_reg (E_mv (v' := .nils) rfl (E_nil (E_nx (E_as (E_sq (E_reg (E_mv (v' := (.cptr (Bits_Set.av s_00).cells 0)) rfl (E_op0 (v' := .bool true) rfl rfl (E_nil ?_)))))))))))))))
 refine E_nx (E_sq (E_ct rfl (E_sq (E_reg (E_mv (v' := (.cptr (Bits_Set.av s_00).cells 0)) rfl (E_op0 (v' := (.cptr (Bits_Set.av s_00).cells 0)) rfl rfl (E_op0 (v' := (.cptr (Bits_Set.av s_00).cells 1)) rfl rfl (E_op0 (v' := (.sl false 1 (List.map (avI .u64) s_00.words))) rfl rfl (E_len rfl (E_mv (v' := .int .i64 0) rfl (E_nil (E_nx ?_))))))))))))
 refine E_rngO (fun s_1 => [(3, (.ref 0 1 0 (List.length s_1) none)), (11, (.sl false 1 (List.map (avI .u64) s_00.words)))]) (fun s_1 => [.arr 1 (flat (avI .i64) s_1)]) h (by decide) (by decide) (fun _ => ⟨rfl, rfl, rfl, rfl⟩) (wk_rn [none] rfl (Nat.le_of_ble_eq_true rfl) ⟨(rn_obN rfl rfl rfl), trivial⟩ ⟨(rn_b rfl), (rn_b rfl), (rn_nil rfl), (rn_b ((encI .u64).blws 0)), trivial⟩) (fun i_2 w_3 s_1 c hx_4 hlt h => ?_) (fun s_1 fr' S' h hw => ?_)
 {
 refine E_sq (E_reg (E_mv (v' := .int .i64 (i_2 : Int)) rfl (E_iadF rfl rfl (getI_of hx_4) (E_op0 (v' := .int .u64 w_3) rfl rfl (E_mv (v' := .int .i64 (i_2 : Int)) rfl (E_mv (v' := .int .u64 w_3) rfl (E_nil (E_nx ?_))))))))
 refine E_whileO (fun s_5 => [(3, (.ref 0 1 0 (List.length s_5.2) none)), (4, (.int .i64 (i_2 : Int))), (5, (.int .u64 s_5.1)), (11, (.sl false 1 (List.map (avI .u64) s_00.words))), (12, (.int .i64 (List.length s_00.words : Int))), (13, (.int .i64 (i_2 : Int)))]) (fun s_5 => [.arr 1 (flat (avI .i64) s_5.2)]) h (wk_rn [some (0, 0)] rfl (Nat.le_of_ble_eq_true rfl) ⟨(rn_ob rfl rfl (.refl ((encI .i64).blwf 0 _)) rfl), trivial⟩ ⟨(rn_refL (encI .i64) rfl rfl rfl), (rn_b rfl), (rn_b rfl), (rn_b ((encI .u64).blws 0)), (rn_b rfl), (rn_b rfl), trivial⟩) (fun s_5 c h => ?_) (fun s_5 fr' S' h hw => ?_)
 {
 refine E_as (E_sq (E_reg (E_mv (v' := .int .u64 s_5.1) rfl (E_op0 (v' := .bool (s_5.1 != 0)) rfl rfl (E_nil (E_nx (E_sq ?_)))))))
 refine E_cs (t := (s_5.1 != 0)) rfl (fun hb => ?_) (fun hb => ?_)
 {
 rw [ite_t hb] at h
 refine E_skip (E_nx (E_sq (E_block (E_reg (E_mv (v' := (.ref 0 1 0 (List.length s_5.2) none)) rfl (E_mv (v' := .int .i64 (i_2 : Int)) rfl (E_op0 (v' := (.int .i64 (I64 (64 * (i_2 : Int))))) rfl rfl (E_mv (v' := .int .u64 s_5.1) rfl ?_))))))))
 obtain ⟨tra_6, htra_6, h⟩ := bd_some h
 refine E_callW (math_bits_TrailingZeros64_ev  htra_6) rfl ⟨(.refl _), trivial⟩ (blwL_of ⟨rfl, trivial⟩) rfl (E_op0 (v' := (.int .i64 (I64 ((I64 (64 * (i_2 : Int))) + tra_6)))) rfl rfl (E_opw (v' := (.sl true 1 (List.map (avI .i64) [(I64 ((I64 (64 * (i_2 : Int))) + tra_6))]))) rfl (.refl _) rfl ?_))
 obtain ⟨l_7, hl_7, h⟩ := bd_some h
 refine E_apL (S' := [.arr 2 (flat (avI .i64) l_7)]) (encI .i64) rfl (src_sl [(I64 ((I64 (64 * (i_2 : Int))) + tra_6))]) rfl hl_7 rfl (E_mv (v' := (.ref 0 2 0 (List.length l_7) none)) rfl (E_nil (E_bln (E_nx (E_reg (E_mv (v' := .int .u64 s_5.1) rfl (E_mv (v' := .int .u64 s_5.1) rfl (E_op0 (v' := (.int .u64 (U64 (s_5.1 - 1)))) rfl rfl (E_op0 (v' := (.int .u64 (bitAnd .u64 s_5.1 (U64 (s_5.1 - 1))))) rfl rfl (E_mv (v' := (.int .u64 (bitAnd .u64 s_5.1 (U64 (s_5.1 - 1))))) rfl (E_nil ?_)))))))))))
 cases h
 exact L_nn rfl (wk_rn [some (0, 0)] rfl (Nat.le_of_ble_eq_true rfl) ⟨(rn_ob rfl rfl (.refl ((encI .i64).blwf 0 _)) rfl), trivial⟩ ⟨(rn_refL (encI .i64) rfl rfl rfl), (rn_b rfl), (rn_b rfl), (rn_b ((encI .u64).blws 0)), (rn_b rfl), (rn_b rfl), trivial⟩)
 }
 {
 rw [ite_f hb] at h
 refine E_exit (E_the ?_)
 cases h
 exact L_bk rfl rfl rfl (wk_rn [some (0, 0)] rfl (Nat.le_of_ble_eq_true rfl) ⟨(rn_ob rfl rfl (.refl ((encI .i64).blwf 0 _)) rfl), trivial⟩ ⟨(rn_refL (encI .i64) rfl rfl rfl), (rn_b rfl), (rn_b rfl), (rn_b ((encI .u64).blws 0)), (rn_b rfl), (rn_b rfl), trivial⟩)
 }
 }
 {
 cases h
 exact X_nn rfl hw (wk_rn [some (0, 0)] rfl (Nat.le_of_ble_eq_true rfl) ⟨(rn_ob rfl rfl (.refl ((encI .i64).blwf 0 _)) rfl), trivial⟩ ⟨(rn_b rfl), (rn_b rfl), (rn_refL (encI .i64) rfl rfl rfl), (rn_b ((encI .u64).blws 0)), trivial⟩)
 }
 }
 {
 refine X_nx hw (E_sq (E_reg (E_mv (v' := (.ref 0 1 0 (List.length s_1) none)) rfl (E_mv (v' := (.ref 0 1 0 (List.length s_1) none)) rfl (E_nil (E_nx (E_ret ?_)))))))
 cases h
 exact ⟨trivial, _, rfl, (fz_ref (encI .i64) (Nat.zero_le _) rfl)⟩
 }
def fc30 : FC := (.seq (.reg [oO 2 (.mv (.v .nils))] []) (.seq (.reg [oO 3 (.mv (.v .nils))] []) (.seq (.seq (.reg [oO 6 (.mv (.t 0)), oO 7 (.len .sl (.t 6)), oO 8 (.mv (.v (.int .i64 0)))] []) (.block 0 (.loop (.seq (.reg [oO 9 (.bin .none .lss (.t 8) (.t 7))] []) (.seq (.cond (.t 9) .skip (.exit 0)) (.seq (.block 1 (.seq (.reg [oO 10 (.iad none none (.t 6) (.t 8)), oO 11 (.load none (.t 10)), oO 5 (.mv (.t 11))] []) (.reg [oO 12 (.mv (.t 3)), oO 13 (.mv (.t 5)), ⟨(some 14), none, .call 61 [(.t 13)]⟩, oO 15 (.bsl none [.nils] 1 [(0, 1, (.t 14))]), oO 16 (.app none 24 (.t 12) (.t 15)), oO 3 (.mv (.t 16))] []))) (.reg [oO 17 (.bin .none .add (.t 8) (.v (.int .i64 1))), oO 8 (.mv (.t 17))] []))))))) (.seq (.reg [oO 18 (.mv (.t 3)), oO 2 (.mv (.t 18))] []) .ret))))
theorem fn30 : Fn3 Tryd.prog 30 19 [(2, none)] fc30 := ⟨_, _, Tryd.func30, rfl, rfl, rfl, by kernel_rfl⟩
def live_lists_s (fuel : Nat) (sets_00 : (List (Option Bits_Set))) : Option (List (List Int)) :=
  ((rng (fun (i_2 : Nat) (s_3 : (Option Bits_Set)) (s_1 : (List (List Int))) => ((s_3.bind fun p_5 => ((bits_Set_List_s fuel p_5).bind fun vli_6 => ((appL 24 s_1 [vli_6]).bind fun l_7 => (some (.nxt l_7))))) : Option (Stp (List (List Int)) (Option (List (List Int)))))) sets_00 []).bind (oc (fun (s_1 : (List (List Int))) => (some s_1))))
theorem live_lists_ev {fuel : Nat} {sets_00 : (List (Option Bits_Set))} {r : (List (List Int))} (h : live_lists_s fuel sets_00 = some r) : PureEv Tryd.prog 30 [(.sl false 1 (List.map (avP Bits_Set.av) sets_00))] (.sl false 1 (List.map (avL 1 (avI .i64)) r)) := by
 unfold live_lists_s at h
 refine PureEv_end mixed fn30 (by simp) [16] 6 ?_
 unfold fc30
 refine E_sq (E_reg (E_mv (v' := .nils) rfl (E_nil (E_nx (E_sq (E_reg (E_mv (v' := .nils) rfl (E_nil (E_nx (E_as (E_sq (E_reg (E_mv (v' := (.sl false 1 (List.map (avP Bits_Set.av) sets_00))) rfl (E_len rfl (E_mv (v' := .int .i64 0) rfl ?_)))))))))))))))
 refine E_nil (E_nx (E_sq ?_))
 refine E_rngO (fun s_1 => [(3, (.ref 0 1 0 (List.length s_1) none)), (6, (.sl false 1 (List.map (avP Bits_Set.av) sets_00)))]) (fun s_1 => [.arr 1 (flat (avL 1 (avI .i64)) s_1)]) h (by decide) (by decide) (fun _ => ⟨rfl, rfl, rfl, rfl⟩) (wk_rn [none] rfl (Nat.le_of_ble_eq_true rfl) ⟨(rn_obN rfl rfl rfl), trivial⟩ ⟨(rn_b rfl), (rn_b rfl), (rn_nil rfl), (rn_b ((encP Bits_Set.enc).blws 0)), trivial⟩) (fun i_2 s_3 s_1 c hx_4 hlt h => ?_) (fun s_1 fr' S' h hw => ?_)
 {
 refine E_sq (E_reg (E_iadF rfl rfl (getI_of hx_4) ?_))
 refine E_op0 (v' := (avP Bits_Set.av s_3)) (by generalize s_3 = o_; cases o_ <;> rfl) rfl ?_
 refine E_mv (v' := (avP Bits_Set.av s_3)) rfl (E_nil (E_nx (E_reg (E_mv (v' := (.ref 0 1 0 (List.length s_1) none)) rfl (E_mv (v' := (avP Bits_Set.av s_3)) rfl ?_)))))
 replace h := bd_some h
 obtain ⟨p_5, hp_5, h⟩ := h
 subst hp_5
 obtain ⟨vli_6, hvli_6, h⟩ := bd_some h
 refine E_callW (bits_Set_List_ev (fuel := fuel)  hvli_6) rfl ⟨(.refl _), trivial⟩ (blwL_of ⟨(cp_blw (Bits_Set.enc.blw _ 0)), trivial⟩) ((encI .i64).blws 0) (E_opw (v' := (.sl true 1 (List.map (avL 1 (avI .i64)) [vli_6]))) rfl (.refl _) rfl ?_)
 obtain ⟨l_7, hl_7, h⟩ := bd_some h
 refine E_apL (S' := [.arr 2 (flat (avL 1 (avI .i64)) l_7)]) (encL (encI .i64) 1) rfl (src_sl [vli_6]) rfl hl_7 rfl (E_mv (v' := (.ref 0 2 0 (List.length l_7) none)) rfl (E_nil ?_))
 cases h
 exact L_nn rfl (wk_rn [some (0, 0)] rfl (Nat.le_of_ble_eq_true rfl) ⟨(rn_ob rfl rfl (.refl ((encL (encI .i64) 1).blwf 0 _)) rfl), trivial⟩ ⟨(rn_b rfl), (rn_b rfl), (rn_refL (encL (encI .i64) 1) rfl rfl rfl), (rn_b ((encP Bits_Set.enc).blws 0)), trivial⟩)
 }
 {
 refine X_nx hw (E_sq (E_reg (E_mv (v' := (.ref 0 1 0 (List.length s_1) none)) rfl (E_mv (v' := (.ref 0 1 0 (List.length s_1) none)) rfl (E_nil (E_nx (E_ret ?_)))))))
 cases h
 exact ⟨trivial, _, rfl, (fz_ref (encL (encI .i64) 1) (Nat.zero_le _) rfl)⟩
 }
def fc83 : FC := (.seq (.reg [oO 2 (.mv (.v (.bool false)))] []) (.seq (.reg [oO 3 (.mv (.t 0)), oO 4 (.bin .none .gtr (.t 3) (.v (.int .u8 1))), oO 2 (.mv (.t 4))] []) .ret))
theorem fn83 : Fn3 Tryd.prog 83 5 [(2, none)] fc83 := ⟨_, _, Tryd.func83, rfl, rfl, rfl, by kernel_rfl⟩
def ir_checker_head_1_s (k_00 : Int) : Option Bool :=
  (some (decide (k_00 > 1)))
theorem ir_checker_head_1_ev {k_00 : Int} {r : Bool} (h : ir_checker_head_1_s k_00 = some r) : PureEv Tryd.prog 83 [(.int .u8 k_00)] (.bool r) := by
  unfold ir_checker_head_1_s at h
  refine PureEv_end mixed fn83 (by simp) [] 6 ?_
  unfold fc83
  refine E_sq ?_
  refine E_reg ?_
  refine E_mv (v' := (.bool false)) rfl ?_
  refine E_nil ?_
  refine E_nx ?_
  refine E_sq ?_
  refine E_reg ?_
  refine E_mv (v' := (.int .u8 k_00)) rfl ?_
  refine E_op0 (v' := (.bool (decide (k_00 > 1)))) rfl rfl ?_
  refine E_mv (v' := (.bool (decide (k_00 > 1)))) rfl ?_
  refine E_nil ?_
  refine E_nx ?_
  refine E_ret ?_
  cases h
  exact ⟨trivial, _, rfl, (fz_b rfl (.refl _))⟩
def fc87 : FC := (.seq (.reg [oO 4 (.mv (.v (.int .i64 0)))] []) (.seq (.seq (.reg [oO 6 (.mv (.t 0)), oO 7 (.len .sl (.t 6)), oO 8 (.mv (.v (.int .i64 0)))] []) (.block 0 (.loop (.seq (.reg [oO 9 (.bin .none .lss (.t 8) (.t 7))] []) (.seq (.cond (.t 9) .skip (.exit 0)) (.seq (.block 1 (.seq (.reg [oO 10 (.mv (.t 8)), oO 5 (.mv (.t 10))] []) (.seq (.reg [oO 11 (.mv (.t 1)), oO 12 (.mv (.t 0)), oO 13 (.mv (.t 5)), oO 14 (.iad none none (.t 12) (.t 13)), oO 15 (.load none (.t 14)), ⟨(some 16), none, .callv (.t 11) [(.t 15)]⟩] []) (.cond (.t 16) (.seq (.reg [oO 17 (.mv (.t 5)), oO 4 (.mv (.t 17))] []) .ret) .skip)))) (.reg [oO 18 (.bin .none .add (.t 8) (.v (.int .i64 1))), oO 8 (.mv (.t 18))] []))))))) (.seq (.reg [oO 4 (.mv (.v (.int .i64 (-1))))] []) .ret)))
theorem fn87 : Fn3 Tryd.prog 87 19 [(4, none)] fc87 := ⟨_, _, Tryd.func87, rfl, rfl, rfl, by kernel_rfl⟩
def slices_IndexFunc_1_f83_s (s_00 : (List Int)) : Option Int :=
  ((rni (fun (i_2 : Nat) (s_1 : Unit) => (((getI s_00 (i_2 : Int)).bind fun y_3 => ((ir_checker_head_1_s y_3).bind fun v1_4 => (if v1_4 then (some (.ret (some (i_2 : Int)))) else (some (.nxt ()))))) : Option (Stp Unit (Option Int)))) (List.length s_00 : Int) ()).bind (oc (fun (s_1 : Unit) => (some (-1)))))
theorem slices_IndexFunc_1_f83_ev {s_00 : (List Int)} {r : Int} (h : slices_IndexFunc_1_f83_s s_00 = some r) : PureEv Tryd.prog 87 [(.sl false 1 (List.map (avI .u8) s_00)), (.fn (.func 83) [] [])] (.int .i64 r) := by
 unfold slices_IndexFunc_1_f83_s at h
 refine PureEv_end mixed fn87 (by simp) [] 6 ?_
 unfold fc87
 refine E_sq (E_reg (E_mv (v' := .int .i64 0) rfl (E_nil (E_nx (E_as (E_sq (E_reg (E_mv (v' := (.sl false 1 (List.map (avI .u8) s_00))) rfl (E_len rfl (E_mv (v' := .int .i64 0) rfl (E_nil (E_nx (E_sq ?_)))))))))))))
 refine E_rniO (fun s_1 => [(0, (.sl false 1 (List.map (avI .u8) s_00))), (1, (.fn (.func 83) [] []))]) (fun s_1 => []) h (by decide) (by decide) (fun _ => ⟨rfl, rfl, rfl, rfl⟩) (wk_aw ⟨(.refl _), (.refl _), (.refl _), (.refl _), trivial⟩) (fun i_2 s_1 c hlt h => ?_) (fun s_1 fr' S' h hw => ?_)
 {
 refine E_sq (E_reg (E_mv (v' := .int .i64 (i_2 : Int)) rfl (E_mv (v' := .int .i64 (i_2 : Int)) rfl (E_nil (E_nx (E_sq (E_reg (E_mv (v' := (.fn (.func 83) [] [])) rfl (E_mv (v' := (.sl false 1 (List.map (avI .u8) s_00))) rfl (E_mv (v' := .int .i64 (i_2 : Int)) rfl ?_))))))))))
 obtain ⟨y_3, hy_3, h⟩ := bd_some h
 refine E_iadF rfl rfl hy_3 (E_op0 (v' := .int .u8 y_3) rfl rfl ?_)
 obtain ⟨v1_4, hv1_4, h⟩ := bd_some h
 refine E_callvW (as' := [(.int .u8 y_3)]) rfl rfl (ir_checker_head_1_ev  hv1_4) rfl ⟨(.refl _), trivial⟩ (blwL_of ⟨rfl, trivial⟩) rfl (E_nil (E_nx ?_))
 refine E_cs (t := v1_4) rfl (fun hb => ?_) (fun hb => ?_)
 {
 rw [ite_t hb] at h
 refine E_sq (E_reg (E_mv (v' := .int .i64 (i_2 : Int)) rfl (E_mv (v' := .int .i64 (i_2 : Int)) rfl (E_nil (E_nx (E_ret ?_))))))
 cases h
 refine L_rrO rfl (fun h => ?_)
 refine E_thr ?_
 cases h
 exact ⟨trivial, _, rfl, (fz_b rfl (.refl _))⟩
 }
 {
 rw [ite_f hb] at h
 refine E_skip ?_
 cases h
 exact L_nn rfl (wk_aw ⟨(.refl _), (.refl _), (.refl _), (.refl _), trivial⟩)
 }
 }
 {
 refine X_nx hw (E_sq (E_reg (E_mv (v' := .int .i64 (-1)) rfl (E_nil (E_nx (E_ret ?_))))))
 cases h
 exact ⟨trivial, _, rfl, (fz_b rfl (.refl _))⟩
 }
def fc82 : FC := (.seq (.reg [oO 4 (.mv (.v (.bool false)))] []) (.seq (.reg [oO 5 (.mv (.t 0)), oO 6 (.mv (.t 1)), ⟨(some 7), none, .call 87 [(.t 5), (.t 6)]⟩, oO 8 (.bin .none .geq (.t 7) (.v (.int .i64 0))), oO 4 (.mv (.t 8))] []) .ret))
theorem fn82 : Fn3 Tryd.prog 82 9 [(4, none)] fc82 := ⟨_, _, Tryd.func82, rfl, rfl, rfl, by kernel_rfl⟩
def slices_ContainsFunc_f83_s (s_00 : (List Int)) : Option Bool :=
  ((slices_IndexFunc_1_f83_s s_00).bind fun v1_1 => (some (decide (v1_1 ≥ 0))))
theorem slices_ContainsFunc_f83_ev {s_00 : (List Int)} {r : Bool} (h : slices_ContainsFunc_f83_s s_00 = some r) : PureEv Tryd.prog 82 [(.sl false 1 (List.map (avI .u8) s_00)), (.fn (.func 83) [] [])] (.bool r) := by
  unfold slices_ContainsFunc_f83_s at h
  refine PureEv_end mixed fn82 (by simp) [] 6 ?_
  unfold fc82
  refine E_sq ?_
  refine E_reg ?_
  refine E_mv (v' := (.bool false)) rfl ?_
  refine E_nil ?_
  refine E_nx ?_
  refine E_sq ?_
  refine E_reg ?_
  refine E_mv (v' := (.sl false 1 (List.map (avI .u8) s_00))) rfl ?_
  refine E_mv (v' := (.fn (.func 83) [] [])) rfl ?_
  obtain ⟨v1_1, hv1_1, h⟩ := bd_some h
  refine E_callW (slices_IndexFunc_1_f83_ev  hv1_1) rfl ⟨(.refl _), (.refl _), trivial⟩ (blwL_of ⟨((encI .u8).blws 0), rfl, trivial⟩) rfl ?_
  refine E_op0 (v' := (.bool (decide (v1_1 ≥ 0)))) rfl rfl ?_
  refine E_mv (v' := (.bool (decide (v1_1 ≥ 0)))) rfl ?_
  refine E_nil ?_
  refine E_nx ?_
  refine E_ret ?_
  cases h
  exact ⟨trivial, _, rfl, (fz_b rfl (.refl _))⟩
def fc84 : FC := (.seq (.reg [oO 4 (.mv (.v (.bool false)))] []) (.seq (.reg [oO 5 (.mv (.t 1)), oO 6 (.bin .none .geq (.t 5) (.v (.int .i64 0))), oO 7 (.mv (.t 6)), ⟨(some 8), some (7, true), .op (.mv (.t 1))⟩, ⟨(some 9), some (7, true), .op (.mv (.t 0))⟩, ⟨(some 10), some (7, true), .op (.nchk (.t 9))⟩, ⟨(some 11), some (7, true), .op (.fad 1 (.t 10))⟩, ⟨(some 12), some (7, true), .op (.load none (.t 11))⟩, ⟨(some 13), some (7, true), .op (.nchk (.t 12))⟩, ⟨(some 14), some (7, true), .op (.fad 2 (.t 13))⟩, ⟨(some 15), some (7, true), .op (.load none (.t 14))⟩, ⟨(some 16), some (7, true), .op (.bin .none .lss (.t 8) (.t 15))⟩, oO 17 (.pick (.t 7) (.t 16) (.v (.bool false))), oO 4 (.mv (.t 17))] []) .ret))
theorem fn84 : Fn3 Tryd.prog 84 18 [(4, none)] fc84 := ⟨_, _, Tryd.func84, rfl, rfl, rfl, by kernel_rfl⟩
def ir_checker_cell_pNCN_s (c_all_00 : (List Graph)) (c_g_00 : Graph) (c_bound_00 : Bool) (n_01 : Int) : Option (Bool × (List Graph) × Graph × Bool) :=
  (jp (fun (s_2 : Bool) => (some (s_2, c_all_00, c_g_00, c_bound_00))) (fun k_1 => (if (decide (n_01 ≥ 0)) then (k_1 (decide (n_01 < c_g_00.Cells))) else (k_1 false))))
theorem ir_checker_cell_pNCN_ev {c_all_00 : (List Graph)} {c_g_00 : Graph} {c_bound_00 : Bool} {n_01 : Int} {r : (Bool × (List Graph) × Graph × Bool)} (h : ir_checker_cell_pNCN_s c_all_00 c_g_00 c_bound_00 n_01 = some r) : Ev Tryd.prog 84 [(.ptr 0 0 0), (.int .i64 n_01)] (hp [.arr 0 [(.sl false 8 (List.map Graph.av c_all_00)), (.cptr (Graph.av c_g_00).cells 0), (.bool c_bound_00)]]) (.bool r.1) (hp [.arr 0 [(.sl false 8 (List.map Graph.av r.2.1)), (.cptr (Graph.av r.2.2.1).cells 0), (.bool r.2.2.2)]]) := by
 unfold ir_checker_cell_pNCN_s at h
 refine Ev_end mixed fn84 (by simp) [] ?_
 unfold fc84
 refine E_sq (E_reg (E_mv (v' := .bool false) rfl (E_nil (E_nx ?_))))
 refine E_jp h (fun s_2 => [(4, (.bool s_2))]) (fun s_2 => [.arr 0 [(.sl false 8 (List.map Graph.av c_all_00)), (.cptr (Graph.av c_g_00).cells 0), (.bool c_bound_00)]]) (fun k_1 h => ?_) (fun s_2 h => ?_)
 {
 refine E_reg (E_mv (v' := .int .i64 n_01) rfl (E_op0 (v' := (.bool (decide (n_01 ≥ 0)))) rfl rfl (E_mv (v' := (.bool (decide (n_01 ≥ 0)))) rfl ?_)))
 refine E_gsT (b := (decide (n_01 ≥ 0))) rfl rfl rfl (fun hb => ?_) (fun hb => ?_)
 {
 rw [ite_t hb] at h
 refine E_mv (v' := .int .i64 n_01) rfl (E_gh rfl (E_mv (v' := .ptr 0 0 0) rfl (E_gh rfl (E_op0 (v' := .ptr 0 0 0) rfl rfl (E_gh rfl (E_op0 (v' := .ptr 0 0 1) rfl rfl (E_gh rfl (E_op (v' := (.cptr (Graph.av c_g_00).cells 0)) (S' := [.arr 0 [(.sl false 8 (List.map Graph.av c_all_00)), (.cptr (Graph.av c_g_00).cells 0), (.bool c_bound_00)]]) rfl rfl rfl (E_gh rfl (E_op0 (v' := (.cptr (Graph.av c_g_00).cells 0)) rfl rfl (E_gh rfl (E_op0 (v' := (.cptr (Graph.av c_g_00).cells 2)) rfl rfl (E_gh rfl (E_op0 (v' := .int .i64 c_g_00.Cells) rfl rfl (E_gh rfl ?_)))))))))))))))
 refine E_op0 (v' := (.bool (decide (n_01 < c_g_00.Cells)))) rfl rfl (E_pt rfl rfl (E_mv (v' := (.bool (decide (n_01 < c_g_00.Cells)))) rfl (E_nil ?_)))
 exact E_jx _ h (wk_rn [some (0, 0)] rfl (Nat.le_of_ble_eq_true rfl) ⟨(rn_obS rfl rfl (.cons (rn_b (Graph.enc.blws 0)) (.cons (rn_b (cp_blw (Graph.enc.blw _ 0))) (.cons (rn_b rfl) (.nil (Nat.zero_le _))))) rfl), trivial⟩ ⟨(rn_b rfl), trivial⟩)
 }
 {
 rw [ite_f hb] at h
 refine E_gm rfl (E_gm rfl (E_gm rfl (E_gm rfl (E_gm rfl (E_gm rfl (E_gm rfl (E_gm rfl (E_pf rfl rfl (E_mv (v' := .bool false) rfl (E_nil ?_))))))))))
 exact E_jx _ h (wk_rn [some (0, 0)] rfl (Nat.le_of_ble_eq_true rfl) ⟨(rn_obS rfl rfl (.cons (rn_b (Graph.enc.blws 0)) (.cons (rn_b (cp_blw (Graph.enc.blw _ 0))) (.cons (rn_b rfl) (.nil (Nat.zero_le _))))) rfl), trivial⟩ ⟨(rn_b rfl), trivial⟩)
 }
 }
 {
 refine E_ret ?_
 cases h
 exact ⟨trivial, _, _, rfl, gwk_rn [some (0, 0)] rfl (Nat.le_of_ble_eq_true rfl) ⟨(rn_obS rfl rfl (.cons (rn_b (Graph.enc.blws 0)) (.cons (rn_b (cp_blw (Graph.enc.blw _ 0))) (.cons (rn_b rfl) (.nil (Nat.zero_le _))))) rfl), trivial⟩, (rn_b rfl)⟩
 }
def fc74 : FC := (.seq (.reg [oO 4 (.mv (.v (.int .i64 0)))] []) (.seq (.seq (.reg [oO 6 (.mv (.t 0)), oO 7 (.len .sl (.t 6)), oO 8 (.mv (.v (.int .i64 0)))] []) (.block 0 (.loop (.seq (.reg [oO 9 (.bin .none .lss (.t 8) (.t 7))] []) (.seq (.cond (.t 9) .skip (.exit 0)) (.seq (.block 1 (.seq (.reg [oO 10 (.mv (.t 8)), oO 5 (.mv (.t 10))] []) (.seq (.reg [oO 11 (.mv (.t 1)), oO 12 (.mv (.t 0)), oO 13 (.mv (.t 5)), oO 14 (.iad none none (.t 12) (.t 13)), oO 15 (.load none (.t 14)), oO 16 (.bin .none .eql (.t 11) (.t 15))] []) (.cond (.t 16) (.seq (.reg [oO 17 (.mv (.t 5)), oO 4 (.mv (.t 17))] []) .ret) .skip)))) (.reg [oO 18 (.bin .none .add (.t 8) (.v (.int .i64 1))), oO 8 (.mv (.t 18))] []))))))) (.seq (.reg [oO 4 (.mv (.v (.int .i64 (-1))))] []) .ret)))
theorem fn74 : Fn3 Tryd.prog 74 19 [(4, none)] fc74 := ⟨_, _, Tryd.func74, rfl, rfl, rfl, by kernel_rfl⟩
def slices_Index_s (s_00 : (List Int)) (v_01 : Int) : Option Int :=
  ((rni (fun (i_2 : Nat) (s_1 : Int) => (((getI s_00 (i_2 : Int)).bind fun y_3 => (if (s_1 == y_3) then (some (.ret (some (i_2 : Int)))) else (some (.nxt s_1)))) : Option (Stp Int (Option Int)))) (List.length s_00 : Int) v_01).bind (oc (fun (s_1 : Int) => (some (-1)))))
theorem slices_Index_ev {s_00 : (List Int)} {v_01 : Int} {r : Int} (h : slices_Index_s s_00 v_01 = some r) : PureEv Tryd.prog 74 [(.sl false 1 (List.map (avI .i64) s_00)), (.int .i64 v_01)] (.int .i64 r) := by
 unfold slices_Index_s at h
 refine PureEv_end mixed fn74 (by simp) [] 6 ?_
 unfold fc74
 refine E_sq (E_reg (E_mv (v' := .int .i64 0) rfl (E_nil (E_nx (E_as (E_sq (E_reg (E_mv (v' := (.sl false 1 (List.map (avI .i64) s_00))) rfl (E_len rfl (E_mv (v' := .int .i64 0) rfl (E_nil (E_nx (E_sq ?_)))))))))))))
 refine E_rniO (fun s_1 => [(0, (.sl false 1 (List.map (avI .i64) s_00))), (1, (.int .i64 s_1))]) (fun s_1 => []) h (by decide) (by decide) (fun _ => ⟨rfl, rfl, rfl, rfl⟩) (wk_aw ⟨(.refl _), (.refl _), (.refl _), (.refl _), trivial⟩) (fun i_2 s_1 c hlt h => ?_) (fun s_1 fr' S' h hw => ?_)
 {
 refine E_sq (E_reg (E_mv (v' := .int .i64 (i_2 : Int)) rfl (E_mv (v' := .int .i64 (i_2 : Int)) rfl (E_nil (E_nx (E_sq (E_reg (E_mv (v' := .int .i64 s_1) rfl (E_mv (v' := (.sl false 1 (List.map (avI .i64) s_00))) rfl (E_mv (v' := .int .i64 (i_2 : Int)) rfl ?_))))))))))
 obtain ⟨y_3, hy_3, h⟩ := bd_some h
 refine E_iadF rfl rfl hy_3 (E_op0 (v' := .int .i64 y_3) rfl rfl (E_op0 (v' := .bool (s_1 == y_3)) rfl rfl (E_nil (E_nx ?_))))
 refine E_cs (t := (s_1 == y_3)) rfl (fun hb => ?_) (fun hb => ?_)
 {
 rw [ite_t hb] at h
 refine E_sq (E_reg (E_mv (v' := .int .i64 (i_2 : Int)) rfl (E_mv (v' := .int .i64 (i_2 : Int)) rfl (E_nil (E_nx (E_ret ?_))))))
 cases h
 refine L_rrO rfl (fun h => ?_)
 refine E_thr ?_
 cases h
 exact ⟨trivial, _, rfl, (fz_b rfl (.refl _))⟩
 }
 {
 rw [ite_f hb] at h
 refine E_skip ?_
 cases h
 exact L_nn rfl (wk_aw ⟨(.refl _), (.refl _), (.refl _), (.refl _), trivial⟩)
 }
 }
 {
 refine X_nx hw (E_sq (E_reg (E_mv (v' := .int .i64 (-1)) rfl (E_nil (E_nx (E_ret ?_))))))
 cases h
 exact ⟨trivial, _, rfl, (fz_b rfl (.refl _))⟩
 }
def fc48 : FC := (.seq (.reg [oO 4 (.mv (.v (.bool false)))] []) (.seq (.reg [oO 5 (.mv (.t 0)), oO 6 (.mv (.t 1)), ⟨(some 7), none, .call 74 [(.t 5), (.t 6)]⟩, oO 8 (.bin .none .geq (.t 7) (.v (.int .i64 0))), oO 4 (.mv (.t 8))] []) .ret))
theorem fn48 : Fn3 Tryd.prog 48 9 [(4, none)] fc48 := ⟨_, _, Tryd.func48, rfl, rfl, rfl, by kernel_rfl⟩
def slices_Contains_s (s_00 : (List Int)) (v_01 : Int) : Option Bool :=
  ((slices_Index_s s_00 v_01).bind fun ind_1 => (some (decide (ind_1 ≥ 0))))
theorem slices_Contains_ev {s_00 : (List Int)} {v_01 : Int} {r : Bool} (h : slices_Contains_s s_00 v_01 = some r) : PureEv Tryd.prog 48 [(.sl false 1 (List.map (avI .i64) s_00)), (.int .i64 v_01)] (.bool r) := by
  unfold slices_Contains_s at h
  refine PureEv_end mixed fn48 (by simp) [] 6 ?_
  unfold fc48
  refine E_sq ?_
  refine E_reg ?_
  refine E_mv (v' := (.bool false)) rfl ?_
  refine E_nil ?_
  refine E_nx ?_
  refine E_sq ?_
  refine E_reg ?_
  refine E_mv (v' := (.sl false 1 (List.map (avI .i64) s_00))) rfl ?_
  refine E_mv (v' := (.int .i64 v_01)) rfl ?_
  obtain ⟨ind_1, hind_1, h⟩ := bd_some h
  refine E_callW (slices_Index_ev  hind_1) rfl ⟨(.refl _), (.refl _), trivial⟩ (blwL_of ⟨((encI .i64).blws 0), rfl, trivial⟩) rfl ?_
  refine E_op0 (v' := (.bool (decide (ind_1 ≥ 0)))) rfl rfl ?_
  refine E_mv (v' := (.bool (decide (ind_1 ≥ 0)))) rfl ?_
  refine E_nil ?_
  refine E_nx ?_
  refine E_ret ?_
  cases h
  exact ⟨trivial, _, rfl, (fz_b rfl (.refl _))⟩
def fc85 : FC := (.seq (.reg [oO 6 (.mv (.v (.bool false)))] []) (.seq (.seq (.reg [oO 9 (.mv (.t 2)), oO 10 (.len .sl (.t 9)), oO 11 (.mv (.v (.int .i64 0)))] []) (.block 0 (.loop (.seq (.reg [oO 12 (.bin .none .lss (.t 11) (.t 10))] []) (.seq (.cond (.t 12) .skip (.exit 0)) (.seq (.block 1 (.seq (.reg [oO 13 (.iad none none (.t 9) (.t 11)), oO 14 (.load none (.t 13)), oO 8 (.mv (.t 14))] []) (.seq (.reg [oO 15 (.mv (.t 8)), oO 16 (.bin .none .lss (.t 15) (.v (.int .i64 0))), oO 17 (.mv (.t 16)), ⟨(some 18), some (17, false), .op (.mv (.t 8))⟩, ⟨(some 19), some (17, false), .op (.mv (.t 0))⟩, ⟨(some 20), some (17, false), .op (.nchk (.t 19))⟩, ⟨(some 21), some (17, false), .op (.fad 1 (.t 20))⟩, ⟨(some 22), some (17, false), .op (.load none (.t 21))⟩, ⟨(some 23), some (17, false), .op (.nchk (.t 22))⟩, ⟨(some 24), some (17, false), .op (.fad 1 (.t 23))⟩, ⟨(some 25), some (17, false), .op (.load none (.t 24))⟩, ⟨(some 26), some (17, false), .op (.len .sl (.t 25))⟩, ⟨(some 27), some (17, false), .op (.bin .none .geq (.t 18) (.t 26))⟩, oO 28 (.pick (.t 17) (.v (.bool true)) (.t 27)), oO 29 (.mv (.t 28)), ⟨(some 30), some (29, false), .op (.mv (.t 0))⟩, ⟨(some 31), some (29, false), .op (.nchk (.t 30))⟩, ⟨(some 32), some (29, false), .op (.fad 2 (.t 31))⟩, ⟨(some 33), some (29, false), .op (.load none (.t 32))⟩, ⟨(some 34), some (29, false), .op (.un .not (.t 33))⟩, ⟨(some 35), some (29, false), .op (.mv (.t 34))⟩, ⟨(some 36), some (35, true), .op (.mv (.t 0))⟩, ⟨(some 37), some (35, true), .op (.nchk (.t 36))⟩, ⟨(some 38), some (35, true), .op (.fad 1 (.t 37))⟩, ⟨(some 39), some (35, true), .op (.load none (.t 38))⟩, ⟨(some 40), some (35, true), .op (.nchk (.t 39))⟩, ⟨(some 41), some (35, true), .op (.fad 1 (.t 40))⟩, ⟨(some 42), some (35, true), .op (.load none (.t 41))⟩, ⟨(some 43), some (35, true), .op (.mv (.t 8))⟩, ⟨(some 44), some (35, true), .op (.iad none none (.t 42) (.t 43))⟩, ⟨(some 45), some (35, true), .op (.load none (.t 44))⟩, ⟨(some 46), some (35, true), .op (.mv (.t 1))⟩, ⟨(some 47), some (35, true), .op (.bin .none .neq (.t 45) (.t 46))⟩, ⟨(some 48), some (29, false), .op (.pick (.t 35) (.t 47) (.v (.bool false)))⟩, oO 49 (.pick (.t 29) (.v (.bool true)) (.t 48))] []) (.cond (.t 49) (.seq (.reg [oO 6 (.mv (.v (.bool false)))] []) .ret) .skip)))) (.reg [oO 50 (.bin .none .add (.t 11) (.v (.int .i64 1))), oO 11 (.mv (.t 50))] []))))))) (.seq (.reg [oO 6 (.mv (.v (.bool true)))] []) .ret)))
theorem fn85 : Fn3 Tryd.prog 85 51 [(6, none)] fc85 := ⟨_, _, Tryd.func85, rfl, rfl, rfl, by kernel_rfl⟩
def ir_checker_is_pNCN_s (c_all_00 : (List Graph)) (c_g_00 : Graph) (c_bound_00 : Bool) (k_01 : Int) (places_02 : (List Int)) : Option (Bool × (List Graph) × Graph × Bool) :=
  ((rng (fun (i_2 : Nat) (p_3 : Int) (s_1 : (Int × (List Int))) => (((getI s_1.2 (i_2 : Int)).bind fun y_5 => (jp (fun (s_7 : Bool) => (if s_7 then (some (.ret (some (false, c_all_00, c_g_00, c_bound_00)))) else (some (.nxt (s_1.1, s_1.2))))) (fun k_6 => (if (decide (y_5 < 0)) then (k_6 true) else (if (decide (y_5 ≥ (List.length c_g_00.Kinds : Int))) then (k_6 true) else (if (!c_bound_00) then ((getI c_g_00.Kinds y_5).bind fun y_8 => (k_6 (y_8 != s_1.1))) else (k_6 false))))))) : Option (Stp (Int × (List Int)) (Option (Bool × (List Graph) × Graph × Bool))))) places_02 (k_01, places_02)).bind (oc (fun (s_1 : (Int × (List Int))) => (some (true, c_all_00, c_g_00, c_bound_00)))))
theorem ir_checker_is_pNCN_ev {c_all_00 : (List Graph)} {c_g_00 : Graph} {c_bound_00 : Bool} {k_01 : Int} {places_02 : (List Int)} {r : (Bool × (List Graph) × Graph × Bool)} (h : ir_checker_is_pNCN_s c_all_00 c_g_00 c_bound_00 k_01 places_02 = some r) : Ev Tryd.prog 85 [(.ptr 0 0 0), (.int .u8 k_01), (.sl false 1 (List.map (avI .i64) places_02))] (hp [.arr 0 [(.sl false 8 (List.map Graph.av c_all_00)), (.cptr (Graph.av c_g_00).cells 0), (.bool c_bound_00)]]) (.bool r.1) (hp [.arr 0 [(.sl false 8 (List.map Graph.av r.2.1)), (.cptr (Graph.av r.2.2.1).cells 0), (.bool r.2.2.2)]]) := by
 unfold ir_checker_is_pNCN_s at h
 refine Ev_end mixed fn85 (by simp) [] ?_
 unfold fc85
 refine E_sq (E_reg (E_mv (v' := .bool false) rfl (E_nil (E_nx (E_as (E_sq (E_reg (E_mv (v' := (.sl false 1 (List.map (avI .i64) places_02))) rfl (E_len rfl (E_mv (v' := .int .i64 0) rfl (E_nil (E_nx (E_sq ?_)))))))))))))
 refine E_rngO (fun s_1 => [(0, (.ptr 0 0 0)), (1, (.int .u8 s_1.1)), (9, (.sl false 1 (List.map (avI .i64) s_1.2)))]) (fun s_1 => [.arr 0 [(.sl false 8 (List.map Graph.av c_all_00)), (.cptr (Graph.av c_g_00).cells 0), (.bool c_bound_00)]]) h (by decide) (by decide) (fun _ => ⟨rfl, rfl, rfl, rfl⟩) (wk_rn [some (0, 0)] rfl (Nat.le_of_ble_eq_true rfl) ⟨(rn_obS rfl rfl (.cons (rn_b (Graph.enc.blws 0)) (.cons (rn_b (cp_blw (Graph.enc.blw _ 0))) (.cons (rn_b rfl) (.nil (Nat.zero_le _))))) rfl), trivial⟩ ⟨(rn_b rfl), (rn_b rfl), (rn_ptr rfl rfl rfl rfl), (rn_b rfl), (rn_b ((encI .i64).blws 0)), trivial⟩) (fun i_2 p_3 s_1 c hx_4 hlt h => ?_) (fun s_1 fr' S' h hw => ?_)
 {
 refine E_sq (E_reg ?_)
 obtain ⟨y_5, hy_5, h⟩ := bd_some h
 refine E_iadF rfl rfl hy_5 (E_op0 (v' := .int .i64 y_5) rfl rfl (E_mv (v' := .int .i64 y_5) rfl (E_nil (E_nx ?_))))
 refine E_jp h (fun s_7 => [(0, (.ptr 0 0 0)), (1, (.int .u8 s_1.1)), (9, (.sl false 1 (List.map (avI .i64) s_1.2))), (10, (.int .i64 (List.length places_02 : Int))), (11, (.int .i64 (i_2 : Int))), (49, (.bool s_7))]) (fun s_7 => [.arr 0 [(.sl false 8 (List.map Graph.av c_all_00)), (.cptr (Graph.av c_g_00).cells 0), (.bool c_bound_00)]]) (fun k_6 h => ?_) (fun s_7 h => ?_)
 {
 refine E_reg (E_mv (v' := .int .i64 y_5) rfl (E_op0 (v' := (.bool (decide (y_5 < 0)))) rfl rfl (E_mv (v' := (.bool (decide (y_5 < 0)))) rfl ?_)))
 refine E_gsT (b := (decide (y_5 < 0))) rfl rfl rfl (fun hb => ?_) (fun hb => ?_)
 {
 rw [ite_f hb] at h
 refine E_mv (v' := .int .i64 y_5) rfl (E_gh rfl (E_mv (v' := .ptr 0 0 0) rfl (E_gh rfl (E_op0 (v' := .ptr 0 0 0) rfl rfl (E_gh rfl (E_op0 (v' := .ptr 0 0 1) rfl rfl (E_gh rfl (E_op (v' := (.cptr (Graph.av c_g_00).cells 0)) (S' := [.arr 0 [(.sl false 8 (List.map Graph.av c_all_00)), (.cptr (Graph.av c_g_00).cells 0), (.bool c_bound_00)]]) rfl rfl rfl (E_gh rfl (E_op0 (v' := (.cptr (Graph.av c_g_00).cells 0)) rfl rfl (E_gh rfl (E_op0 (v' := (.cptr (Graph.av c_g_00).cells 1)) rfl rfl (E_gh rfl (E_op0 (v' := (.sl false 1 (List.map (avI .u8) c_g_00.Kinds))) rfl rfl (E_gh rfl ?_)))))))))))))))
 refine E_len rfl (E_gh rfl (E_op0 (v' := (.bool (decide (y_5 ≥ (List.length c_g_00.Kinds : Int))))) rfl rfl (E_pf rfl rfl (E_mv (v' := (.bool (decide (y_5 ≥ (List.length c_g_00.Kinds : Int))))) rfl ?_))))
 refine E_gsT (b := (decide (y_5 ≥ (List.length c_g_00.Kinds : Int)))) rfl rfl rfl (fun hb => ?_) (fun hb => ?_)
 {
 rw [ite_f hb] at h
 refine E_mv (v' := .ptr 0 0 0) rfl (E_gh rfl (E_op0 (v' := .ptr 0 0 0) rfl rfl (E_gh rfl (E_op0 (v' := .ptr 0 0 2) rfl rfl (E_gh rfl (E_op (v' := .bool c_bound_00) (S' := [.arr 0 [(.sl false 8 (List.map Graph.av c_all_00)), (.cptr (Graph.av c_g_00).cells 0), (.bool c_bound_00)]]) rfl rfl rfl (E_gh rfl (E_op0 (v' := .bool (!c_bound_00)) rfl rfl (E_gh rfl (E_mv (v' := .bool (!c_bound_00)) rfl ?_))))))))))
 refine E_gsT (b := (!c_bound_00)) rfl rfl rfl (fun hb => ?_) (fun hb => ?_)
 {
 rw [ite_t hb] at h
 refine E_mv (v' := .ptr 0 0 0) rfl (E_gh rfl (E_op0 (v' := .ptr 0 0 0) rfl rfl (E_gh rfl (E_op0 (v' := .ptr 0 0 1) rfl rfl (E_gh rfl (E_op (v' := (.cptr (Graph.av c_g_00).cells 0)) (S' := [.arr 0 [(.sl false 8 (List.map Graph.av c_all_00)), (.cptr (Graph.av c_g_00).cells 0), (.bool c_bound_00)]]) rfl rfl rfl (E_gh rfl (E_op0 (v' := (.cptr (Graph.av c_g_00).cells 0)) rfl rfl (E_gh rfl (E_op0 (v' := (.cptr (Graph.av c_g_00).cells 1)) rfl rfl (E_gh rfl (E_op0 (v' := (.sl false 1 (List.map (avI .u8) c_g_00.Kinds))) rfl rfl (E_gh rfl (E_mv (v' := .int .i64 y_5) rfl (E_gh rfl ?_)))))))))))))))
 obtain ⟨y_8, hy_8, h⟩ := bd_some h
 refine E_iadF rfl rfl hy_8 (E_gh rfl (E_op0 (v' := .int .u8 y_8) rfl rfl (E_gh rfl (E_mv (v' := .int .u8 s_1.1) rfl (E_gh rfl (E_op0 (v' := .bool (y_8 != s_1.1)) rfl rfl (E_gh rfl (E_pt rfl rfl (E_pf rfl rfl (E_nil ?_))))))))))
 exact E_jx _ h (wk_rn [some (0, 0)] rfl (Nat.le_of_ble_eq_true rfl) ⟨(rn_obS rfl rfl (.cons (rn_b (Graph.enc.blws 0)) (.cons (rn_b (cp_blw (Graph.enc.blw _ 0))) (.cons (rn_b rfl) (.nil (Nat.zero_le _))))) rfl), trivial⟩ ⟨(rn_ptr rfl rfl rfl rfl), (rn_b rfl), (rn_b ((encI .i64).blws 0)), (rn_b rfl), (rn_b rfl), (rn_b rfl), trivial⟩)
 }
 {
 rw [ite_f hb] at h
 refine E_gm rfl (E_gm rfl (E_gm rfl (E_gm rfl (E_gm rfl (E_gm rfl (E_gm rfl (E_gm rfl (E_gm rfl (E_gm rfl (E_gm rfl (E_gh rfl (E_pf rfl rfl (E_pf rfl rfl (E_nil ?_))))))))))))))
 exact E_jx _ h (wk_rn [some (0, 0)] rfl (Nat.le_of_ble_eq_true rfl) ⟨(rn_obS rfl rfl (.cons (rn_b (Graph.enc.blws 0)) (.cons (rn_b (cp_blw (Graph.enc.blw _ 0))) (.cons (rn_b rfl) (.nil (Nat.zero_le _))))) rfl), trivial⟩ ⟨(rn_ptr rfl rfl rfl rfl), (rn_b rfl), (rn_b ((encI .i64).blws 0)), (rn_b rfl), (rn_b rfl), (rn_b rfl), trivial⟩)
 }
 }
 {
 rw [ite_t hb] at h
 refine E_gm rfl (E_gm rfl (E_gm rfl (E_gm rfl (E_gm rfl (E_gz rfl (E_gz rfl (E_gz rfl (E_gz rfl (E_gz rfl (E_gz rfl (E_gz rfl (E_gz rfl (E_gz rfl (E_gz rfl (E_gz rfl ?_)))))))))))))))
 refine E_gz rfl (E_gm rfl (E_pt rfl rfl (E_nil ?_)))
 exact E_jx _ h (wk_rn [some (0, 0)] rfl (Nat.le_of_ble_eq_true rfl) ⟨(rn_obS rfl rfl (.cons (rn_b (Graph.enc.blws 0)) (.cons (rn_b (cp_blw (Graph.enc.blw _ 0))) (.cons (rn_b rfl) (.nil (Nat.zero_le _))))) rfl), trivial⟩ ⟨(rn_ptr rfl rfl rfl rfl), (rn_b rfl), (rn_b ((encI .i64).blws 0)), (rn_b rfl), (rn_b rfl), (rn_b rfl), trivial⟩)
 }
 }
 {
 rw [ite_t hb] at h
 refine E_gm rfl (E_gm rfl (E_gm rfl (E_gm rfl (E_gm rfl (E_gm rfl (E_gm rfl (E_gm rfl (E_gm rfl (E_pt rfl rfl (E_mv (v' := .bool true) rfl (E_gm rfl (E_gm rfl (E_gm rfl (E_gm rfl (E_gm rfl ?_)))))))))))))))
 refine E_gm rfl (E_gz rfl (E_gz rfl (E_gz rfl (E_gz rfl (E_gz rfl (E_gz rfl (E_gz rfl (E_gz rfl (E_gz rfl (E_gz rfl (E_gz rfl (E_gz rfl (E_gm rfl (E_pt rfl rfl (E_nil ?_)))))))))))))))
 exact E_jx _ h (wk_rn [some (0, 0)] rfl (Nat.le_of_ble_eq_true rfl) ⟨(rn_obS rfl rfl (.cons (rn_b (Graph.enc.blws 0)) (.cons (rn_b (cp_blw (Graph.enc.blw _ 0))) (.cons (rn_b rfl) (.nil (Nat.zero_le _))))) rfl), trivial⟩ ⟨(rn_ptr rfl rfl rfl rfl), (rn_b rfl), (rn_b ((encI .i64).blws 0)), (rn_b rfl), (rn_b rfl), (rn_b rfl), trivial⟩)
 }
 }
 {
 refine E_cs (t := s_7) rfl (fun hb => ?_) (fun hb => ?_)
 {
 rw [ite_t hb] at h
 refine E_sq (E_reg (E_mv (v' := .bool false) rfl (E_nil (E_nx (E_ret ?_)))))
 cases h
 refine L_rrO rfl (fun h => ?_)
 refine E_thr ?_
 cases h
 exact ⟨trivial, _, _, rfl, gwk_rn [some (0, 0)] rfl (Nat.le_of_ble_eq_true rfl) ⟨(rn_obS rfl rfl (.cons (rn_b (Graph.enc.blws 0)) (.cons (rn_b (cp_blw (Graph.enc.blw _ 0))) (.cons (rn_b rfl) (.nil (Nat.zero_le _))))) rfl), trivial⟩, (rn_b rfl)⟩
 }
 {
 rw [ite_f hb] at h
 refine E_skip ?_
 cases h
 exact L_nn rfl (wk_rn [some (0, 0)] rfl (Nat.le_of_ble_eq_true rfl) ⟨(rn_obS rfl rfl (.cons (rn_b (Graph.enc.blws 0)) (.cons (rn_b (cp_blw (Graph.enc.blw _ 0))) (.cons (rn_b rfl) (.nil (Nat.zero_le _))))) rfl), trivial⟩ ⟨(rn_b rfl), (rn_b rfl), (rn_ptr rfl rfl rfl rfl), (rn_b rfl), (rn_b ((encI .i64).blws 0)), trivial⟩)
 }
 }
 }
 {
 refine X_nx hw (E_sq (E_reg (E_mv (v' := .bool true) rfl (E_nil (E_nx (E_ret ?_))))))
 cases h
 exact ⟨trivial, _, _, rfl, gwk_rn [some (0, 0)] rfl (Nat.le_of_ble_eq_true rfl) ⟨(rn_obS rfl rfl (.cons (rn_b (Graph.enc.blws 0)) (.cons (rn_b (cp_blw (Graph.enc.blw _ 0))) (.cons (rn_b rfl) (.nil (Nat.zero_le _))))) rfl), trivial⟩, (rn_b rfl)⟩
 }
def fc76 : FC := (.seq (.reg [oO 2 (.mv (.v (.bool false)))] []) (.seq (.reg [oO 7 (.mv (.t 0)), oO 8 (.nchk (.t 7)), oO 9 (.fad 1 (.t 8)), oO 10 (.load none (.t 9)), oO 3 (.mv (.t 10))] []) (.seq (.seq (.reg [oO 11 (.mv (.t 3)), oO 12 (.nchk (.t 11)), oO 13 (.fad 1 (.t 12)), oO 14 (.load none (.t 13)), oO 15 (.len .sl (.t 14)), oO 16 (.bin .none .gtr (.t 15) (.v (.int .i64 1024))), oO 17 (.mv (.t 16)), ⟨(some 18), some (17, false), .op (.mv (.t 0))⟩, ⟨(some 19), some (17, false), .op (.nchk (.t 18))⟩, ⟨(some 20), some (17, false), .op (.fad 2 (.t 19))⟩, ⟨(some 21), some (17, false), .op (.load none (.t 20))⟩, ⟨(some 22), some (17, false), .op (.mv (.t 21))⟩, ⟨(some 23), some (22, true), .op (.mv (.t 3))⟩, ⟨(some 24), some (22, true), .op (.nchk (.t 23))⟩, ⟨(some 25), some (22, true), .op (.fad 1 (.t 24))⟩, ⟨(some 26), some (22, true), .op (.load none (.t 25))⟩, ⟨(some 27), some (22, true), .op (.len .sl (.t 26))⟩, ⟨(some 28), some (22, true), .op (.bin .none .lss (.t 27) (.v (.int .i64 16)))⟩, ⟨(some 29), some (17, false), .op (.pick (.t 22) (.t 28) (.v (.bool false)))⟩, oO 30 (.pick (.t 17) (.v (.bool true)) (.t 29)), oO 31 (.mv (.t 30)), ⟨(some 32), some (31, false), .op (.mv (.t 3))⟩, ⟨(some 33), some (31, false), .op (.nchk (.t 32))⟩, ⟨(some 34), some (31, false), .op (.fad 1 (.t 33))⟩, ⟨(some 35), some (31, false), .op (.load none (.t 34))⟩, ⟨(some 36), some (31, false), .call 82 [(.t 35), (.v (.fn (.func 83) [] []))]⟩, oO 37 (.pick (.t 31) (.v (.bool true)) (.t 36))] []) (.cond (.t 37) (.seq (.reg [oO 2 (.mv (.v (.bool false)))] []) .ret) .skip)) (.seq (.seq (.reg [oO 38 (.mv (.t 3)), oO 39 (.nchk (.t 38)), oO 40 (.fad 0 (.t 39)), oO 41 (.load none (.t 40)), oO 42 (.len .sl (.t 41)), oO 43 (.bin .none .gtr (.t 42) (.v (.int .i64 4))), oO 44 (.mv (.t 43)), ⟨(some 45), some (44, false), .op (.mv (.t 3))⟩, ⟨(some 46), some (44, false), .op (.nchk (.t 45))⟩, ⟨(some 47), some (44, false), .op (.fad 3 (.t 46))⟩, ⟨(some 48), some (44, false), .op (.load none (.t 47))⟩, ⟨(some 49), some (44, false), .op (.len .sl (.t 48))⟩, ⟨(some 50), some (44, false), .op (.mv (.t 3))⟩, ⟨(some 51), some (44, false), .op (.nchk (.t 50))⟩, ⟨(some 52), some (44, false), .op (.fad 0 (.t 51))⟩, ⟨(some 53), some (44, false), .op (.load none (.t 52))⟩, ⟨(some 54), some (44, false), .op (.len .sl (.t 53))⟩, ⟨(some 55), some (44, false), .op (.bin .none .neq (.t 49) (.t 54))⟩, oO 56 (.pick (.t 44) (.v (.bool true)) (.t 55)), oO 57 (.mv (.t 56)), ⟨(some 58), some (57, false), .op (.mv (.t 3))⟩, ⟨(some 59), some (57, false), .op (.nchk (.t 58))⟩, ⟨(some 60), some (57, false), .op (.fad 2 (.t 59))⟩, ⟨(some 61), some (57, false), .op (.load none (.t 60))⟩, ⟨(some 62), some (57, false), .op (.bin .none .lss (.t 61) (.v (.int .i64 0)))⟩, oO 63 (.pick (.t 57) (.v (.bool true)) (.t 62)), oO 64 (.mv (.t 63)), ⟨(some 65), some (64, false), .op (.mv (.t 3))⟩, ⟨(some 66), some (64, false), .op (.nchk (.t 65))⟩, ⟨(some 67), some (64, false), .op (.fad 2 (.t 66))⟩, ⟨(some 68), some (64, false), .op (.load none (.t 67))⟩, ⟨(some 69), some (64, false), .op (.bin .none .gtr (.t 68) (.v (.int .i64 64)))⟩, oO 70 (.pick (.t 64) (.v (.bool true)) (.t 69)), oO 71 (.mv (.t 70)), ⟨(some 72), some (71, false), .op (.mv (.t 3))⟩, ⟨(some 73), some (71, false), .op (.nchk (.t 72))⟩, ⟨(some 74), some (71, false), .op (.fad 5 (.t 73))⟩, ⟨(some 75), some (71, false), .op (.load none (.t 74))⟩, ⟨(some 76), some (71, false), .op (.bin .none .neq (.t 75) (.v (.int .i64 (-1))))⟩, ⟨(some 77), some (71, false), .op (.mv (.t 76))⟩, ⟨(some 78), some (77, true), .op (.mv (.t 0))⟩, ⟨(some 79), some (77, true), .op (.mv (.t 3))⟩, ⟨(some 80), some (77, true), .op (.nchk (.t 79))⟩, ⟨(some 81), some (77, true), .op (.fad 5 (.t 80))⟩, ⟨(some 82), some (77, true), .op (.load none (.t 81))⟩, ⟨(some 83), some (77, true), .call 84 [(.t 78), (.t 82)]⟩, ⟨(some 84), some (77, true), .op (.un .not (.t 83))⟩, ⟨(some 85), some (71, false), .op (.pick (.t 77) (.t 84) (.v (.bool false)))⟩, oO 86 (.pick (.t 71) (.v (.bool true)) (.t 85))] []) (.cond (.t 86) (.seq (.reg [oO 2 (.mv (.v (.bool false)))] []) .ret) .skip)) (.seq (.seq (.reg [oO 87 (.mv (.t 3)), oO 88 (.nchk (.t 87)), oO 89 (.fad 0 (.t 88)), oO 90 (.load none (.t 89)), oO 91 (.len .sl (.t 90)), oO 92 (.mv (.v (.int .i64 0)))] []) (.block 0 (.loop (.seq (.reg [oO 93 (.bin .none .lss (.t 92) (.t 91))] []) (.seq (.cond (.t 93) .skip (.exit 0)) (.seq (.block 1 (.seq (.reg [oO 94 (.mv (.t 92)), oO 95 (.iad none none (.t 90) (.t 92)), oO 96 (.load none (.t 95)), oO 4 (.mv (.t 94)), oO 5 (.mv (.t 96))] []) (.seq (.seq (.reg [oO 97 (.mv (.t 5)), oO 98 (.bin .none .lss (.t 97) (.v (.int .i64 0))), oO 99 (.mv (.t 98)), ⟨(some 100), some (99, false), .op (.mv (.t 5))⟩, ⟨(some 101), some (99, false), .op (.mv (.t 3))⟩, ⟨(some 102), some (99, false), .op (.nchk (.t 101))⟩, ⟨(some 103), some (99, false), .op (.fad 1 (.t 102))⟩, ⟨(some 104), some (99, false), .op (.load none (.t 103))⟩, ⟨(some 105), some (99, false), .op (.len .sl (.t 104))⟩, ⟨(some 106), some (99, false), .op (.bin .none .geq (.t 100) (.t 105))⟩, oO 107 (.pick (.t 99) (.v (.bool true)) (.t 106)), oO 108 (.mv (.t 107)), ⟨(some 109), some (108, false), .op (.mv (.t 3))⟩, ⟨(some 110), some (108, false), .op (.nchk (.t 109))⟩, ⟨(some 111), some (108, false), .op (.fad 0 (.t 110))⟩, ⟨(some 112), some (108, false), .op (.load none (.t 111))⟩, ⟨(some 113), some (108, false), .op (.mv (.t 4))⟩, ⟨(some 114), some (108, false), .op (.slc none (.t 112) none (some (.t 113)) none)⟩, ⟨(some 115), some (108, false), .op (.mv (.t 5))⟩, ⟨(some 116), some (108, false), .call 48 [(.t 114), (.t 115)]⟩, oO 117 (.pick (.t 108) (.v (.bool true)) (.t 116)), oO 118 (.mv (.t 117)), ⟨(some 119), some (118, false), .op (.mv (.t 0))⟩, ⟨(some 120), some (118, false), .op (.nchk (.t 119))⟩, ⟨(some 121), some (118, false), .op (.fad 2 (.t 120))⟩, ⟨(some 122), some (118, false), .op (.load none (.t 121))⟩, ⟨(some 123), some (118, false), .op (.mv (.t 122))⟩, ⟨(some 124), some (123, true), .op (.mv (.t 5))⟩, ⟨(some 125), some (123, true), .op (.mv (.t 4))⟩, ⟨(some 126), some (123, true), .op (.bin .none .neq (.t 124) (.t 125))⟩, ⟨(some 127), some (118, false), .op (.pick (.t 123) (.t 126) (.v (.bool false)))⟩, oO 128 (.pick (.t 118) (.v (.bool true)) (.t 127))] []) (.cond (.t 128) (.seq (.reg [oO 2 (.mv (.v (.bool false)))] []) .ret) .skip)) (.seq (.reg [oO 129 (.mv (.t 3)), oO 130 (.nchk (.t 129)), oO 131 (.fad 3 (.t 130)), oO 132 (.load none (.t 131)), oO 133 (.mv (.t 4)), oO 134 (.iad none none (.t 132) (.t 133)), oO 135 (.load none (.t 134)), oO 6 (.mv (.t 135))] []) (.seq (.reg [oO 136 (.mv (.t 6)), oO 137 (.bin .none .neq (.t 136) (.v (.int .i64 (-1)))), oO 138 (.mv (.t 137)), ⟨(some 139), some (138, true), .op (.mv (.t 0))⟩, ⟨(some 140), some (138, true), .op (.mv (.t 6))⟩, ⟨(some 141), some (138, true), .call 84 [(.t 139), (.t 140)]⟩, ⟨(some 142), some (138, true), .op (.un .not (.t 141))⟩, ⟨(some 143), some (138, true), .op (.mv (.t 142))⟩, ⟨(some 144), some (143, false), .op (.mv (.t 0))⟩, ⟨(some 145), some (143, false), .op (.mv (.t 5))⟩, ⟨(some 146), some (143, false), .op (.bsl none [(.int .i64 0)] 1 [(0, 1, (.t 145))])⟩, ⟨(some 147), some (143, false), .call 85 [(.t 144), (.v (.int .u8 0)), (.t 146)]⟩, ⟨(some 148), some (143, false), .op (.un .not (.t 147))⟩, ⟨(some 149), some (138, true), .op (.pick (.t 143) (.v (.bool true)) (.t 148))⟩, oO 150 (.pick (.t 138) (.t 149) (.v (.bool false)))] []) (.cond (.t 150) (.seq (.reg [oO 2 (.mv (.v (.bool false)))] []) .ret) .skip)))))) (.reg [oO 151 (.bin .none .add (.t 92) (.v (.int .i64 1))), oO 92 (.mv (.t 151))] []))))))) (.seq (.reg [oO 152 (.mv (.t 3)), oO 153 (.nchk (.t 152)), oO 154 (.fad 6 (.t 153)), oO 155 (.load none (.t 154)), oO 156 (.len .sl (.t 155)), oO 157 (.bin .none .gtr (.t 156) (.v (.int .i64 0))), oO 158 (.mv (.t 157)), ⟨(some 159), some (158, true), .op (.mv (.t 3))⟩, ⟨(some 160), some (158, true), .op (.nchk (.t 159))⟩, ⟨(some 161), some (158, true), .op (.fad 6 (.t 160))⟩, ⟨(some 162), some (158, true), .op (.load none (.t 161))⟩, ⟨(some 163), some (158, true), .op (.len .sl (.t 162))⟩, ⟨(some 164), some (158, true), .op (.bin .none .leq (.t 163) (.v (.int .i64 4096)))⟩, oO 165 (.pick (.t 158) (.t 164) (.v (.bool false))), oO 166 (.mv (.t 165)), ⟨(some 167), some (166, true), .op (.mv (.t 3))⟩, ⟨(some 168), some (166, true), .op (.nchk (.t 167))⟩, ⟨(some 169), some (166, true), .op (.fad 7 (.t 168))⟩, ⟨(some 170), some (166, true), .op (.load none (.t 169))⟩, ⟨(some 171), some (166, true), .op (.bin .none .geq (.t 170) (.v (.int .i64 0)))⟩, oO 172 (.pick (.t 166) (.t 171) (.v (.bool false))), oO 173 (.mv (.t 172)), ⟨(some 174), some (173, true), .op (.mv (.t 3))⟩, ⟨(some 175), some (173, true), .op (.nchk (.t 174))⟩, ⟨(some 176), some (173, true), .op (.fad 7 (.t 175))⟩, ⟨(some 177), some (173, true), .op (.load none (.t 176))⟩, ⟨(some 178), some (173, true), .op (.mv (.t 3))⟩, ⟨(some 179), some (173, true), .op (.nchk (.t 178))⟩, ⟨(some 180), some (173, true), .op (.fad 6 (.t 179))⟩, ⟨(some 181), some (173, true), .op (.load none (.t 180))⟩, ⟨(some 182), some (173, true), .op (.len .sl (.t 181))⟩, ⟨(some 183), some (173, true), .op (.bin .none .lss (.t 177) (.t 182))⟩, oO 184 (.pick (.t 173) (.t 183) (.v (.bool false))), oO 2 (.mv (.t 184))] []) .ret))))))
theorem fn76 : Fn3 Tryd.prog 76 185 [(2, none)] fc76 := ⟨_, _, Tryd.func76, rfl, rfl, rfl, by kernel_rfl⟩
def ir_checker_head_pNCN_s (c_all_00 : (List Graph)) (c_g_00 : Graph) (c_bound_00 : Bool) : Option (Bool × (List Graph) × Graph × Bool) :=
  (jp (fun (s_2 : Bool) => (if s_2 then (some (false, c_all_00, c_g_00, c_bound_00)) else (jp (fun (s_6 : (Bool × (List Graph) × Graph × Bool)) => (if s_6.1 then (some (false, s_6.2.1, s_6.2.2.1, s_6.2.2.2)) else ((rng (fun (i_9 : Nat) (p_10 : Int) (s_8 : ((List Graph) × Graph × Bool)) => ((jp (fun (s_13 : Bool) => (if s_13 then (some (.ret (some (false, s_8.1, s_8.2.1, s_8.2.2)))) else ((getI c_g_00.Init (i_9 : Int)).bind fun y_16 => (jp (fun (s_18 : (Bool × (List Graph) × Graph × Bool)) => (if s_18.1 then (some (.ret (some (false, s_18.2.1, s_18.2.2.1, s_18.2.2.2)))) else (some (.nxt (s_18.2.1, s_18.2.2.1, s_18.2.2.2))))) (fun k_17 => (if (y_16 != (-1)) then ((ir_checker_cell_pNCN_s s_8.1 s_8.2.1 s_8.2.2 y_16).bind fun (cel_19 : (Bool × (List Graph) × Graph × Bool)) => (if (!cel_19.1) then (k_17 (true, cel_19.2.1, cel_19.2.2.1, cel_19.2.2.2)) else ((ir_checker_is_pNCN_s cel_19.2.1 cel_19.2.2.1 cel_19.2.2.2 0 ([p_10])).bind fun (vis_20 : (Bool × (List Graph) × Graph × Bool)) => (k_17 ((!vis_20.1), vis_20.2.1, vis_20.2.2.1, vis_20.2.2.2))))) else (k_17 (false, s_8.1, s_8.2.1, s_8.2.2)))))))) (fun k_12 => (if (decide (p_10 < 0)) then (k_12 true) else (if (decide (p_10 ≥ (List.length c_g_00.Kinds : Int))) then (k_12 true) else ((subL c_g_00.Params 0 (i_9 : Int)).bind fun l_14 => ((slices_Contains_s l_14 p_10).bind fun con_15 => (if con_15 then (k_12 true) else (if s_8.2.2 then (k_12 (p_10 != (i_9 : Int))) else (k_12 false))))))))) : Option (Stp ((List Graph) × Graph × Bool) (Option (Bool × (List Graph) × Graph × Bool))))) c_g_00.Params (s_6.2.1, s_6.2.2.1, s_6.2.2.2)).bind (oc (fun (s_8 : ((List Graph) × Graph × Bool)) => (jp (fun (s_22 : Bool) => (some (s_22, s_8.1, s_8.2.1, s_8.2.2))) (fun k_21 => (if (decide ((List.length c_g_00.Nodes : Int) > 0)) then (if (decide ((List.length c_g_00.Nodes : Int) ≤ 4096)) then (if (decide (c_g_00.Entry ≥ 0)) then (k_21 (decide (c_g_00.Entry < (List.length c_g_00.Nodes : Int)))) else (k_21 false)) else (k_21 false)) else (k_21 false))))))))) (fun k_5 => (if (decide ((List.length c_g_00.Params : Int) > 4)) then (k_5 (true, c_all_00, c_g_00, c_bound_00)) else (if ((List.length c_g_00.Init : Int) != (List.length c_g_00.Params : Int)) then (k_5 (true, c_all_00, c_g_00, c_bound_00)) else (if (decide (c_g_00.Cells < 0)) then (k_5 (true, c_all_00, c_g_00, c_bound_00)) else (if (decide (c_g_00.Cells > 64)) then (k_5 (true, c_all_00, c_g_00, c_bound_00)) else (if (c_g_00.Keep != (-1)) then ((ir_checker_cell_pNCN_s c_all_00 c_g_00 c_bound_00 c_g_00.Keep).bind fun (cel_7 : (Bool × (List Graph) × Graph × Bool)) => (k_5 ((!cel_7.1), cel_7.2.1, cel_7.2.2.1, cel_7.2.2.2))) else (k_5 (false, c_all_00, c_g_00, c_bound_00))))))))))) (fun k_1 => (if (decide ((List.length c_g_00.Kinds : Int) > 1024)) then (k_1 true) else (if c_bound_00 then (if (decide ((List.length c_g_00.Kinds : Int) < 16)) then (k_1 true) else ((slices_ContainsFunc_f83_s c_g_00.Kinds).bind fun con_3 => (k_1 con_3))) else ((slices_ContainsFunc_f83_s c_g_00.Kinds).bind fun con_4 => (k_1 con_4))))))
theorem ir_checker_head_pNCN_ev {c_all_00 : (List Graph)} {c_g_00 : Graph} {c_bound_00 : Bool} {r : (Bool × (List Graph) × Graph × Bool)} (h : ir_checker_head_pNCN_s c_all_00 c_g_00 c_bound_00 = some r) : Ev Tryd.prog 76 [(.ptr 0 0 0)] (hp [.arr 0 [(.sl false 8 (List.map Graph.av c_all_00)), (.cptr (Graph.av c_g_00).cells 0), (.bool c_bound_00)]]) (.bool r.1) (hp [.arr 0 [(.sl false 8 (List.map Graph.av r.2.1)), (.cptr (Graph.av r.2.2.1).cells 0), (.bool r.2.2.2)]]) := by
 unfold ir_checker_head_pNCN_s at h
 refine Ev_end mixed fn76 (by simp) [] ?_
 unfold fc76
 refine E_sq (E_reg (E_mv (v' := .bool false) rfl (E_nil (E_nx (E_sq (E_reg (E_mv (v' := .ptr 0 0 0) rfl (E_op0 (v' := .ptr 0 0 0) rfl rfl (E_op0 (v' := .ptr 0 0 1) rfl rfl (E_op (v' := (.cptr (Graph.av c_g_00).cells 0)) (S' := [.arr 0 [(.sl false 8 (List.map Graph.av c_all_00)), (.cptr (Graph.av c_g_00).cells 0), (.bool c_bound_00)]]) rfl rfl rfl (E_mv (v' := (.cptr (Graph.av c_g_00).cells 0)) rfl (E_nil (E_nx (E_as ?_))))))))))))))
 refine E_jp h (fun s_2 => [(0, (.ptr 0 0 0)), (3, (.cptr (Graph.av c_g_00).cells 0)), (37, (.bool s_2))]) (fun s_2 => [.arr 0 [(.sl false 8 (List.map Graph.av c_all_00)), (.cptr (Graph.av c_g_00).cells 0), (.bool c_bound_00)]]) (fun k_1 h => ?_) (fun s_2 h => ?_)
 {
 refine E_reg (E_mv (v' := (.cptr (Graph.av c_g_00).cells 0)) rfl (E_op0 (v' := (.cptr (Graph.av c_g_00).cells 0)) rfl rfl (E_op0 (v' := (.cptr (Graph.av c_g_00).cells 1)) rfl rfl (E_op0 (v' := (.sl false 1 (List.map (avI .u8) c_g_00.Kinds))) rfl rfl (E_len rfl (E_op0 (v' := (.bool (decide ((List.length c_g_00.Kinds : Int) > 1024)))) rfl rfl (E_mv (v' := (.bool (decide ((List.length c_g_00.Kinds : Int) > 1024)))) rfl ?_)))))))
 refine E_gsT (b := (decide ((List.length c_g_00.Kinds : Int) > 1024))) rfl rfl rfl (fun hb => ?_) (fun hb => ?_)
 {
 rw [ite_f hb] at h
 refine E_mv (v' := .ptr 0 0 0) rfl (E_gh rfl (E_op0 (v' := .ptr 0 0 0) rfl rfl (E_gh rfl (E_op0 (v' := .ptr 0 0 2) rfl rfl (E_gh rfl (E_op (v' := .bool c_bound_00) (S' := [.arr 0 [(.sl false 8 (List.map Graph.av c_all_00)), (.cptr (Graph.av c_g_00).cells 0), (.bool c_bound_00)]]) rfl rfl rfl (E_gh rfl (E_mv (v' := .bool c_bound_00) rfl ?_))))))))
 refine E_gsT (b := c_bound_00) rfl rfl rfl (fun hb => ?_) (fun hb => ?_)
 {
 rw [ite_t hb] at h
 refine E_mv (v' := (.cptr (Graph.av c_g_00).cells 0)) rfl (E_gh rfl (E_op0 (v' := (.cptr (Graph.av c_g_00).cells 0)) rfl rfl (E_gh rfl (E_op0 (v' := (.cptr (Graph.av c_g_00).cells 1)) rfl rfl (E_gh rfl (E_op0 (v' := (.sl false 1 (List.map (avI .u8) c_g_00.Kinds))) rfl rfl (E_gh rfl (E_len rfl (E_gh rfl (E_op0 (v' := (.bool (decide ((List.length c_g_00.Kinds : Int) < 16)))) rfl rfl (E_gh rfl (E_pt rfl rfl (E_pf rfl rfl (E_mv (v' := (.bool (decide ((List.length c_g_00.Kinds : Int) < 16)))) rfl ?_))))))))))))))
 refine E_gsT (b := (decide ((List.length c_g_00.Kinds : Int) < 16))) rfl rfl rfl (fun hb => ?_) (fun hb => ?_)
 {
 rw [ite_f hb] at h
 refine E_mv (v' := (.cptr (Graph.av c_g_00).cells 0)) rfl (E_gh rfl (E_op0 (v' := (.cptr (Graph.av c_g_00).cells 0)) rfl rfl (E_gh rfl (E_op0 (v' := (.cptr (Graph.av c_g_00).cells 1)) rfl rfl (E_gh rfl (E_op0 (v' := (.sl false 1 (List.map (avI .u8) c_g_00.Kinds))) rfl rfl (E_gh rfl ?_)))))))
 obtain ⟨con_3, hcon_3, h⟩ := bd_some h
 refine E_callW (slices_ContainsFunc_f83_ev  hcon_3) rfl ⟨(.refl _), (.refl _), trivial⟩ (blwL_of ⟨((encI .u8).blws 0), rfl, trivial⟩) rfl (E_pf rfl rfl (E_nil ?_))
 exact E_jx _ h (wk_rn [some (0, 0)] rfl (Nat.le_of_ble_eq_true rfl) ⟨(rn_obS rfl rfl (.cons (rn_b (Graph.enc.blws 0)) (.cons (rn_b (cp_blw (Graph.enc.blw _ 0))) (.cons (rn_b rfl) (.nil (Nat.zero_le _))))) rfl), trivial⟩ ⟨(rn_ptr rfl rfl rfl rfl), (rn_b (cp_blw (Graph.enc.blw _ 0))), (rn_b rfl), trivial⟩)
 }
 {
 rw [ite_t hb] at h
 refine E_gm rfl (E_gm rfl (E_gm rfl (E_gm rfl (E_pt rfl rfl (E_nil ?_)))))
 exact E_jx _ h (wk_rn [some (0, 0)] rfl (Nat.le_of_ble_eq_true rfl) ⟨(rn_obS rfl rfl (.cons (rn_b (Graph.enc.blws 0)) (.cons (rn_b (cp_blw (Graph.enc.blw _ 0))) (.cons (rn_b rfl) (.nil (Nat.zero_le _))))) rfl), trivial⟩ ⟨(rn_ptr rfl rfl rfl rfl), (rn_b (cp_blw (Graph.enc.blw _ 0))), (rn_b rfl), trivial⟩)
 }
 }
 {
 rw [ite_f hb] at h
 refine E_gm rfl (E_gm rfl (E_gm rfl (E_gm rfl (E_gm rfl (E_gh rfl (E_pf rfl rfl (E_pf rfl rfl (E_mv (v' := .bool false) rfl (E_gh rfl (E_mv (v' := (.cptr (Graph.av c_g_00).cells 0)) rfl (E_gh rfl (E_op0 (v' := (.cptr (Graph.av c_g_00).cells 0)) rfl rfl (E_gh rfl (E_op0 (v' := (.cptr (Graph.av c_g_00).cells 1)) rfl rfl (E_gh rfl ?_)))))))))))))))
 refine E_op0 (v' := (.sl false 1 (List.map (avI .u8) c_g_00.Kinds))) rfl rfl (E_gh rfl ?_)
 obtain ⟨con_4, hcon_4, h⟩ := bd_some h
 refine E_callW (slices_ContainsFunc_f83_ev  hcon_4) rfl ⟨(.refl _), (.refl _), trivial⟩ (blwL_of ⟨((encI .u8).blws 0), rfl, trivial⟩) rfl (E_pf rfl rfl (E_nil ?_))
 exact E_jx _ h (wk_rn [some (0, 0)] rfl (Nat.le_of_ble_eq_true rfl) ⟨(rn_obS rfl rfl (.cons (rn_b (Graph.enc.blws 0)) (.cons (rn_b (cp_blw (Graph.enc.blw _ 0))) (.cons (rn_b rfl) (.nil (Nat.zero_le _))))) rfl), trivial⟩ ⟨(rn_ptr rfl rfl rfl rfl), (rn_b (cp_blw (Graph.enc.blw _ 0))), (rn_b rfl), trivial⟩)
 }
 }
 {
 rw [ite_t hb] at h
 refine E_gm rfl (E_gm rfl (E_gm rfl (E_gm rfl (E_gz rfl (E_gz rfl (E_gz rfl (E_gz rfl (E_gz rfl (E_gz rfl (E_gm rfl (E_pt rfl rfl (E_mv (v' := .bool true) rfl (E_gm rfl (E_gm rfl (E_gm rfl ?_)))))))))))))))
 refine E_gm rfl (E_gm rfl (E_pt rfl rfl (E_nil ?_)))
 exact E_jx _ h (wk_rn [some (0, 0)] rfl (Nat.le_of_ble_eq_true rfl) ⟨(rn_obS rfl rfl (.cons (rn_b (Graph.enc.blws 0)) (.cons (rn_b (cp_blw (Graph.enc.blw _ 0))) (.cons (rn_b rfl) (.nil (Nat.zero_le _))))) rfl), trivial⟩ ⟨(rn_ptr rfl rfl rfl rfl), (rn_b (cp_blw (Graph.enc.blw _ 0))), (rn_b rfl), trivial⟩)
 }
 }
 {
 refine E_sq ?_
 refine E_cs (t := s_2) rfl (fun hb => ?_) (fun hb => ?_)
 {
 rw [ite_t hb] at h
 refine E_sq (E_reg (E_mv (v' := .bool false) rfl (E_nil (E_nx (E_ret (E_thr ?_))))))
 cases h
 exact ⟨trivial, _, _, rfl, gwk_rn [some (0, 0)] rfl (Nat.le_of_ble_eq_true rfl) ⟨(rn_obS rfl rfl (.cons (rn_b (Graph.enc.blws 0)) (.cons (rn_b (cp_blw (Graph.enc.blw _ 0))) (.cons (rn_b rfl) (.nil (Nat.zero_le _))))) rfl), trivial⟩, (rn_b rfl)⟩
 }
 {
 rw [ite_f hb] at h
 refine E_skip (E_nx (E_as ?_))
 refine E_jp h (fun s_6 => [(0, (.ptr 0 0 0)), (3, (.cptr (Graph.av c_g_00).cells 0)), (86, (.bool s_6.1))]) (fun s_6 => [.arr 0 [(.sl false 8 (List.map Graph.av s_6.2.1)), (.cptr (Graph.av s_6.2.2.1).cells 0), (.bool s_6.2.2.2)]]) (fun k_5 h => ?_) (fun s_6 h => ?_)
 {
 refine E_reg ?_
 refine E_mv (v' := (.cptr (Graph.av c_g_00).cells 0)) (by kernel_rfl) ?_
 refine E_op0 (v := (.cptr (Graph.av c_g_00).cells 0)) (v' := (.cptr (Graph.av c_g_00).cells 0)) (by kernel_rfl) rfl ?_
 refine E_op0 (v := (.cptr (Graph.av c_g_00).cells 0)) (v' := (.cptr (Graph.av c_g_00).cells 0)) (by kernel_rfl) rfl ?_
 refine E_op0 (v := (.sl false 1 (List.map (avI .i64) c_g_00.Params))) (v' := (.sl false 1 (List.map (avI .i64) c_g_00.Params))) (by kernel_rfl) rfl ?_
 refine E_len rfl ?_
 refine E_op0 (v := (.bool (decide ((List.length c_g_00.Params : Int) > 4)))) (v' := (.bool (decide ((List.length c_g_00.Params : Int) > 4)))) (by kernel_rfl) rfl ?_
 refine E_mv (v' := (.bool (decide ((List.length c_g_00.Params : Int) > 4)))) (by kernel_rfl) ?_
 refine E_gsT (b := (decide ((List.length c_g_00.Params : Int) > 4))) rfl rfl rfl (fun hb => ?_) (fun hb => ?_)
 {
 rw [ite_f hb] at h
 refine E_mv (v' := (.cptr (Graph.av c_g_00).cells 0)) (by kernel_rfl) ?_
 refine E_gh rfl ?_
 refine E_op0 (v := (.cptr (Graph.av c_g_00).cells 0)) (v' := (.cptr (Graph.av c_g_00).cells 0)) (by kernel_rfl) rfl ?_
 refine E_gh rfl ?_
 refine E_op0 (v := (.cptr (Graph.av c_g_00).cells 3)) (v' := (.cptr (Graph.av c_g_00).cells 3)) (by kernel_rfl) rfl ?_
 refine E_gh rfl ?_
 refine E_op0 (v := (.sl false 1 (List.map (avI .i64) c_g_00.Init))) (v' := (.sl false 1 (List.map (avI .i64) c_g_00.Init))) (by kernel_rfl) rfl ?_
 refine E_gh rfl (E_len rfl (E_gh rfl ?_))
 refine E_mv (v' := (.cptr (Graph.av c_g_00).cells 0)) (by kernel_rfl) ?_
 refine E_gh rfl ?_
 refine E_op0 (v := (.cptr (Graph.av c_g_00).cells 0)) (v' := (.cptr (Graph.av c_g_00).cells 0)) (by kernel_rfl) rfl ?_
 refine E_gh rfl ?_
 refine E_op0 (v := (.cptr (Graph.av c_g_00).cells 0)) (v' := (.cptr (Graph.av c_g_00).cells 0)) (by kernel_rfl) rfl ?_
 refine E_gh rfl ?_
 refine E_op0 (v := (.sl false 1 (List.map (avI .i64) c_g_00.Params))) (v' := (.sl false 1 (List.map (avI .i64) c_g_00.Params))) (by kernel_rfl) rfl ?_
 refine E_gh rfl (E_len rfl (E_gh rfl ?_))
 refine E_op0 (v := (.bool ((List.length c_g_00.Init : Int) != (List.length c_g_00.Params : Int)))) (v' := (.bool ((List.length c_g_00.Init : Int) != (List.length c_g_00.Params : Int)))) (by kernel_rfl) rfl ?_
 refine E_pf rfl rfl ?_
 refine E_mv (v' := (.bool ((List.length c_g_00.Init : Int) != (List.length c_g_00.Params : Int)))) (by kernel_rfl) ?_
 refine E_gsT (b := ((List.length c_g_00.Init : Int) != (List.length c_g_00.Params : Int))) rfl rfl rfl (fun hb => ?_) (fun hb => ?_)
 {
 rw [ite_f hb] at h
 refine E_mv (v' := (.cptr (Graph.av c_g_00).cells 0)) (by kernel_rfl) ?_
 refine E_gh rfl ?_
 refine E_op0 (v := (.cptr (Graph.av c_g_00).cells 0)) (v' := (.cptr (Graph.av c_g_00).cells 0)) (by kernel_rfl) rfl ?_
 refine E_gh rfl ?_
 refine E_op0 (v := (.cptr (Graph.av c_g_00).cells 2)) (v' := (.cptr (Graph.av c_g_00).cells 2)) (by kernel_rfl) rfl ?_
 refine E_gh rfl ?_
 refine E_op0 (v := (.int .i64 c_g_00.Cells)) (v' := .int .i64 c_g_00.Cells) (by kernel_rfl) rfl ?_
 refine E_gh rfl ?_
 refine E_op0 (v := (.bool (decide (c_g_00.Cells < 0)))) (v' := (.bool (decide (c_g_00.Cells < 0)))) (by kernel_rfl) rfl ?_
 refine E_pf rfl rfl ?_
 refine E_mv (v' := (.bool (decide (c_g_00.Cells < 0)))) (by kernel_rfl) ?_
 refine E_gsT (b := (decide (c_g_00.Cells < 0))) rfl rfl rfl (fun hb => ?_) (fun hb => ?_)
 {
 rw [ite_f hb] at h
 refine E_mv (v' := (.cptr (Graph.av c_g_00).cells 0)) (by kernel_rfl) ?_
 refine E_gh rfl ?_
 refine E_op0 (v := (.cptr (Graph.av c_g_00).cells 0)) (v' := (.cptr (Graph.av c_g_00).cells 0)) (by kernel_rfl) rfl ?_
 refine E_gh rfl ?_
 refine E_op0 (v := (.cptr (Graph.av c_g_00).cells 2)) (v' := (.cptr (Graph.av c_g_00).cells 2)) (by kernel_rfl) rfl ?_
 refine E_gh rfl ?_
 refine E_op0 (v := (.int .i64 c_g_00.Cells)) (v' := .int .i64 c_g_00.Cells) (by kernel_rfl) rfl ?_
 refine E_gh rfl ?_
 refine E_op0 (v := (.bool (decide (c_g_00.Cells > 64)))) (v' := (.bool (decide (c_g_00.Cells > 64)))) (by kernel_rfl) rfl ?_
 refine E_pf rfl rfl ?_
 refine E_mv (v' := (.bool (decide (c_g_00.Cells > 64)))) (by kernel_rfl) ?_
 refine E_gsT (b := (decide (c_g_00.Cells > 64))) rfl rfl rfl (fun hb => ?_) (fun hb => ?_)
 {
 rw [ite_f hb] at h
 refine E_mv (v' := (.cptr (Graph.av c_g_00).cells 0)) (by kernel_rfl) ?_
 refine E_gh rfl ?_
 refine E_op0 (v := (.cptr (Graph.av c_g_00).cells 0)) (v' := (.cptr (Graph.av c_g_00).cells 0)) (by kernel_rfl) rfl ?_
 refine E_gh rfl ?_
 refine E_op0 (v := (.cptr (Graph.av c_g_00).cells 5)) (v' := (.cptr (Graph.av c_g_00).cells 5)) (by kernel_rfl) rfl ?_
 refine E_gh rfl ?_
 refine E_op0 (v := (.int .i64 c_g_00.Keep)) (v' := .int .i64 c_g_00.Keep) (by kernel_rfl) rfl ?_
 refine E_gh rfl ?_
 refine E_op0 (v := (.bool (c_g_00.Keep != (-1)))) (v' := (.bool (c_g_00.Keep != (-1)))) (by kernel_rfl) rfl ?_
 refine E_gh rfl ?_
 refine E_mv (v' := (.bool (c_g_00.Keep != (-1)))) (by kernel_rfl) ?_
 refine E_gsT (b := (c_g_00.Keep != (-1))) rfl rfl rfl (fun hb => ?_) (fun hb => ?_)
 {
 rw [ite_t hb] at h
 refine E_mv (v' := .ptr 0 0 0) (by kernel_rfl) ?_
 refine E_gh rfl ?_
 refine E_mv (v' := (.cptr (Graph.av c_g_00).cells 0)) (by kernel_rfl) ?_
 refine E_gh rfl ?_
 refine E_op0 (v := (.cptr (Graph.av c_g_00).cells 0)) (v' := (.cptr (Graph.av c_g_00).cells 0)) (by kernel_rfl) rfl ?_
 refine E_gh rfl ?_
 refine E_op0 (v := (.cptr (Graph.av c_g_00).cells 5)) (v' := (.cptr (Graph.av c_g_00).cells 5)) (by kernel_rfl) rfl ?_
 refine E_gh rfl ?_
 refine E_op0 (v := (.int .i64 c_g_00.Keep)) (v' := .int .i64 c_g_00.Keep) (by kernel_rfl) rfl ?_
 refine E_gh rfl ?_
 obtain ⟨cel_7, hcel_7, h⟩ := bd_some h
 refine E_callF (S' := [.arr 0 [(.sl false 8 (List.map Graph.av cel_7.2.1)), (.cptr (Graph.av cel_7.2.2.1).cells 0), (.bool cel_7.2.2.2)]]) (r' := (.bool cel_7.1)) (ir_checker_cell_pNCN_ev hcel_7) [0] rfl rfl (by decide) rfl rfl ⟨(fr_in rfl rfl (.cons (.base (Graph.enc.blws 0) (.refl _)) (.cons (rn_b (cp_blw (Graph.enc.blw _ 0))) (.cons (.base rfl (.refl _)) (.nil (Nat.zero_le _)))))), trivial⟩ ⟨(fr_outS rfl rfl (.cons (rn_b (Graph.enc.blws 0)) (.cons (rn_b (cp_blw (Graph.enc.blw _ 0))) (.cons (rn_b rfl) (.nil (Nat.zero_le _))))) rfl rfl), trivial⟩ ⟨.inl rfl, trivial⟩ rfl (.cons (fi_ptr rfl rfl rfl rfl) (.cons (.base rfl (.refl _)) (.nil (Nat.zero_le _)))) (rn_b rfl) ?_
 refine E_gh rfl ?_
 refine E_op0 (v := (.bool (!cel_7.1))) (v' := .bool (!cel_7.1)) (by kernel_rfl) rfl ?_
 refine E_gh rfl (E_pt rfl rfl (E_pf rfl rfl (E_nil ?_)))
 exact E_jx _ h (wk_rn [some (0, 0)] rfl (Nat.le_of_ble_eq_true rfl) ⟨(rn_obS rfl rfl (.cons (rn_b (Graph.enc.blws 0)) (.cons (rn_b (cp_blw (Graph.enc.blw _ 0))) (.cons (rn_b rfl) (.nil (Nat.zero_le _))))) rfl), trivial⟩ ⟨(rn_ptr rfl rfl rfl rfl), (rn_b (cp_blw (Graph.enc.blw _ 0))), (rn_b rfl), trivial⟩)
 }
 {
 rw [ite_f hb] at h
 refine E_gm rfl (E_gm rfl (E_gm rfl (E_gm rfl (E_gm rfl (E_gm rfl (E_gh rfl (E_pf rfl rfl (E_pf rfl rfl (E_nil ?_)))))))))
 exact E_jx _ h (wk_rn [some (0, 0)] rfl (Nat.le_of_ble_eq_true rfl) ⟨(rn_obS rfl rfl (.cons (rn_b (Graph.enc.blws 0)) (.cons (rn_b (cp_blw (Graph.enc.blw _ 0))) (.cons (rn_b rfl) (.nil (Nat.zero_le _))))) rfl), trivial⟩ ⟨(rn_ptr rfl rfl rfl rfl), (rn_b (cp_blw (Graph.enc.blw _ 0))), (rn_b rfl), trivial⟩)
 }
 }
 {
 rw [ite_t hb] at h
 refine E_gm rfl (E_gm rfl (E_gm rfl (E_gm rfl (E_gm rfl (E_gz rfl (E_gz rfl (E_gz rfl (E_gz rfl (E_gz rfl (E_gz rfl (E_gz rfl (E_gm rfl (E_pt rfl rfl (E_nil ?_))))))))))))))
 exact E_jx _ h (wk_rn [some (0, 0)] rfl (Nat.le_of_ble_eq_true rfl) ⟨(rn_obS rfl rfl (.cons (rn_b (Graph.enc.blws 0)) (.cons (rn_b (cp_blw (Graph.enc.blw _ 0))) (.cons (rn_b rfl) (.nil (Nat.zero_le _))))) rfl), trivial⟩ ⟨(rn_ptr rfl rfl rfl rfl), (rn_b (cp_blw (Graph.enc.blw _ 0))), (rn_b rfl), trivial⟩)
 }
 }
 {
 rw [ite_t hb] at h
 refine E_gm rfl (E_gm rfl (E_gm rfl (E_gm rfl (E_pt rfl rfl ?_))))
 refine E_mv (v' := .bool true) (by kernel_rfl) ?_
 refine E_gm rfl (E_gm rfl (E_gm rfl (E_gm rfl (E_gm rfl (E_gm rfl (E_gz rfl (E_gz rfl (E_gz rfl (E_gz rfl (E_gz rfl (E_gz rfl (E_gz rfl (E_gm rfl (E_pt rfl rfl (E_nil ?_)))))))))))))))
 exact E_jx _ h (wk_rn [some (0, 0)] rfl (Nat.le_of_ble_eq_true rfl) ⟨(rn_obS rfl rfl (.cons (rn_b (Graph.enc.blws 0)) (.cons (rn_b (cp_blw (Graph.enc.blw _ 0))) (.cons (rn_b rfl) (.nil (Nat.zero_le _))))) rfl), trivial⟩ ⟨(rn_ptr rfl rfl rfl rfl), (rn_b (cp_blw (Graph.enc.blw _ 0))), (rn_b rfl), trivial⟩)
 }
 }
 {
 rw [ite_t hb] at h
 refine E_gm rfl (E_gm rfl (E_gm rfl (E_gm rfl (E_pt rfl rfl ?_))))
 refine E_mv (v' := .bool true) (by kernel_rfl) ?_
 refine E_gm rfl (E_gm rfl (E_gm rfl (E_gm rfl (E_gm rfl (E_pt rfl rfl ?_)))))
 refine E_mv (v' := .bool true) (by kernel_rfl) ?_
 refine E_gm rfl (E_gm rfl (E_gm rfl (E_gm rfl (E_gm rfl (E_gm rfl (E_gz rfl (E_gz rfl (E_gz rfl (E_gz rfl (E_gz rfl (E_gz rfl (E_gz rfl (E_gm rfl (E_pt rfl rfl (E_nil ?_)))))))))))))))
 exact E_jx _ h (wk_rn [some (0, 0)] rfl (Nat.le_of_ble_eq_true rfl) ⟨(rn_obS rfl rfl (.cons (rn_b (Graph.enc.blws 0)) (.cons (rn_b (cp_blw (Graph.enc.blw _ 0))) (.cons (rn_b rfl) (.nil (Nat.zero_le _))))) rfl), trivial⟩ ⟨(rn_ptr rfl rfl rfl rfl), (rn_b (cp_blw (Graph.enc.blw _ 0))), (rn_b rfl), trivial⟩)
 }
 }
 {
 rw [ite_t hb] at h
 refine E_gm rfl (E_gm rfl (E_gm rfl (E_gm rfl (E_gm rfl (E_gm rfl (E_gm rfl (E_gm rfl (E_gm rfl (E_gm rfl (E_pt rfl rfl ?_))))))))))
 refine E_mv (v' := .bool true) (by kernel_rfl) ?_
 refine E_gm rfl (E_gm rfl (E_gm rfl (E_gm rfl (E_gm rfl (E_pt rfl rfl ?_)))))
 refine E_mv (v' := .bool true) (by kernel_rfl) ?_
 refine E_gm rfl (E_gm rfl (E_gm rfl (E_gm rfl (E_gm rfl (E_pt rfl rfl ?_)))))
 refine E_mv (v' := .bool true) (by kernel_rfl) ?_
 refine E_gm rfl (E_gm rfl (E_gm rfl (E_gm rfl (E_gm rfl (E_gm rfl (E_gz rfl (E_gz rfl (E_gz rfl (E_gz rfl (E_gz rfl (E_gz rfl (E_gz rfl (E_gm rfl (E_pt rfl rfl (E_nil ?_)))))))))))))))
 exact E_jx _ h (wk_rn [some (0, 0)] rfl (Nat.le_of_ble_eq_true rfl) ⟨(rn_obS rfl rfl (.cons (rn_b (Graph.enc.blws 0)) (.cons (rn_b (cp_blw (Graph.enc.blw _ 0))) (.cons (rn_b rfl) (.nil (Nat.zero_le _))))) rfl), trivial⟩ ⟨(rn_ptr rfl rfl rfl rfl), (rn_b (cp_blw (Graph.enc.blw _ 0))), (rn_b rfl), trivial⟩)
 }
 }
 {
 refine E_sq ?_
 refine E_cs (t := s_6.1) rfl (fun hb => ?_) (fun hb => ?_)
 {
 rw [ite_t hb] at h
 refine E_sq (E_reg (E_mv (v' := .bool false) rfl (E_nil (E_nx (E_ret (E_thr ?_))))))
 cases h
 exact ⟨trivial, _, _, rfl, gwk_rn [some (0, 0)] rfl (Nat.le_of_ble_eq_true rfl) ⟨(rn_obS rfl rfl (.cons (rn_b (Graph.enc.blws 0)) (.cons (rn_b (cp_blw (Graph.enc.blw _ 0))) (.cons (rn_b rfl) (.nil (Nat.zero_le _))))) rfl), trivial⟩, (rn_b rfl)⟩
 }
 {
 rw [ite_f hb] at h
 refine E_skip (E_nx (E_as (E_sq (E_reg (E_mv (v' := (.cptr (Graph.av c_g_00).cells 0)) rfl (E_op0 (v' := (.cptr (Graph.av c_g_00).cells 0)) rfl rfl (E_op0 (v' := (.cptr (Graph.av c_g_00).cells 0)) rfl rfl (E_op0 (v' := (.sl false 1 (List.map (avI .i64) c_g_00.Params))) rfl rfl (E_len rfl (E_mv (v' := .int .i64 0) rfl (E_nil (E_nx (E_sq ?_)))))))))))))
 refine E_rngO (fun s_8 => [(0, (.ptr 0 0 0)), (3, (.cptr (Graph.av c_g_00).cells 0)), (90, (.sl false 1 (List.map (avI .i64) c_g_00.Params)))]) (fun s_8 => [.arr 0 [(.sl false 8 (List.map Graph.av s_8.1)), (.cptr (Graph.av s_8.2.1).cells 0), (.bool s_8.2.2)]]) h (by decide) (by decide) (fun _ => ⟨rfl, rfl, rfl, rfl⟩) (wk_rn [some (0, 0)] rfl (Nat.le_of_ble_eq_true rfl) ⟨(rn_obS rfl rfl (.cons (rn_b (Graph.enc.blws 0)) (.cons (rn_b (cp_blw (Graph.enc.blw _ 0))) (.cons (rn_b rfl) (.nil (Nat.zero_le _))))) rfl), trivial⟩ ⟨(rn_b rfl), (rn_b rfl), (rn_ptr rfl rfl rfl rfl), (rn_b (cp_blw (Graph.enc.blw _ 0))), (rn_b ((encI .i64).blws 0)), trivial⟩) (fun i_9 p_10 s_8 c hx_11 hlt h => ?_) (fun s_8 fr' S' h hw => ?_)
 {
 refine E_sq (E_reg (E_mv (v' := .int .i64 (i_9 : Int)) rfl (E_iadF rfl rfl (getI_of hx_11) (E_op0 (v' := .int .i64 p_10) rfl rfl (E_mv (v' := .int .i64 (i_9 : Int)) rfl (E_mv (v' := .int .i64 p_10) rfl (E_nil (E_nx (E_as ?_)))))))))
 refine E_jp h (fun s_13 => [(0, (.ptr 0 0 0)), (3, (.cptr (Graph.av c_g_00).cells 0)), (4, (.int .i64 (i_9 : Int))), (5, (.int .i64 p_10)), (90, (.sl false 1 (List.map (avI .i64) c_g_00.Params))), (91, (.int .i64 (List.length c_g_00.Params : Int))), (92, (.int .i64 (i_9 : Int))), (128, (.bool s_13))]) (fun s_13 => [.arr 0 [(.sl false 8 (List.map Graph.av s_8.1)), (.cptr (Graph.av s_8.2.1).cells 0), (.bool s_8.2.2)]]) (fun k_12 h => ?_) (fun s_13 h => ?_)
 {
 refine E_reg (E_mv (v' := .int .i64 p_10) rfl (E_op0 (v' := (.bool (decide (p_10 < 0)))) rfl rfl (E_mv (v' := (.bool (decide (p_10 < 0)))) rfl ?_)))
 refine E_gsT (b := (decide (p_10 < 0))) rfl rfl rfl (fun hb => ?_) (fun hb => ?_)
 {
 rw [ite_f hb] at h
 refine E_mv (v' := .int .i64 p_10) rfl (E_gh rfl (E_mv (v' := (.cptr (Graph.av c_g_00).cells 0)) rfl (E_gh rfl (E_op0 (v' := (.cptr (Graph.av c_g_00).cells 0)) rfl rfl (E_gh rfl (E_op0 (v' := (.cptr (Graph.av c_g_00).cells 1)) rfl rfl (E_gh rfl (E_op0 (v' := (.sl false 1 (List.map (avI .u8) c_g_00.Kinds))) rfl rfl (E_gh rfl (E_len rfl (E_gh rfl (E_op0 (v' := (.bool (decide (p_10 ≥ (List.length c_g_00.Kinds : Int))))) rfl rfl (E_pf rfl rfl (E_mv (v' := (.bool (decide (p_10 ≥ (List.length c_g_00.Kinds : Int))))) rfl ?_))))))))))))))
 refine E_gsT (b := (decide (p_10 ≥ (List.length c_g_00.Kinds : Int)))) rfl rfl rfl (fun hb => ?_) (fun hb => ?_)
 {
 rw [ite_f hb] at h
 refine E_mv (v' := (.cptr (Graph.av c_g_00).cells 0)) rfl (E_gh rfl (E_op0 (v' := (.cptr (Graph.av c_g_00).cells 0)) rfl rfl (E_gh rfl (E_op0 (v' := (.cptr (Graph.av c_g_00).cells 0)) rfl rfl (E_gh rfl (E_op0 (v' := (.sl false 1 (List.map (avI .i64) c_g_00.Params))) rfl rfl (E_gh rfl (E_mv (v' := .int .i64 (i_9 : Int)) rfl (E_gh rfl ?_)))))))))
 obtain ⟨l_14, hl_14, h⟩ := bd_some h
 refine E_slcL rfl (fun _ => rfl) (fun h0 => hiN_int h0) hl_14 (E_gh rfl (E_mv (v' := .int .i64 p_10) rfl (E_gh rfl ?_)))
 obtain ⟨con_15, hcon_15, h⟩ := bd_some h
 refine E_callW (slices_Contains_ev  hcon_15) rfl ⟨(.refl _), (.refl _), trivial⟩ (blwL_of ⟨((encI .i64).blws 0), rfl, trivial⟩) rfl (E_pf rfl rfl (E_mv (v' := .bool con_15) rfl ?_))
 refine E_gsT (b := con_15) rfl rfl rfl (fun hb => ?_) (fun hb => ?_)
 {
 rw [ite_f hb] at h
 refine E_mv (v' := .ptr 0 0 0) rfl (E_gh rfl (E_op0 (v' := .ptr 0 0 0) rfl rfl (E_gh rfl (E_op0 (v' := .ptr 0 0 2) rfl rfl (E_gh rfl (E_op (v' := .bool s_8.2.2) (S' := [.arr 0 [(.sl false 8 (List.map Graph.av s_8.1)), (.cptr (Graph.av s_8.2.1).cells 0), (.bool s_8.2.2)]]) rfl rfl rfl (E_gh rfl (E_mv (v' := .bool s_8.2.2) rfl ?_))))))))
 refine E_gsT (b := s_8.2.2) rfl rfl rfl (fun hb => ?_) (fun hb => ?_)
 {
 rw [ite_t hb] at h
 refine E_mv (v' := .int .i64 p_10) rfl (E_gh rfl (E_mv (v' := .int .i64 (i_9 : Int)) rfl (E_gh rfl (E_op0 (v' := (.bool (p_10 != (i_9 : Int)))) rfl rfl (E_gh rfl (E_pt rfl rfl (E_pf rfl rfl (E_nil ?_))))))))
 exact E_jx _ h (wk_rn [some (0, 0)] rfl (Nat.le_of_ble_eq_true rfl) ⟨(rn_obS rfl rfl (.cons (rn_b (Graph.enc.blws 0)) (.cons (rn_b (cp_blw (Graph.enc.blw _ 0))) (.cons (rn_b rfl) (.nil (Nat.zero_le _))))) rfl), trivial⟩ ⟨(rn_ptr rfl rfl rfl rfl), (rn_b (cp_blw (Graph.enc.blw _ 0))), (rn_b rfl), (rn_b rfl), (rn_b ((encI .i64).blws 0)), (rn_b rfl), (rn_b rfl), (rn_b rfl), trivial⟩)
 }
 {
 rw [ite_f hb] at h
 refine E_gm rfl (E_gm rfl (E_gh rfl (E_pf rfl rfl (E_pf rfl rfl (E_nil ?_)))))
 exact E_jx _ h (wk_rn [some (0, 0)] rfl (Nat.le_of_ble_eq_true rfl) ⟨(rn_obS rfl rfl (.cons (rn_b (Graph.enc.blws 0)) (.cons (rn_b (cp_blw (Graph.enc.blw _ 0))) (.cons (rn_b rfl) (.nil (Nat.zero_le _))))) rfl), trivial⟩ ⟨(rn_ptr rfl rfl rfl rfl), (rn_b (cp_blw (Graph.enc.blw _ 0))), (rn_b rfl), (rn_b rfl), (rn_b ((encI .i64).blws 0)), (rn_b rfl), (rn_b rfl), (rn_b rfl), trivial⟩)
 }
 }
 {
 rw [ite_t hb] at h
 refine E_gm rfl (E_gm rfl (E_gm rfl (E_gm rfl (E_gz rfl (E_gz rfl (E_gz rfl (E_gm rfl (E_pt rfl rfl (E_nil ?_)))))))))
 exact E_jx _ h (wk_rn [some (0, 0)] rfl (Nat.le_of_ble_eq_true rfl) ⟨(rn_obS rfl rfl (.cons (rn_b (Graph.enc.blws 0)) (.cons (rn_b (cp_blw (Graph.enc.blw _ 0))) (.cons (rn_b rfl) (.nil (Nat.zero_le _))))) rfl), trivial⟩ ⟨(rn_ptr rfl rfl rfl rfl), (rn_b (cp_blw (Graph.enc.blw _ 0))), (rn_b rfl), (rn_b rfl), (rn_b ((encI .i64).blws 0)), (rn_b rfl), (rn_b rfl), (rn_b rfl), trivial⟩)
 }
 }
 {
 rw [ite_t hb] at h
 refine E_gm rfl (E_gm rfl (E_gm rfl (E_gm rfl (E_gm rfl (E_gm rfl (E_gm rfl (E_pt rfl rfl (E_mv (v' := .bool true) rfl (E_gm rfl (E_gm rfl (E_gm rfl (E_gm rfl (E_gm rfl (E_gz rfl (E_gz rfl ?_)))))))))))))))
 refine E_gz rfl (E_gm rfl (E_pt rfl rfl (E_nil ?_)))
 exact E_jx _ h (wk_rn [some (0, 0)] rfl (Nat.le_of_ble_eq_true rfl) ⟨(rn_obS rfl rfl (.cons (rn_b (Graph.enc.blws 0)) (.cons (rn_b (cp_blw (Graph.enc.blw _ 0))) (.cons (rn_b rfl) (.nil (Nat.zero_le _))))) rfl), trivial⟩ ⟨(rn_ptr rfl rfl rfl rfl), (rn_b (cp_blw (Graph.enc.blw _ 0))), (rn_b rfl), (rn_b rfl), (rn_b ((encI .i64).blws 0)), (rn_b rfl), (rn_b rfl), (rn_b rfl), trivial⟩)
 }
 }
 {
 rw [ite_t hb] at h
 refine E_gm rfl (E_gm rfl (E_gm rfl (E_gm rfl (E_gm rfl (E_gm rfl (E_pt rfl rfl (E_mv (v' := .bool true) rfl (E_gm rfl (E_gm rfl (E_gm rfl (E_gm rfl (E_gm rfl (E_gm rfl (E_gm rfl (E_gm rfl ?_)))))))))))))))
 refine E_pt rfl rfl (E_mv (v' := .bool true) rfl (E_gm rfl (E_gm rfl (E_gm rfl (E_gm rfl (E_gm rfl (E_gz rfl (E_gz rfl (E_gz rfl (E_gm rfl (E_pt rfl rfl (E_nil ?_))))))))))))
 exact E_jx _ h (wk_rn [some (0, 0)] rfl (Nat.le_of_ble_eq_true rfl) ⟨(rn_obS rfl rfl (.cons (rn_b (Graph.enc.blws 0)) (.cons (rn_b (cp_blw (Graph.enc.blw _ 0))) (.cons (rn_b rfl) (.nil (Nat.zero_le _))))) rfl), trivial⟩ ⟨(rn_ptr rfl rfl rfl rfl), (rn_b (cp_blw (Graph.enc.blw _ 0))), (rn_b rfl), (rn_b rfl), (rn_b ((encI .i64).blws 0)), (rn_b rfl), (rn_b rfl), (rn_b rfl), trivial⟩)
 }
 }
 {
 refine E_sq ?_
 refine E_cs (t := s_13) rfl (fun hb => ?_) (fun hb => ?_)
 {
 rw [ite_t hb] at h
 refine E_sq (E_reg (E_mv (v' := .bool false) rfl (E_nil (E_nx (E_ret (E_thr ?_))))))
 cases h
 refine L_rrO rfl (fun h => ?_)
 refine E_thr ?_
 cases h
 exact ⟨trivial, _, _, rfl, gwk_rn [some (0, 0)] rfl (Nat.le_of_ble_eq_true rfl) ⟨(rn_obS rfl rfl (.cons (rn_b (Graph.enc.blws 0)) (.cons (rn_b (cp_blw (Graph.enc.blw _ 0))) (.cons (rn_b rfl) (.nil (Nat.zero_le _))))) rfl), trivial⟩, (rn_b rfl)⟩
 }
 {
 rw [ite_f hb] at h
 refine E_skip (E_nx (E_sq (E_reg (E_mv (v' := (.cptr (Graph.av c_g_00).cells 0)) rfl (E_op0 (v' := (.cptr (Graph.av c_g_00).cells 0)) rfl rfl (E_op0 (v' := (.cptr (Graph.av c_g_00).cells 3)) rfl rfl (E_op0 (v' := (.sl false 1 (List.map (avI .i64) c_g_00.Init))) rfl rfl (E_mv (v' := .int .i64 (i_9 : Int)) rfl ?_))))))))
 obtain ⟨y_16, hy_16, h⟩ := bd_some h
 refine E_iadF rfl rfl hy_16 (E_op0 (v' := .int .i64 y_16) rfl rfl (E_mv (v' := .int .i64 y_16) rfl (E_nil (E_nx ?_))))
 refine E_jp h (fun s_18 => [(0, (.ptr 0 0 0)), (3, (.cptr (Graph.av c_g_00).cells 0)), (90, (.sl false 1 (List.map (avI .i64) c_g_00.Params))), (91, (.int .i64 (List.length c_g_00.Params : Int))), (92, (.int .i64 (i_9 : Int))), (150, (.bool s_18.1))]) (fun s_18 => [.arr 0 [(.sl false 8 (List.map Graph.av s_18.2.1)), (.cptr (Graph.av s_18.2.2.1).cells 0), (.bool s_18.2.2.2)]]) (fun k_17 h => ?_) (fun s_18 h => ?_)
 {
 refine E_reg (E_mv (v' := .int .i64 y_16) rfl (E_op0 (v' := (.bool (y_16 != (-1)))) rfl rfl (E_mv (v' := (.bool (y_16 != (-1)))) rfl ?_)))
 refine E_gsT (b := (y_16 != (-1))) rfl rfl rfl (fun hb => ?_) (fun hb => ?_)
 {
 rw [ite_t hb] at h
 refine E_mv (v' := .ptr 0 0 0) rfl (E_gh rfl (E_mv (v' := .int .i64 y_16) rfl (E_gh rfl ?_)))
 obtain ⟨cel_19, hcel_19, h⟩ := bd_some h
 refine E_callF (S' := [.arr 0 [(.sl false 8 (List.map Graph.av cel_19.2.1)), (.cptr (Graph.av cel_19.2.2.1).cells 0), (.bool cel_19.2.2.2)]]) (r' := (.bool cel_19.1)) (ir_checker_cell_pNCN_ev hcel_19) [0] rfl rfl (by decide) rfl rfl ⟨(fr_in rfl rfl (.cons (.base (Graph.enc.blws 0) (.refl _)) (.cons (rn_b (cp_blw (Graph.enc.blw _ 0))) (.cons (.base rfl (.refl _)) (.nil (Nat.zero_le _)))))), trivial⟩ ⟨(fr_outS rfl rfl (.cons (rn_b (Graph.enc.blws 0)) (.cons (rn_b (cp_blw (Graph.enc.blw _ 0))) (.cons (rn_b rfl) (.nil (Nat.zero_le _))))) rfl rfl), trivial⟩ ⟨.inl rfl, trivial⟩ rfl (.cons (fi_ptr rfl rfl rfl rfl) (.cons (.base rfl (.refl _)) (.nil (Nat.zero_le _)))) (rn_b rfl) ?_
 refine E_gh rfl (E_op0 (v' := .bool (!cel_19.1)) rfl rfl (E_gh rfl (E_mv (v' := .bool (!cel_19.1)) rfl ?_)))
 refine E_gsT (b := (!cel_19.1)) rfl rfl rfl (fun hb => ?_) (fun hb => ?_)
 {
 rw [ite_f hb] at h
 refine E_mv (v' := .ptr 0 0 0) rfl (E_gh rfl (E_mv (v' := .int .i64 p_10) rfl (E_gh rfl (E_opw (v' := (.sl true 1 (List.map (avI .i64) [p_10]))) rfl (.refl _) rfl (E_gh rfl ?_)))))
 obtain ⟨vis_20, hvis_20, h⟩ := bd_some h
 refine E_callF (S' := [.arr 0 [(.sl false 8 (List.map Graph.av vis_20.2.1)), (.cptr (Graph.av vis_20.2.2.1).cells 0), (.bool vis_20.2.2.2)]]) (r' := (.bool vis_20.1)) (ir_checker_is_pNCN_ev hvis_20) [0] rfl rfl (by decide) rfl rfl ⟨(fr_in rfl rfl (.cons (.base (Graph.enc.blws 0) (.refl _)) (.cons (rn_b (cp_blw (Graph.enc.blw _ 0))) (.cons (.base rfl (.refl _)) (.nil (Nat.zero_le _)))))), trivial⟩ ⟨(fr_outS rfl rfl (.cons (rn_b (Graph.enc.blws 0)) (.cons (rn_b (cp_blw (Graph.enc.blw _ 0))) (.cons (rn_b rfl) (.nil (Nat.zero_le _))))) rfl rfl), trivial⟩ ⟨.inl rfl, trivial⟩ rfl (.cons (fi_ptr rfl rfl rfl rfl) (.cons (.base rfl (.refl _)) (.cons (.base ((encI .i64).blws 0) .ex) (.nil (Nat.zero_le _))))) (rn_b rfl) ?_
 refine E_gh rfl (E_op0 (v' := .bool (!vis_20.1)) rfl rfl (E_gh rfl (E_pf rfl rfl (E_pt rfl rfl (E_nil ?_)))))
 exact E_jx _ h (wk_rn [some (0, 0)] rfl (Nat.le_of_ble_eq_true rfl) ⟨(rn_obS rfl rfl (.cons (rn_b (Graph.enc.blws 0)) (.cons (rn_b (cp_blw (Graph.enc.blw _ 0))) (.cons (rn_b rfl) (.nil (Nat.zero_le _))))) rfl), trivial⟩ ⟨(rn_ptr rfl rfl rfl rfl), (rn_b (cp_blw (Graph.enc.blw _ 0))), (rn_b ((encI .i64).blws 0)), (rn_b rfl), (rn_b rfl), (rn_b rfl), trivial⟩)
 }
 {
 rw [ite_t hb] at h
 refine E_gm rfl (E_gm rfl (E_gm rfl (E_gm rfl (E_gh rfl (E_pt rfl rfl (E_pt rfl rfl (E_nil ?_)))))))
 exact E_jx _ h (wk_rn [some (0, 0)] rfl (Nat.le_of_ble_eq_true rfl) ⟨(rn_obS rfl rfl (.cons (rn_b (Graph.enc.blws 0)) (.cons (rn_b (cp_blw (Graph.enc.blw _ 0))) (.cons (rn_b rfl) (.nil (Nat.zero_le _))))) rfl), trivial⟩ ⟨(rn_ptr rfl rfl rfl rfl), (rn_b (cp_blw (Graph.enc.blw _ 0))), (rn_b ((encI .i64).blws 0)), (rn_b rfl), (rn_b rfl), (rn_b rfl), trivial⟩)
 }
 }
 {
 rw [ite_f hb] at h
 refine E_gm rfl (E_gm rfl (E_gm rfl (E_gm rfl (E_gz rfl (E_gz rfl (E_gz rfl (E_gz rfl (E_gz rfl (E_gm rfl (E_pf rfl rfl (E_nil ?_)))))))))))
 exact E_jx _ h (wk_rn [some (0, 0)] rfl (Nat.le_of_ble_eq_true rfl) ⟨(rn_obS rfl rfl (.cons (rn_b (Graph.enc.blws 0)) (.cons (rn_b (cp_blw (Graph.enc.blw _ 0))) (.cons (rn_b rfl) (.nil (Nat.zero_le _))))) rfl), trivial⟩ ⟨(rn_ptr rfl rfl rfl rfl), (rn_b (cp_blw (Graph.enc.blw _ 0))), (rn_b ((encI .i64).blws 0)), (rn_b rfl), (rn_b rfl), (rn_b rfl), trivial⟩)
 }
 }
 {
 refine E_cs (t := s_18.1) rfl (fun hb => ?_) (fun hb => ?_)
 {
 rw [ite_t hb] at h
 refine E_sq (E_reg (E_mv (v' := .bool false) rfl (E_nil (E_nx (E_ret ?_)))))
 cases h
 refine L_rrO rfl (fun h => ?_)
 refine E_thr ?_
 cases h
 exact ⟨trivial, _, _, rfl, gwk_rn [some (0, 0)] rfl (Nat.le_of_ble_eq_true rfl) ⟨(rn_obS rfl rfl (.cons (rn_b (Graph.enc.blws 0)) (.cons (rn_b (cp_blw (Graph.enc.blw _ 0))) (.cons (rn_b rfl) (.nil (Nat.zero_le _))))) rfl), trivial⟩, (rn_b rfl)⟩
 }
 {
 rw [ite_f hb] at h
 refine E_skip ?_
 cases h
 exact L_nn rfl (wk_rn [some (0, 0)] rfl (Nat.le_of_ble_eq_true rfl) ⟨(rn_obS rfl rfl (.cons (rn_b (Graph.enc.blws 0)) (.cons (rn_b (cp_blw (Graph.enc.blw _ 0))) (.cons (rn_b rfl) (.nil (Nat.zero_le _))))) rfl), trivial⟩ ⟨(rn_b rfl), (rn_b rfl), (rn_ptr rfl rfl rfl rfl), (rn_b (cp_blw (Graph.enc.blw _ 0))), (rn_b ((encI .i64).blws 0)), trivial⟩)
 }
 }
 }
 }
 }
 {
 refine X_nx hw ?_
 refine E_jp h (fun s_22 => [(2, (.bool s_22))]) (fun s_22 => [.arr 0 [(.sl false 8 (List.map Graph.av s_8.1)), (.cptr (Graph.av s_8.2.1).cells 0), (.bool s_8.2.2)]]) (fun k_21 h => ?_) (fun s_22 h => ?_)
 {
 refine E_reg (E_mv (v' := (.cptr (Graph.av c_g_00).cells 0)) rfl (E_op0 (v' := (.cptr (Graph.av c_g_00).cells 0)) rfl rfl (E_op0 (v' := (.cptr (Graph.av c_g_00).cells 6)) rfl rfl (E_op0 (v' := .sl false 12 (List.map Node.av c_g_00.Nodes)) rfl rfl (E_len rfl (E_op0 (v' := (.bool (decide ((List.length c_g_00.Nodes : Int) > 0)))) rfl rfl (E_mv (v' := (.bool (decide ((List.length c_g_00.Nodes : Int) > 0)))) rfl ?_)))))))
 refine E_gsT (b := (decide ((List.length c_g_00.Nodes : Int) > 0))) rfl rfl rfl (fun hb => ?_) (fun hb => ?_)
 {
 rw [ite_t hb] at h
 refine E_mv (v' := (.cptr (Graph.av c_g_00).cells 0)) rfl (E_gh rfl (E_op0 (v' := (.cptr (Graph.av c_g_00).cells 0)) rfl rfl (E_gh rfl (E_op0 (v' := (.cptr (Graph.av c_g_00).cells 6)) rfl rfl (E_gh rfl (E_op0 (v' := .sl false 12 (List.map Node.av c_g_00.Nodes)) rfl rfl (E_gh rfl (E_len rfl (E_gh rfl (E_op0 (v' := (.bool (decide ((List.length c_g_00.Nodes : Int) ≤ 4096)))) rfl rfl (E_pt rfl rfl (E_mv (v' := (.bool (decide ((List.length c_g_00.Nodes : Int) ≤ 4096)))) rfl ?_))))))))))))
 refine E_gsT (b := (decide ((List.length c_g_00.Nodes : Int) ≤ 4096))) rfl rfl rfl (fun hb => ?_) (fun hb => ?_)
 {
 rw [ite_t hb] at h
 refine E_mv (v' := (.cptr (Graph.av c_g_00).cells 0)) rfl (E_gh rfl (E_op0 (v' := (.cptr (Graph.av c_g_00).cells 0)) rfl rfl (E_gh rfl (E_op0 (v' := (.cptr (Graph.av c_g_00).cells 7)) rfl rfl (E_gh rfl (E_op0 (v' := .int .i64 c_g_00.Entry) rfl rfl (E_gh rfl (E_op0 (v' := (.bool (decide (c_g_00.Entry ≥ 0)))) rfl rfl (E_pt rfl rfl (E_mv (v' := (.bool (decide (c_g_00.Entry ≥ 0)))) rfl ?_))))))))))
 refine E_gsT (b := (decide (c_g_00.Entry ≥ 0))) rfl rfl rfl (fun hb => ?_) (fun hb => ?_)
 {
 rw [ite_t hb] at h
 refine E_mv (v' := (.cptr (Graph.av c_g_00).cells 0)) rfl (E_gh rfl (E_op0 (v' := (.cptr (Graph.av c_g_00).cells 0)) rfl rfl (E_gh rfl (E_op0 (v' := (.cptr (Graph.av c_g_00).cells 7)) rfl rfl (E_gh rfl (E_op0 (v' := .int .i64 c_g_00.Entry) rfl rfl (E_gh rfl (E_mv (v' := (.cptr (Graph.av c_g_00).cells 0)) rfl (E_gh rfl (E_op0 (v' := (.cptr (Graph.av c_g_00).cells 0)) rfl rfl (E_gh rfl (E_op0 (v' := (.cptr (Graph.av c_g_00).cells 6)) rfl rfl (E_gh rfl (E_op0 (v' := .sl false 12 (List.map Node.av c_g_00.Nodes)) rfl rfl (E_gh rfl ?_)))))))))))))))
 refine E_len rfl (E_gh rfl (E_op0 (v' := (.bool (decide (c_g_00.Entry < (List.length c_g_00.Nodes : Int))))) rfl rfl (E_pt rfl rfl (E_mv (v' := (.bool (decide (c_g_00.Entry < (List.length c_g_00.Nodes : Int))))) rfl (E_nil ?_)))))
 exact E_jx _ h (wk_rn [some (0, 0)] rfl (Nat.le_of_ble_eq_true rfl) ⟨(rn_obS rfl rfl (.cons (rn_b (Graph.enc.blws 0)) (.cons (rn_b (cp_blw (Graph.enc.blw _ 0))) (.cons (rn_b rfl) (.nil (Nat.zero_le _))))) rfl), trivial⟩ ⟨(rn_b rfl), trivial⟩)
 }
 {
 rw [ite_f hb] at h
 refine E_gm rfl (E_gm rfl (E_gm rfl (E_gm rfl (E_gm rfl (E_gm rfl (E_gm rfl (E_gm rfl (E_gm rfl (E_pf rfl rfl (E_mv (v' := .bool false) rfl (E_nil ?_)))))))))))
 exact E_jx _ h (wk_rn [some (0, 0)] rfl (Nat.le_of_ble_eq_true rfl) ⟨(rn_obS rfl rfl (.cons (rn_b (Graph.enc.blws 0)) (.cons (rn_b (cp_blw (Graph.enc.blw _ 0))) (.cons (rn_b rfl) (.nil (Nat.zero_le _))))) rfl), trivial⟩ ⟨(rn_b rfl), trivial⟩)
 }
 }
 {
 rw [ite_f hb] at h
 refine E_gm rfl (E_gm rfl (E_gm rfl (E_gm rfl (E_pf rfl rfl (E_mv (v' := .bool false) rfl (E_gm rfl (E_gm rfl (E_gm rfl (E_gm rfl (E_gm rfl (E_gm rfl (E_gm rfl (E_gm rfl (E_gm rfl (E_gm rfl ?_)))))))))))))))
 refine E_pf rfl rfl (E_mv (v' := .bool false) rfl (E_nil ?_))
 exact E_jx _ h (wk_rn [some (0, 0)] rfl (Nat.le_of_ble_eq_true rfl) ⟨(rn_obS rfl rfl (.cons (rn_b (Graph.enc.blws 0)) (.cons (rn_b (cp_blw (Graph.enc.blw _ 0))) (.cons (rn_b rfl) (.nil (Nat.zero_le _))))) rfl), trivial⟩ ⟨(rn_b rfl), trivial⟩)
 }
 }
 {
 rw [ite_f hb] at h
 refine E_gm rfl (E_gm rfl (E_gm rfl (E_gm rfl (E_gm rfl (E_pf rfl rfl (E_mv (v' := .bool false) rfl (E_gm rfl (E_gm rfl (E_gm rfl (E_gm rfl (E_gm rfl (E_pf rfl rfl (E_mv (v' := .bool false) rfl (E_gm rfl (E_gm rfl ?_)))))))))))))))
 refine E_gm rfl (E_gm rfl (E_gm rfl (E_gm rfl (E_gm rfl (E_gm rfl (E_gm rfl (E_gm rfl (E_pf rfl rfl (E_mv (v' := .bool false) rfl (E_nil ?_))))))))))
 exact E_jx _ h (wk_rn [some (0, 0)] rfl (Nat.le_of_ble_eq_true rfl) ⟨(rn_obS rfl rfl (.cons (rn_b (Graph.enc.blws 0)) (.cons (rn_b (cp_blw (Graph.enc.blw _ 0))) (.cons (rn_b rfl) (.nil (Nat.zero_le _))))) rfl), trivial⟩ ⟨(rn_b rfl), trivial⟩)
 }
 }
 {
 refine E_ret ?_
 cases h
 exact ⟨trivial, _, _, rfl, gwk_rn [some (0, 0)] rfl (Nat.le_of_ble_eq_true rfl) ⟨(rn_obS rfl rfl (.cons (rn_b (Graph.enc.blws 0)) (.cons (rn_b (cp_blw (Graph.enc.blw _ 0))) (.cons (rn_b rfl) (.nil (Nat.zero_le _))))) rfl), trivial⟩, (rn_b rfl)⟩
 }
 }
 }
 }
 }
 }
def fc55 : FC := (.seq (.reg [oO 1 (.box (.t 0)), oO 2 (.mv (.v .nils))] []) (.seq (.seq (.reg [oO 3 (.fad 0 (.t 1)), oO 4 (.load none (.t 3))] []) (.block 0 (.seq (.seq (.reg [oO 6 (.bin .none .eql (.t 4) (.v (.int .u8 12))), oO 5 (.mv (.t 6))] []) (.cond (.t 5) .skip (.seq (.reg [oO 7 (.bin .none .eql (.t 4) (.v (.int .u8 14))), oO 5 (.mv (.t 7))] []) (.cond (.t 5) .skip (.reg [oO 8 (.bin .none .eql (.t 4) (.v (.int .u8 18))), oO 5 (.mv (.t 8))] []))))) (.cond (.t 5) (.seq (.reg [oO 2 (.mv (.v .nils))] []) .ret) (.seq (.reg [oO 10 (.bin .none .eql (.t 4) (.v (.int .u8 9))), oO 9 (.mv (.t 10))] []) (.cond (.t 9) (.seq (.reg [oO 11 (.fad 11 (.t 1)), oO 12 (.load none (.t 11)), oO 13 (.fad 10 (.t 1)), oO 14 (.load none (.t 13)), oO 15 (.bin .none .neq (.t 12) (.t 14))] []) (.cond (.t 15) (.seq (.reg [oO 16 (.fad 10 (.t 1)), oO 17 (.load none (.t 16)), oO 18 (.fad 11 (.t 1)), oO 19 (.load none (.t 18)), oO 20 (.bsl none [(.int .i64 0)] 2 [(0, 1, (.t 17)), (1, 1, (.t 19))]), oO 2 (.mv (.t 20))] []) .ret) .skip)) .skip)))))) (.seq (.seq (.reg [oO 21 (.fad 0 (.t 1)), oO 22 (.load none (.t 21)), oO 23 (.bin .none .lss (.t 22) (.v (.int .u8 1))), oO 24 (.mv (.t 23)), ⟨(some 25), some (24, false), .op (.fad 0 (.t 1))⟩, ⟨(some 26), some (24, false), .op (.load none (.t 25))⟩, ⟨(some 27), some (24, false), .op (.bin .none .gtr (.t 26) (.v (.int .u8 18)))⟩, oO 28 (.pick (.t 24) (.v (.bool true)) (.t 27))] []) (.cond (.t 28) (.seq (.reg [oO 2 (.mv (.v .nils))] []) .ret) .skip)) (.seq (.reg [oO 29 (.fad 10 (.t 1)), oO 30 (.load none (.t 29)), oO 31 (.bsl none [(.int .i64 0)] 1 [(0, 1, (.t 30))]), oO 2 (.mv (.t 31))] []) .ret))))
theorem fn55 : Fn3 Tryd.prog 55 32 [(2, none)] fc55 := ⟨_, _, Tryd.func55, rfl, rfl, rfl, by kernel_rfl⟩
def ir_Next_s (n_00 : Node) : Option (List Int) :=
  (jp (fun (s_2 : Unit) => (jp (fun (s_6 : Bool) => (if s_6 then (some []) else (some [n_00.Next]))) (fun k_5 => (if (decide (n_00.Op < 1)) then (k_5 true) else (k_5 (decide (n_00.Op > 18))))))) (fun k_1 => (jp (fun (s_4 : Bool) => (if s_4 then (some []) else (if (n_00.Op == 9) then (if (n_00.Else != n_00.Next) then (some [n_00.Next, n_00.Else]) else (k_1 ())) else (k_1 ())))) (fun k_3 => (if (n_00.Op == 12) then (k_3 (n_00.Op == 12)) else (if (n_00.Op == 14) then (k_3 (n_00.Op == 14)) else (k_3 (n_00.Op == 18))))))))
theorem ir_Next_ev {n_00 : Node} {r : (List Int)} (h : ir_Next_s n_00 = some r) : PureEv Tryd.prog 55 [(Node.av n_00)] (.sl false 1 (List.map (avI .i64) r)) := by
 unfold ir_Next_s at h
 refine PureEv_end mixed fn55 (by simp) [] 6 ?_
 unfold fc55
 refine E_sq (E_reg (E_op0 (v' := (.cptr (Node.av n_00).cells 0)) rfl rfl (E_mv (v' := .nils) rfl (E_nil (E_nx (E_as (E_sq (E_reg (E_op0 (v' := (.cptr (Node.av n_00).cells 0)) rfl rfl (E_op0 (v' := .int .u8 n_00.Op) rfl rfl (E_nil (E_nx ?_))))))))))))
 refine E_jp h (fun s_2 => [(1, (.cptr (Node.av n_00).cells 0))]) (fun s_2 => []) (fun k_1 h => ?_) (fun s_2 h => ?_)
 {
 refine E_block (E_as (E_sq (E_reg (E_op0 (v' := .bool (n_00.Op == 12)) rfl rfl (E_mv (v' := .bool (n_00.Op == 12)) rfl (E_nil (E_nx ?_)))))))
 refine E_jp h (fun s_4 => [(1, (.cptr (Node.av n_00).cells 0)), (4, (.int .u8 n_00.Op)), (5, (.bool s_4))]) (fun s_4 => []) (fun k_3 h => ?_) (fun s_4 h => ?_)
 {
 refine E_cs (t := (n_00.Op == 12)) rfl (fun hb => ?_) (fun hb => ?_)
 {
 rw [ite_t hb] at h
 refine E_skip ?_
 exact E_jx _ h (wk_aw ⟨(.refl _), (.refl _), (.refl _), trivial⟩)
 }
 {
 rw [ite_f hb] at h
 refine E_sq (E_reg (E_op0 (v' := .bool (n_00.Op == 14)) rfl rfl (E_mv (v' := .bool (n_00.Op == 14)) rfl (E_nil (E_nx ?_)))))
 refine E_cs (t := (n_00.Op == 14)) rfl (fun hb => ?_) (fun hb => ?_)
 {
 rw [ite_t hb] at h
 refine E_skip ?_
 exact E_jx _ h (wk_aw ⟨(.refl _), (.refl _), (.refl _), trivial⟩)
 }
 {
 rw [ite_f hb] at h
 refine E_reg (E_op0 (v' := .bool (n_00.Op == 18)) rfl rfl (E_mv (v' := .bool (n_00.Op == 18)) rfl (E_nil ?_)))
 exact E_jx _ h (wk_aw ⟨(.refl _), (.refl _), (.refl _), trivial⟩)
 }
 }
 }
 {
 refine E_cs (t := s_4) rfl (fun hb => ?_) (fun hb => ?_)
 {
 rw [ite_t hb] at h
 refine E_sq (E_reg (E_mv (v' := .nils) rfl (E_nil (E_nx (E_ret (E_blr (E_thr ?_)))))))
 cases h
 exact ⟨trivial, _, rfl, (fz_b rfl .nil)⟩
 }
 {
 rw [ite_f hb] at h
 refine E_sq (E_reg (E_op0 (v' := .bool (n_00.Op == 9)) rfl rfl (E_mv (v' := .bool (n_00.Op == 9)) rfl (E_nil (E_nx ?_)))))
 refine E_cs (t := (n_00.Op == 9)) rfl (fun hb => ?_) (fun hb => ?_)
 {
 rw [ite_t hb] at h
 refine E_sq (E_reg (E_op0 (v' := (.cptr (Node.av n_00).cells 11)) rfl rfl (E_op0 (v' := .int .i64 n_00.Else) rfl rfl (E_op0 (v' := (.cptr (Node.av n_00).cells 10)) rfl rfl (E_op0 (v' := .int .i64 n_00.Next) rfl rfl (E_op0 (v' := .bool (n_00.Else != n_00.Next)) rfl rfl (E_nil (E_nx ?_))))))))
 refine E_cs (t := (n_00.Else != n_00.Next)) rfl (fun hb => ?_) (fun hb => ?_)
 {
 rw [ite_t hb] at h
 refine E_sq (E_reg (E_op0 (v' := (.cptr (Node.av n_00).cells 10)) rfl rfl (E_op0 (v' := .int .i64 n_00.Next) rfl rfl (E_op0 (v' := (.cptr (Node.av n_00).cells 11)) rfl rfl (E_op0 (v' := .int .i64 n_00.Else) rfl rfl (E_opw (v' := (.sl true 1 (List.map (avI .i64) [n_00.Next, n_00.Else]))) rfl (.refl _) rfl (E_mv (v' := (.sl true 1 (List.map (avI .i64) [n_00.Next, n_00.Else]))) rfl (E_nil (E_nx (E_ret (E_blr (E_thr ?_))))))))))))
 cases h
 exact ⟨trivial, _, rfl, (fz_b ((encI .i64).blws 0) .ex)⟩
 }
 {
 rw [ite_f hb] at h
 refine E_skip (E_bln ?_)
 exact E_jx _ h (wk_aw ⟨(.refl _), trivial⟩)
 }
 }
 {
 rw [ite_f hb] at h
 refine E_skip (E_bln ?_)
 exact E_jx _ h (wk_aw ⟨(.refl _), trivial⟩)
 }
 }
 }
 }
 {
 refine E_as ?_
 refine E_jp h (fun s_6 => [(1, (.cptr (Node.av n_00).cells 0)), (28, (.bool s_6))]) (fun s_6 => []) (fun k_5 h => ?_) (fun s_6 h => ?_)
 {
 refine E_reg (E_op0 (v' := (.cptr (Node.av n_00).cells 0)) rfl rfl (E_op0 (v' := .int .u8 n_00.Op) rfl rfl (E_op0 (v' := (.bool (decide (n_00.Op < 1)))) rfl rfl (E_mv (v' := (.bool (decide (n_00.Op < 1)))) rfl ?_))))
 refine E_gsT (b := (decide (n_00.Op < 1))) rfl rfl rfl (fun hb => ?_) (fun hb => ?_)
 {
 rw [ite_f hb] at h
 refine E_op0 (v' := (.cptr (Node.av n_00).cells 0)) rfl rfl (E_gh rfl (E_op0 (v' := .int .u8 n_00.Op) rfl rfl (E_gh rfl (E_op0 (v' := (.bool (decide (n_00.Op > 18)))) rfl rfl (E_pf rfl rfl (E_nil ?_))))))
 exact E_jx _ h (wk_aw ⟨(.refl _), (.refl _), trivial⟩)
 }
 {
 rw [ite_t hb] at h
 refine E_gm rfl (E_gm rfl (E_pt rfl rfl (E_nil ?_)))
 exact E_jx _ h (wk_aw ⟨(.refl _), (.refl _), trivial⟩)
 }
 }
 {
 refine E_sq ?_
 refine E_cs (t := s_6) rfl (fun hb => ?_) (fun hb => ?_)
 {
 rw [ite_t hb] at h
 refine E_sq (E_reg (E_mv (v' := .nils) rfl (E_nil (E_nx (E_ret (E_thr ?_))))))
 cases h
 exact ⟨trivial, _, rfl, (fz_b rfl .nil)⟩
 }
 {
 rw [ite_f hb] at h
 refine E_skip (E_nx (E_sq (E_reg (E_op0 (v' := (.cptr (Node.av n_00).cells 10)) rfl rfl (E_op0 (v' := .int .i64 n_00.Next) rfl rfl (E_opw (v' := (.sl true 1 (List.map (avI .i64) [n_00.Next]))) rfl (.refl _) rfl (E_mv (v' := (.sl true 1 (List.map (avI .i64) [n_00.Next]))) rfl (E_nil (E_nx (E_ret ?_))))))))))
 cases h
 exact ⟨trivial, _, rfl, (fz_b ((encI .i64).blws 0) .ex)⟩
 }
 }
 }
def fc86 : FC := (.seq (.reg [oO 3 (.box (.t 1)), oO 4 (.mv (.v (.bool false)))] []) (.seq (.seq (.reg [oO 8 (.fad 6 (.t 3)), oO 9 (.load none (.t 8)), oO 10 (.bin .none .lss (.t 9) (.v (.int .i64 0))), oO 11 (.mv (.t 10)), ⟨(some 12), some (11, false), .op (.fad 6 (.t 3))⟩, ⟨(some 13), some (11, false), .op (.load none (.t 12))⟩, ⟨(some 14), some (11, false), .op (.mv (.t 0))⟩, ⟨(some 15), some (11, false), .op (.nchk (.t 14))⟩, ⟨(some 16), some (11, false), .op (.fad 0 (.t 15))⟩, ⟨(some 17), some (11, false), .op (.load none (.t 16))⟩, ⟨(some 18), some (11, false), .op (.len .sl (.t 17))⟩, ⟨(some 19), some (11, false), .op (.bin .none .geq (.t 13) (.t 18))⟩, oO 20 (.pick (.t 11) (.v (.bool true)) (.t 19))] []) (.cond (.t 20) (.seq (.reg [oO 4 (.mv (.v (.bool false)))] []) .ret) .skip)) (.seq (.reg [oO 21 (.mv (.t 0)), oO 22 (.nchk (.t 21)), oO 23 (.fad 0 (.t 22)), oO 24 (.load none (.t 23)), oO 25 (.fad 6 (.t 3)), oO 26 (.load none (.t 25)), oO 27 (.iad none (some 8) (.t 24) (.t 26)), oO 5 (.mv (.t 27))] []) (.seq (.seq (.reg [oO 28 (.fad 9 (.t 3)), oO 29 (.load none (.t 28)), oO 30 (.len .sl (.t 29)), oO 31 (.mv (.t 5)), oO 32 (.nchk (.t 31)), oO 33 (.fad 0 (.t 32)), oO 34 (.load none (.t 33)), oO 35 (.len .sl (.t 34)), oO 36 (.bin .none .neq (.t 30) (.t 35))] []) (.cond (.t 36) (.seq (.reg [oO 4 (.mv (.v (.bool false)))] []) .ret) .skip)) (.seq (.seq (.reg [oO 37 (.fad 9 (.t 3)), oO 38 (.load none (.t 37)), oO 39 (.len .sl (.t 38)), oO 40 (.mv (.v (.int .i64 0)))] []) (.block 0 (.loop (.seq (.reg [oO 41 (.bin .none .lss (.t 40) (.t 39))] []) (.seq (.cond (.t 41) .skip (.exit 0)) (.seq (.block 1 (.seq (.reg [oO 42 (.mv (.t 40)), oO 43 (.iad none none (.t 38) (.t 40)), oO 44 (.load none (.t 43)), oO 6 (.mv (.t 42)), oO 7 (.mv (.t 44))] []) (.seq (.reg [oO 45 (.mv (.t 0)), oO 46 (.nchk (.t 45)), oO 47 (.fad 2 (.t 46)), oO 48 (.load none (.t 47)), oO 49 (.mv (.t 48)), ⟨(some 50), some (49, true), .op (.mv (.t 7))⟩, ⟨(some 51), some (49, true), .op (.mv (.t 6))⟩, ⟨(some 52), some (49, true), .op (.bin .none .neq (.t 50) (.t 51))⟩, oO 53 (.pick (.t 49) (.t 52) (.v (.bool false))), oO 54 (.mv (.t 53)), ⟨(some 55), some (54, false), .op (.mv (.t 0))⟩, ⟨(some 56), some (54, false), .op (.nchk (.t 55))⟩, ⟨(some 57), some (54, false), .op (.fad 2 (.t 56))⟩, ⟨(some 58), some (54, false), .op (.load none (.t 57))⟩, ⟨(some 59), some (54, false), .op (.un .not (.t 58))⟩, ⟨(some 60), some (54, false), .op (.mv (.t 59))⟩, ⟨(some 61), some (60, true), .op (.mv (.t 0))⟩, ⟨(some 62), some (60, true), .op (.mv (.t 5))⟩, ⟨(some 63), some (60, true), .op (.nchk (.t 62))⟩, ⟨(some 64), some (60, true), .op (.fad 1 (.t 63))⟩, ⟨(some 65), some (60, true), .op (.load none (.t 64))⟩, ⟨(some 66), some (60, true), .op (.mv (.t 5))⟩, ⟨(some 67), some (60, true), .op (.nchk (.t 66))⟩, ⟨(some 68), some (60, true), .op (.fad 0 (.t 67))⟩, ⟨(some 69), some (60, true), .op (.load none (.t 68))⟩, ⟨(some 70), some (60, true), .op (.mv (.t 6))⟩, ⟨(some 71), some (60, true), .op (.iad none none (.t 69) (.t 70))⟩, ⟨(some 72), some (60, true), .op (.load none (.t 71))⟩, ⟨(some 73), some (60, true), .op (.iad none none (.t 65) (.t 72))⟩, ⟨(some 74), some (60, true), .op (.load none (.t 73))⟩, ⟨(some 75), some (60, true), .op (.mv (.t 7))⟩, ⟨(some 76), some (60, true), .op (.bsl none [(.int .i64 0)] 1 [(0, 1, (.t 75))])⟩, ⟨(some 77), some (60, true), .call 85 [(.t 61), (.t 74), (.t 76)]⟩, ⟨(some 78), some (60, true), .op (.un .not (.t 77))⟩, ⟨(some 79), some (54, false), .op (.pick (.t 60) (.t 78) (.v (.bool false)))⟩, oO 80 (.pick (.t 54) (.v (.bool true)) (.t 79))] [(20, 31), (24, 31), (27, 31), (29, 31)]) (.cond (.t 80) (.seq (.reg [oO 4 (.mv (.v (.bool false)))] []) .ret) .skip)))) (.reg [oO 81 (.bin .none .add (.t 40) (.v (.int .i64 1))), oO 40 (.mv (.t 81))] []))))))) (.seq (.reg [oO 4 (.mv (.v (.bool true)))] []) .ret))))))
theorem fn86 : Fn3 Tryd.prog 86 82 [(4, none)] fc86 := ⟨_, _, Tryd.func86, rfl, rfl, rfl, by kernel_rfl⟩
def ir_checker_args_pNCN_s (c_all_00 : (List Graph)) (c_g_00 : Graph) (c_bound_00 : Bool) (n_01 : Node) : Option (Bool × (List Graph) × Graph × Bool) :=
  (jp (fun (s_2 : (Node × Bool)) => (if s_2.2 then (some (false, c_all_00, c_g_00, c_bound_00)) else ((getI c_all_00 s_2.1.F).bind fun y_3 => (if ((List.length s_2.1.Args : Int) != (List.length y_3.Params : Int)) then (some (false, c_all_00, c_g_00, c_bound_00)) else ((rng (fun (i_5 : Nat) (p_6 : Int) (s_4 : ((List Graph) × Graph × Bool)) => ((jp (fun (s_9 : (Bool × (List Graph) × Graph × Bool)) => (if s_9.1 then (some (.ret (some (false, s_9.2.1, s_9.2.2.1, s_9.2.2.2)))) else (some (.nxt (s_9.2.1, s_9.2.2.1, s_9.2.2.2))))) (fun k_8 => (if s_4.2.2 then (if (p_6 != (i_5 : Int)) then (k_8 (true, s_4.1, s_4.2.1, s_4.2.2)) else (if (!s_4.2.2) then ((getI y_3.Params (i_5 : Int)).bind fun y_10 => ((getI y_3.Kinds y_10).bind fun y_11 => ((ir_checker_is_pNCN_s s_4.1 s_4.2.1 s_4.2.2 y_11 ([p_6])).bind fun (vis_12 : (Bool × (List Graph) × Graph × Bool)) => (k_8 ((!vis_12.1), vis_12.2.1, vis_12.2.2.1, vis_12.2.2.2))))) else (k_8 (false, s_4.1, s_4.2.1, s_4.2.2)))) else (if (!s_4.2.2) then ((getI y_3.Params (i_5 : Int)).bind fun y_13 => ((getI y_3.Kinds y_13).bind fun y_14 => ((ir_checker_is_pNCN_s s_4.1 s_4.2.1 s_4.2.2 y_14 ([p_6])).bind fun (vis_15 : (Bool × (List Graph) × Graph × Bool)) => (k_8 ((!vis_15.1), vis_15.2.1, vis_15.2.2.1, vis_15.2.2.2))))) else (k_8 (false, s_4.1, s_4.2.1, s_4.2.2)))))) : Option (Stp ((List Graph) × Graph × Bool) (Option (Bool × (List Graph) × Graph × Bool))))) s_2.1.Args (c_all_00, c_g_00, c_bound_00)).bind (oc (fun (s_4 : ((List Graph) × Graph × Bool)) => (some (true, s_4.1, s_4.2.1, s_4.2.2))))))))) (fun k_1 => (if (decide (n_01.F < 0)) then (k_1 (n_01, true)) else (k_1 (n_01, (decide (n_01.F ≥ (List.length c_all_00 : Int))))))))
theorem ir_checker_args_pNCN_ev {c_all_00 : (List Graph)} {c_g_00 : Graph} {c_bound_00 : Bool} {n_01 : Node} {r : (Bool × (List Graph) × Graph × Bool)} (h : ir_checker_args_pNCN_s c_all_00 c_g_00 c_bound_00 n_01 = some r) : Ev Tryd.prog 86 [(.ptr 0 0 0), (Node.av n_01)] (hp [.arr 0 [(.sl false 8 (List.map Graph.av c_all_00)), (.cptr (Graph.av c_g_00).cells 0), (.bool c_bound_00)]]) (.bool r.1) (hp [.arr 0 [(.sl false 8 (List.map Graph.av r.2.1)), (.cptr (Graph.av r.2.2.1).cells 0), (.bool r.2.2.2)]]) := by
 unfold ir_checker_args_pNCN_s at h
 refine Ev_end mixed fn86 (by simp) [] ?_
 unfold fc86
 refine E_sq (E_reg (E_op0 (v' := (.cptr (Node.av n_01).cells 0)) rfl rfl (E_mv (v' := .bool false) rfl (E_nil (E_nx (E_as ?_))))))
 refine E_jp h (fun s_2 => [(0, (.ptr 0 0 0)), (3, (.cptr (Node.av s_2.1).cells 0)), (20, (.bool s_2.2))]) (fun s_2 => [.arr 0 [(.sl false 8 (List.map Graph.av c_all_00)), (.cptr (Graph.av c_g_00).cells 0), (.bool c_bound_00)]]) (fun k_1 h => ?_) (fun s_2 h => ?_)
 {
 refine E_reg (E_op0 (v' := (.cptr (Node.av n_01).cells 6)) rfl rfl (E_op0 (v' := .int .i64 n_01.F) rfl rfl (E_op0 (v' := (.bool (decide (n_01.F < 0)))) rfl rfl (E_mv (v' := (.bool (decide (n_01.F < 0)))) rfl ?_))))
 refine E_gsT (b := (decide (n_01.F < 0))) rfl rfl rfl (fun hb => ?_) (fun hb => ?_)
 {
 rw [ite_f hb] at h
 refine E_op0 (v' := (.cptr (Node.av n_01).cells 6)) rfl rfl (E_gh rfl (E_op0 (v' := .int .i64 n_01.F) rfl rfl (E_gh rfl (E_mv (v' := .ptr 0 0 0) rfl (E_gh rfl (E_op0 (v' := .ptr 0 0 0) rfl rfl (E_gh rfl (E_op0 (v' := .ptr 0 0 0) rfl rfl (E_gh rfl (E_op (v' := .sl false 8 (List.map Graph.av c_all_00)) (S' := [.arr 0 [(.sl false 8 (List.map Graph.av c_all_00)), (.cptr (Graph.av c_g_00).cells 0), (.bool c_bound_00)]]) rfl rfl rfl (E_gh rfl (E_len rfl (E_gh rfl (E_op0 (v' := (.bool (decide (n_01.F ≥ (List.length c_all_00 : Int))))) rfl rfl (E_pf rfl rfl ?_)))))))))))))))
 refine E_nil ?_
 exact E_jx _ h (wk_rn [some (0, 0)] rfl (Nat.le_of_ble_eq_true rfl) ⟨(rn_obS rfl rfl (.cons (rn_b (Graph.enc.blws 0)) (.cons (rn_b (cp_blw (Graph.enc.blw _ 0))) (.cons (rn_b rfl) (.nil (Nat.zero_le _))))) rfl), trivial⟩ ⟨(rn_ptr rfl rfl rfl rfl), (rn_b (cp_blw (Node.enc.blw _ 0))), (rn_b rfl), trivial⟩)
 }
 {
 rw [ite_t hb] at h
 refine E_gm rfl (E_gm rfl (E_gm rfl (E_gm rfl (E_gm rfl (E_gm rfl (E_gm rfl (E_pt rfl rfl (E_nil ?_))))))))
 exact E_jx _ h (wk_rn [some (0, 0)] rfl (Nat.le_of_ble_eq_true rfl) ⟨(rn_obS rfl rfl (.cons (rn_b (Graph.enc.blws 0)) (.cons (rn_b (cp_blw (Graph.enc.blw _ 0))) (.cons (rn_b rfl) (.nil (Nat.zero_le _))))) rfl), trivial⟩ ⟨(rn_ptr rfl rfl rfl rfl), (rn_b (cp_blw (Node.enc.blw _ 0))), (rn_b rfl), trivial⟩)
 }
 }
 {
 refine E_sq ?_
 refine E_cs (t := s_2.2) rfl (fun hb => ?_) (fun hb => ?_)
 {
 rw [ite_t hb] at h
 refine E_sq (E_reg (E_mv (v' := .bool false) rfl (E_nil (E_nx (E_ret (E_thr ?_))))))
 cases h
 exact ⟨trivial, _, _, rfl, gwk_rn [some (0, 0)] rfl (Nat.le_of_ble_eq_true rfl) ⟨(rn_obS rfl rfl (.cons (rn_b (Graph.enc.blws 0)) (.cons (rn_b (cp_blw (Graph.enc.blw _ 0))) (.cons (rn_b rfl) (.nil (Nat.zero_le _))))) rfl), trivial⟩, (rn_b rfl)⟩
 }
 {
 rw [ite_f hb] at h
 refine E_skip (E_nx (E_sq (E_reg (E_mv (v' := .ptr 0 0 0) rfl (E_op0 (v' := .ptr 0 0 0) rfl rfl (E_op0 (v' := .ptr 0 0 0) rfl rfl (E_op (v' := .sl false 8 (List.map Graph.av c_all_00)) (S' := [.arr 0 [(.sl false 8 (List.map Graph.av c_all_00)), (.cptr (Graph.av c_g_00).cells 0), (.bool c_bound_00)]]) rfl rfl rfl (E_op0 (v' := (.cptr (Node.av s_2.1).cells 6)) rfl rfl (E_op0 (v' := .int .i64 s_2.1.F) rfl rfl ?_)))))))))
 obtain ⟨y_3, hy_3, h⟩ := bd_some h
 refine E_iadF rfl rfl hy_3 (E_mv (v' := (.cptr (Graph.av y_3).cells 0)) rfl (E_nil (E_nx (E_as (E_sq (E_reg (E_op0 (v' := (.cptr (Node.av s_2.1).cells 9)) rfl rfl (E_op0 (v' := (.sl false 1 (List.map (avI .i64) s_2.1.Args))) rfl rfl (E_len rfl (E_mv (v' := (.cptr (Graph.av y_3).cells 0)) rfl (E_op0 (v' := (.cptr (Graph.av y_3).cells 0)) rfl rfl (E_op0 (v' := (.cptr (Graph.av y_3).cells 0)) rfl rfl (E_op0 (v' := (.sl false 1 (List.map (avI .i64) y_3.Params))) rfl rfl (E_len rfl (E_op0 (v' := (.bool ((List.length s_2.1.Args : Int) != (List.length y_3.Params : Int)))) rfl rfl ?_)))))))))))))))
 refine E_nil (E_nx (E_sq ?_))
 refine E_cs (t := ((List.length s_2.1.Args : Int) != (List.length y_3.Params : Int))) rfl (fun hb => ?_) (fun hb => ?_)
 {
 rw [ite_t hb] at h
 refine E_sq (E_reg (E_mv (v' := .bool false) rfl (E_nil (E_nx (E_ret (E_thr ?_))))))
 cases h
 exact ⟨trivial, _, _, rfl, gwk_rn [some (0, 0)] rfl (Nat.le_of_ble_eq_true rfl) ⟨(rn_obS rfl rfl (.cons (rn_b (Graph.enc.blws 0)) (.cons (rn_b (cp_blw (Graph.enc.blw _ 0))) (.cons (rn_b rfl) (.nil (Nat.zero_le _))))) rfl), trivial⟩, (rn_b rfl)⟩
 }
 {
 rw [ite_f hb] at h
 refine E_skip (E_nx (E_as (E_sq (E_reg (E_op0 (v' := (.cptr (Node.av s_2.1).cells 9)) rfl rfl (E_op0 (v' := (.sl false 1 (List.map (avI .i64) s_2.1.Args))) rfl rfl (E_len rfl (E_mv (v' := .int .i64 0) rfl (E_nil (E_nx (E_sq ?_)))))))))))
 refine E_rngO (fun s_4 => [(0, (.ptr 0 0 0)), (5, (.cptr (Graph.av y_3).cells 0)), (38, (.sl false 1 (List.map (avI .i64) s_2.1.Args)))]) (fun s_4 => [.arr 0 [(.sl false 8 (List.map Graph.av s_4.1)), (.cptr (Graph.av s_4.2.1).cells 0), (.bool s_4.2.2)]]) h (by decide) (by decide) (fun _ => ⟨rfl, rfl, rfl, rfl⟩) (wk_rn [some (0, 0)] rfl (Nat.le_of_ble_eq_true rfl) ⟨(rn_obS rfl rfl (.cons (rn_b (Graph.enc.blws 0)) (.cons (rn_b (cp_blw (Graph.enc.blw _ 0))) (.cons (rn_b rfl) (.nil (Nat.zero_le _))))) rfl), trivial⟩ ⟨(rn_b rfl), (rn_b rfl), (rn_ptr rfl rfl rfl rfl), (rn_b (cp_blw (Graph.enc.blw _ 0))), (rn_b ((encI .i64).blws 0)), trivial⟩) (fun i_5 p_6 s_4 c hx_7 hlt h => ?_) (fun s_4 fr' S' h hw => ?_)
 {
 refine E_sq (E_reg (E_mv (v' := .int .i64 (i_5 : Int)) rfl (E_iadF rfl rfl (getI_of hx_7) (E_op0 (v' := .int .i64 p_6) rfl rfl (E_mv (v' := .int .i64 (i_5 : Int)) rfl (E_mv (v' := .int .i64 p_6) rfl (E_nil (E_nx ?_))))))))
 refine E_jp h (fun s_9 => [(0, (.ptr 0 0 0)), (5, (.cptr (Graph.av y_3).cells 0)), (38, (.sl false 1 (List.map (avI .i64) s_2.1.Args))), (39, (.int .i64 (List.length s_2.1.Args : Int))), (40, (.int .i64 (i_5 : Int))), (80, (.bool s_9.1))]) (fun s_9 => [.arr 0 [(.sl false 8 (List.map Graph.av s_9.2.1)), (.cptr (Graph.av s_9.2.2.1).cells 0), (.bool s_9.2.2.2)]]) (fun k_8 h => ?_) (fun s_9 h => ?_)
 {
 refine E_regp (E_mv (v' := .ptr 0 0 0) rfl (E_op0 (v' := .ptr 0 0 0) rfl rfl (E_op0 (v' := .ptr 0 0 2) rfl rfl (E_op (v' := .bool s_4.2.2) (S' := [.arr 0 [(.sl false 8 (List.map Graph.av s_4.1)), (.cptr (Graph.av s_4.2.1).cells 0), (.bool s_4.2.2)]]) rfl rfl rfl (E_mv (v' := .bool s_4.2.2) rfl ?_)))))
 refine E_gsT (b := s_4.2.2) rfl rfl rfl (fun hb => ?_) (fun hb => ?_)
 {
 rw [ite_t hb] at h
 refine E_mv (v' := .int .i64 p_6) rfl (E_gh rfl (E_mv (v' := .int .i64 (i_5 : Int)) rfl (E_gh rfl (E_op0 (v' := (.bool (p_6 != (i_5 : Int)))) rfl rfl (E_pt rfl rfl (E_mv (v' := (.bool (p_6 != (i_5 : Int)))) rfl ?_))))))
 refine E_gsT (b := (p_6 != (i_5 : Int))) rfl rfl rfl (fun hb => ?_) (fun hb => ?_)
 {
 rw [ite_f hb] at h
 refine E_mv (v' := .ptr 0 0 0) rfl (E_gh rfl (E_op0 (v' := .ptr 0 0 0) rfl rfl (E_gh rfl (E_op0 (v' := .ptr 0 0 2) rfl rfl (E_gh rfl (E_op (v' := .bool s_4.2.2) (S' := [.arr 0 [(.sl false 8 (List.map Graph.av s_4.1)), (.cptr (Graph.av s_4.2.1).cells 0), (.bool s_4.2.2)]]) rfl rfl rfl (E_gh rfl (E_op0 (v' := .bool (!s_4.2.2)) rfl rfl (E_gh rfl (E_mv (v' := .bool (!s_4.2.2)) rfl ?_))))))))))
 refine E_gsT (b := (!s_4.2.2)) rfl rfl rfl (fun hb => ?_) (fun hb => ?_)
 {
 rw [ite_t hb] at h
 refine E_mv (v' := .ptr 0 0 0) rfl (E_gh rfl (E_mv (v' := (.cptr (Graph.av y_3).cells 0)) rfl (E_gh rfl (E_op0 (v' := (.cptr (Graph.av y_3).cells 0)) rfl rfl (E_gh rfl (E_op0 (v' := (.cptr (Graph.av y_3).cells 1)) rfl rfl (E_gh rfl (E_op0 (v' := (.sl false 1 (List.map (avI .u8) y_3.Kinds))) rfl rfl (E_gh rfl (E_mv (v' := (.cptr (Graph.av y_3).cells 0)) rfl (E_gh rfl (E_op0 (v' := (.cptr (Graph.av y_3).cells 0)) rfl rfl (E_gh rfl (E_op0 (v' := (.cptr (Graph.av y_3).cells 0)) rfl rfl (E_gh rfl ?_)))))))))))))))
 refine E_op0 (v' := (.sl false 1 (List.map (avI .i64) y_3.Params))) rfl rfl (E_gh rfl (E_mv (v' := .int .i64 (i_5 : Int)) rfl (E_gh rfl ?_)))
 obtain ⟨y_10, hy_10, h⟩ := bd_some h
 refine E_iadF rfl rfl hy_10 (E_gh rfl (E_op0 (v' := .int .i64 y_10) rfl rfl (E_gh rfl ?_)))
 obtain ⟨y_11, hy_11, h⟩ := bd_some h
 refine E_iadF rfl rfl hy_11 (E_gh rfl (E_op0 (v' := .int .u8 y_11) rfl rfl (E_gh rfl (E_mv (v' := .int .i64 p_6) rfl (E_gh rfl (E_opw (v' := (.sl true 1 (List.map (avI .i64) [p_6]))) rfl (.refl _) rfl (E_gh rfl ?_)))))))
 obtain ⟨vis_12, hvis_12, h⟩ := bd_some h
 refine E_callF (S' := [.arr 0 [(.sl false 8 (List.map Graph.av vis_12.2.1)), (.cptr (Graph.av vis_12.2.2.1).cells 0), (.bool vis_12.2.2.2)]]) (r' := (.bool vis_12.1)) (ir_checker_is_pNCN_ev hvis_12) [0] rfl rfl (by decide) rfl rfl ⟨(fr_in rfl rfl (.cons (.base (Graph.enc.blws 0) (.refl _)) (.cons (rn_b (cp_blw (Graph.enc.blw _ 0))) (.cons (.base rfl (.refl _)) (.nil (Nat.zero_le _)))))), trivial⟩ ⟨(fr_outS rfl rfl (.cons (rn_b (Graph.enc.blws 0)) (.cons (rn_b (cp_blw (Graph.enc.blw _ 0))) (.cons (rn_b rfl) (.nil (Nat.zero_le _))))) rfl rfl), trivial⟩ ⟨.inl rfl, trivial⟩ rfl (.cons (fi_ptr rfl rfl rfl rfl) (.cons (.base rfl (.refl _)) (.cons (.base ((encI .i64).blws 0) .ex) (.nil (Nat.zero_le _))))) (rn_b rfl) ?_
 refine E_gh rfl (E_op0 (v' := .bool (!vis_12.1)) rfl rfl (E_gh rfl (E_pt rfl rfl (E_pf rfl rfl (E_nil ?_)))))
 refine And.intro (by simp [okLog, nthL, okPair, hp, fpOf]) ?_
 exact E_jx _ h (wk_rn [some (0, 0)] rfl (Nat.le_of_ble_eq_true rfl) ⟨(rn_obS rfl rfl (.cons (rn_b (Graph.enc.blws 0)) (.cons (rn_b (cp_blw (Graph.enc.blw _ 0))) (.cons (rn_b rfl) (.nil (Nat.zero_le _))))) rfl), trivial⟩ ⟨(rn_ptr rfl rfl rfl rfl), (rn_b (cp_blw (Graph.enc.blw _ 0))), (rn_b ((encI .i64).blws 0)), (rn_b rfl), (rn_b rfl), (rn_b rfl), trivial⟩)
 }
 {
 rw [ite_f hb] at h
 refine E_gm rfl (E_gm rfl (E_gm rfl (E_gm rfl (E_gm rfl (E_gm rfl (E_gm rfl (E_gm rfl (E_gm rfl (E_gm rfl (E_gm rfl (E_gm rfl (E_gm rfl (E_gm rfl (E_gm rfl (E_gm rfl ?_)))))))))))))))
 refine E_gm rfl (E_gh rfl (E_pf rfl rfl (E_pf rfl rfl (E_nil ?_))))
 refine And.intro (by simp [okLog, nthL, okPair, hp, fpOf]) ?_
 exact E_jx _ h (wk_rn [some (0, 0)] rfl (Nat.le_of_ble_eq_true rfl) ⟨(rn_obS rfl rfl (.cons (rn_b (Graph.enc.blws 0)) (.cons (rn_b (cp_blw (Graph.enc.blw _ 0))) (.cons (rn_b rfl) (.nil (Nat.zero_le _))))) rfl), trivial⟩ ⟨(rn_ptr rfl rfl rfl rfl), (rn_b (cp_blw (Graph.enc.blw _ 0))), (rn_b ((encI .i64).blws 0)), (rn_b rfl), (rn_b rfl), (rn_b rfl), trivial⟩)
 }
 }
 {
 rw [ite_t hb] at h
 refine E_gm rfl (E_gm rfl (E_gm rfl (E_gm rfl (E_gm rfl (E_gz rfl (E_gz rfl (E_gz rfl (E_gz rfl (E_gz rfl (E_gz rfl (E_gz rfl (E_gz rfl (E_gz rfl (E_gz rfl (E_gz rfl ?_)))))))))))))))
 refine E_gz rfl (E_gz rfl (E_gz rfl (E_gz rfl (E_gz rfl (E_gz rfl (E_gz rfl (E_gm rfl (E_pt rfl rfl (E_nil ?_)))))))))
 refine And.intro (by simp [okLog, nthL, okPair, hp, fpOf]) ?_
 exact E_jx _ h (wk_rn [some (0, 0)] rfl (Nat.le_of_ble_eq_true rfl) ⟨(rn_obS rfl rfl (.cons (rn_b (Graph.enc.blws 0)) (.cons (rn_b (cp_blw (Graph.enc.blw _ 0))) (.cons (rn_b rfl) (.nil (Nat.zero_le _))))) rfl), trivial⟩ ⟨(rn_ptr rfl rfl rfl rfl), (rn_b (cp_blw (Graph.enc.blw _ 0))), (rn_b ((encI .i64).blws 0)), (rn_b rfl), (rn_b rfl), (rn_b rfl), trivial⟩)
 }
 }
 {
 rw [ite_f hb] at h
 refine E_gm rfl (E_gm rfl (E_pf rfl rfl (E_mv (v' := .bool false) rfl (E_gh rfl (E_mv (v' := .ptr 0 0 0) rfl (E_gh rfl (E_op0 (v' := .ptr 0 0 0) rfl rfl (E_gh rfl (E_op0 (v' := .ptr 0 0 2) rfl rfl (E_gh rfl (E_op (v' := .bool s_4.2.2) (S' := [.arr 0 [(.sl false 8 (List.map Graph.av s_4.1)), (.cptr (Graph.av s_4.2.1).cells 0), (.bool s_4.2.2)]]) rfl rfl rfl (E_gh rfl (E_op0 (v' := .bool (!s_4.2.2)) rfl rfl (E_gh rfl (E_mv (v' := .bool (!s_4.2.2)) rfl ?_)))))))))))))))
 refine E_gsT (b := (!s_4.2.2)) rfl rfl rfl (fun hb => ?_) (fun hb => ?_)
 {
 rw [ite_t hb] at h
 refine E_mv (v' := .ptr 0 0 0) rfl (E_gh rfl (E_mv (v' := (.cptr (Graph.av y_3).cells 0)) rfl (E_gh rfl (E_op0 (v' := (.cptr (Graph.av y_3).cells 0)) rfl rfl (E_gh rfl (E_op0 (v' := (.cptr (Graph.av y_3).cells 1)) rfl rfl (E_gh rfl (E_op0 (v' := (.sl false 1 (List.map (avI .u8) y_3.Kinds))) rfl rfl (E_gh rfl (E_mv (v' := (.cptr (Graph.av y_3).cells 0)) rfl (E_gh rfl (E_op0 (v' := (.cptr (Graph.av y_3).cells 0)) rfl rfl (E_gh rfl (E_op0 (v' := (.cptr (Graph.av y_3).cells 0)) rfl rfl (E_gh rfl ?_)))))))))))))))
 refine E_op0 (v' := (.sl false 1 (List.map (avI .i64) y_3.Params))) rfl rfl (E_gh rfl (E_mv (v' := .int .i64 (i_5 : Int)) rfl (E_gh rfl ?_)))
 obtain ⟨y_13, hy_13, h⟩ := bd_some h
 refine E_iadF rfl rfl hy_13 (E_gh rfl (E_op0 (v' := .int .i64 y_13) rfl rfl (E_gh rfl ?_)))
 obtain ⟨y_14, hy_14, h⟩ := bd_some h
 refine E_iadF rfl rfl hy_14 (E_gh rfl (E_op0 (v' := .int .u8 y_14) rfl rfl (E_gh rfl (E_mv (v' := .int .i64 p_6) rfl (E_gh rfl (E_opw (v' := (.sl true 1 (List.map (avI .i64) [p_6]))) rfl (.refl _) rfl (E_gh rfl ?_)))))))
 obtain ⟨vis_15, hvis_15, h⟩ := bd_some h
 refine E_callF (S' := [.arr 0 [(.sl false 8 (List.map Graph.av vis_15.2.1)), (.cptr (Graph.av vis_15.2.2.1).cells 0), (.bool vis_15.2.2.2)]]) (r' := (.bool vis_15.1)) (ir_checker_is_pNCN_ev hvis_15) [0] rfl rfl (by decide) rfl rfl ⟨(fr_in rfl rfl (.cons (.base (Graph.enc.blws 0) (.refl _)) (.cons (rn_b (cp_blw (Graph.enc.blw _ 0))) (.cons (.base rfl (.refl _)) (.nil (Nat.zero_le _)))))), trivial⟩ ⟨(fr_outS rfl rfl (.cons (rn_b (Graph.enc.blws 0)) (.cons (rn_b (cp_blw (Graph.enc.blw _ 0))) (.cons (rn_b rfl) (.nil (Nat.zero_le _))))) rfl rfl), trivial⟩ ⟨.inl rfl, trivial⟩ rfl (.cons (fi_ptr rfl rfl rfl rfl) (.cons (.base rfl (.refl _)) (.cons (.base ((encI .i64).blws 0) .ex) (.nil (Nat.zero_le _))))) (rn_b rfl) ?_
 refine E_gh rfl (E_op0 (v' := .bool (!vis_15.1)) rfl rfl (E_gh rfl (E_pt rfl rfl (E_pf rfl rfl (E_nil ?_)))))
 refine And.intro (by simp [okLog, nthL, okPair, hp, fpOf]) ?_
 exact E_jx _ h (wk_rn [some (0, 0)] rfl (Nat.le_of_ble_eq_true rfl) ⟨(rn_obS rfl rfl (.cons (rn_b (Graph.enc.blws 0)) (.cons (rn_b (cp_blw (Graph.enc.blw _ 0))) (.cons (rn_b rfl) (.nil (Nat.zero_le _))))) rfl), trivial⟩ ⟨(rn_ptr rfl rfl rfl rfl), (rn_b (cp_blw (Graph.enc.blw _ 0))), (rn_b ((encI .i64).blws 0)), (rn_b rfl), (rn_b rfl), (rn_b rfl), trivial⟩)
 }
 {
 rw [ite_f hb] at h
 refine E_gm rfl (E_gm rfl (E_gm rfl (E_gm rfl (E_gm rfl (E_gm rfl (E_gm rfl (E_gm rfl (E_gm rfl (E_gm rfl (E_gm rfl (E_gm rfl (E_gm rfl (E_gm rfl (E_gm rfl (E_gm rfl ?_)))))))))))))))
 refine E_gm rfl (E_gh rfl (E_pf rfl rfl (E_pf rfl rfl (E_nil ?_))))
 refine And.intro (by simp [okLog, nthL, okPair, hp, fpOf]) ?_
 exact E_jx _ h (wk_rn [some (0, 0)] rfl (Nat.le_of_ble_eq_true rfl) ⟨(rn_obS rfl rfl (.cons (rn_b (Graph.enc.blws 0)) (.cons (rn_b (cp_blw (Graph.enc.blw _ 0))) (.cons (rn_b rfl) (.nil (Nat.zero_le _))))) rfl), trivial⟩ ⟨(rn_ptr rfl rfl rfl rfl), (rn_b (cp_blw (Graph.enc.blw _ 0))), (rn_b ((encI .i64).blws 0)), (rn_b rfl), (rn_b rfl), (rn_b rfl), trivial⟩)
 }
 }
 }
 {
 refine E_cs (t := s_9.1) rfl (fun hb => ?_) (fun hb => ?_)
 {
 rw [ite_t hb] at h
 refine E_sq (E_reg (E_mv (v' := .bool false) rfl (E_nil (E_nx (E_ret ?_)))))
 cases h
 refine L_rrO rfl (fun h => ?_)
 refine E_thr ?_
 cases h
 exact ⟨trivial, _, _, rfl, gwk_rn [some (0, 0)] rfl (Nat.le_of_ble_eq_true rfl) ⟨(rn_obS rfl rfl (.cons (rn_b (Graph.enc.blws 0)) (.cons (rn_b (cp_blw (Graph.enc.blw _ 0))) (.cons (rn_b rfl) (.nil (Nat.zero_le _))))) rfl), trivial⟩, (rn_b rfl)⟩
 }
 {
 rw [ite_f hb] at h
 refine E_skip ?_
 cases h
 exact L_nn rfl (wk_rn [some (0, 0)] rfl (Nat.le_of_ble_eq_true rfl) ⟨(rn_obS rfl rfl (.cons (rn_b (Graph.enc.blws 0)) (.cons (rn_b (cp_blw (Graph.enc.blw _ 0))) (.cons (rn_b rfl) (.nil (Nat.zero_le _))))) rfl), trivial⟩ ⟨(rn_b rfl), (rn_b rfl), (rn_ptr rfl rfl rfl rfl), (rn_b (cp_blw (Graph.enc.blw _ 0))), (rn_b ((encI .i64).blws 0)), trivial⟩)
 }
 }
 }
 {
 refine X_nx hw (E_sq (E_reg (E_mv (v' := .bool true) rfl (E_nil (E_nx (E_ret ?_))))))
 cases h
 exact ⟨trivial, _, _, rfl, gwk_rn [some (0, 0)] rfl (Nat.le_of_ble_eq_true rfl) ⟨(rn_obS rfl rfl (.cons (rn_b (Graph.enc.blws 0)) (.cons (rn_b (cp_blw (Graph.enc.blw _ 0))) (.cons (rn_b rfl) (.nil (Nat.zero_le _))))) rfl), trivial⟩, (rn_b rfl)⟩
 }
 }
 }
 }
def fc77 : FC := (.seq (.reg [oO 3 (.box (.t 1)), oO 4 (.mv (.v (.bool false)))] []) (.seq (.seq (.reg [oO 7 (.load (some 12) (.t 3)), ⟨(some 8), none, .call 55 [(.t 7)]⟩, oO 9 (.len .sl (.t 8)), oO 10 (.mv (.v (.int .i64 0)))] []) (.block 0 (.loop (.seq (.reg [oO 11 (.bin .none .lss (.t 10) (.t 9))] []) (.seq (.cond (.t 11) .skip (.exit 0)) (.seq (.block 1 (.seq (.reg [oO 12 (.iad none none (.t 8) (.t 10)), oO 13 (.load none (.t 12)), oO 6 (.mv (.t 13))] []) (.seq (.reg [oO 14 (.mv (.t 6)), oO 15 (.bin .none .lss (.t 14) (.v (.int .i64 0))), oO 16 (.mv (.t 15)), ⟨(some 17), some (16, false), .op (.mv (.t 6))⟩, ⟨(some 18), some (16, false), .op (.mv (.t 0))⟩, ⟨(some 19), some (16, false), .op (.nchk (.t 18))⟩, ⟨(some 20), some (16, false), .op (.fad 1 (.t 19))⟩, ⟨(some 21), some (16, false), .op (.load none (.t 20))⟩, ⟨(some 22), some (16, false), .op (.nchk (.t 21))⟩, ⟨(some 23), some (16, false), .op (.fad 6 (.t 22))⟩, ⟨(some 24), some (16, false), .op (.load none (.t 23))⟩, ⟨(some 25), some (16, false), .op (.len .sl (.t 24))⟩, ⟨(some 26), some (16, false), .op (.bin .none .geq (.t 17) (.t 25))⟩, oO 27 (.pick (.t 16) (.v (.bool true)) (.t 26))] []) (.cond (.t 27) (.seq (.reg [oO 4 (.mv (.v (.bool false)))] []) .ret) .skip)))) (.reg [oO 28 (.bin .none .add (.t 10) (.v (.int .i64 1))), oO 10 (.mv (.t 28))] []))))))) (.seq (.seq (.reg [oO 29 (.fad 0 (.t 3)), oO 30 (.load none (.t 29))] []) (.block 2 (.seq (.seq (.reg [oO 32 (.bin .none .eql (.t 30) (.v (.int .u8 1))), oO 31 (.mv (.t 32))] []) (.cond (.t 31) .skip (.reg [oO 33 (.bin .none .eql (.t 30) (.v (.int .u8 16))), oO 31 (.mv (.t 33))] []))) (.cond (.t 31) (.seq (.reg [oO 34 (.mv (.t 0)), oO 35 (.fad 2 (.t 3)), oO 36 (.load none (.t 35)), oO 37 (.bsl none [(.int .i64 0)] 1 [(0, 1, (.t 36))]), ⟨(some 38), none, .call 85 [(.t 34), (.v (.int .u8 0)), (.t 37)]⟩, oO 4 (.mv (.t 38))] []) .ret) (.seq (.reg [oO 40 (.bin .none .eql (.t 30) (.v (.int .u8 2))), oO 39 (.mv (.t 40))] []) (.cond (.t 39) (.seq (.reg [oO 41 (.mv (.t 0)), oO 42 (.fad 2 (.t 3)), oO 43 (.load none (.t 42)), oO 44 (.fad 4 (.t 3)), oO 45 (.load none (.t 44)), oO 46 (.bsl none [(.int .i64 0)] 2 [(0, 1, (.t 43)), (1, 1, (.t 45))]), ⟨(some 47), none, .call 85 [(.t 41), (.v (.int .u8 0)), (.t 46)]⟩, oO 48 (.mv (.t 47)), ⟨(some 49), some (48, false), .op (.mv (.t 0))⟩, ⟨(some 50), some (48, false), .op (.fad 2 (.t 3))⟩, ⟨(some 51), some (48, false), .op (.load none (.t 50))⟩, ⟨(some 52), some (48, false), .op (.fad 4 (.t 3))⟩, ⟨(some 53), some (48, false), .op (.load none (.t 52))⟩, ⟨(some 54), some (48, false), .op (.bsl none [(.int .i64 0)] 2 [(0, 1, (.t 51)), (1, 1, (.t 53))])⟩, ⟨(some 55), some (48, false), .call 85 [(.t 49), (.v (.int .u8 1)), (.t 54)]⟩, oO 56 (.pick (.t 48) (.v (.bool true)) (.t 55)), oO 4 (.mv (.t 56))] []) .ret) (.seq (.reg [oO 58 (.bin .none .eql (.t 30) (.v (.int .u8 3))), oO 57 (.mv (.t 58))] []) (.cond (.t 57) (.seq (.reg [oO 59 (.fad 1 (.t 3)), oO 60 (.load none (.t 59)), oO 61 (.bin .none .geq (.t 60) (.v (.int .u8 7))), oO 62 (.mv (.t 61)), ⟨(some 63), some (62, true), .op (.fad 1 (.t 3))⟩, ⟨(some 64), some (62, true), .op (.load none (.t 63))⟩, ⟨(some 65), some (62, true), .op (.bin .none .leq (.t 64) (.v (.int .u8 20)))⟩, oO 66 (.pick (.t 62) (.t 65) (.v (.bool false))), oO 67 (.mv (.t 66)), ⟨(some 68), some (67, true), .op (.mv (.t 0))⟩, ⟨(some 69), some (67, true), .op (.fad 2 (.t 3))⟩, ⟨(some 70), some (67, true), .op (.load none (.t 69))⟩, ⟨(some 71), some (67, true), .op (.fad 4 (.t 3))⟩, ⟨(some 72), some (67, true), .op (.load none (.t 71))⟩, ⟨(some 73), some (67, true), .op (.fad 5 (.t 3))⟩, ⟨(some 74), some (67, true), .op (.load none (.t 73))⟩, ⟨(some 75), some (67, true), .op (.bsl none [(.int .i64 0)] 3 [(0, 1, (.t 70)), (1, 1, (.t 72)), (2, 1, (.t 74))])⟩, ⟨(some 76), some (67, true), .call 85 [(.t 68), (.v (.int .u8 0)), (.t 75)]⟩, oO 77 (.pick (.t 67) (.t 76) (.v (.bool false))), oO 4 (.mv (.t 77))] []) .ret) (.seq (.reg [oO 79 (.bin .none .eql (.t 30) (.v (.int .u8 4))), oO 78 (.mv (.t 79))] []) (.cond (.t 78) (.seq (.reg [oO 80 (.mv (.t 0)), oO 81 (.fad 7 (.t 3)), oO 82 (.load none (.t 81)), ⟨(some 83), none, .call 84 [(.t 80), (.t 82)]⟩, oO 84 (.mv (.t 83)), ⟨(some 85), some (84, true), .op (.mv (.t 0))⟩, ⟨(some 86), some (84, true), .op (.fad 2 (.t 3))⟩, ⟨(some 87), some (84, true), .op (.load none (.t 86))⟩, ⟨(some 88), some (84, true), .op (.bsl none [(.int .i64 0)] 1 [(0, 1, (.t 87))])⟩, ⟨(some 89), some (84, true), .call 85 [(.t 85), (.v (.int .u8 0)), (.t 88)]⟩, oO 90 (.pick (.t 84) (.t 89) (.v (.bool false))), oO 4 (.mv (.t 90))] []) .ret) (.seq (.reg [oO 92 (.bin .none .eql (.t 30) (.v (.int .u8 5))), oO 91 (.mv (.t 92))] []) (.cond (.t 91) (.seq (.reg [oO 93 (.mv (.t 0)), oO 94 (.fad 7 (.t 3)), oO 95 (.load none (.t 94)), ⟨(some 96), none, .call 84 [(.t 93), (.t 95)]⟩, oO 97 (.mv (.t 96)), ⟨(some 98), some (97, true), .op (.mv (.t 0))⟩, ⟨(some 99), some (97, true), .op (.fad 4 (.t 3))⟩, ⟨(some 100), some (97, true), .op (.load none (.t 99))⟩, ⟨(some 101), some (97, true), .op (.bsl none [(.int .i64 0)] 1 [(0, 1, (.t 100))])⟩, ⟨(some 102), some (97, true), .call 85 [(.t 98), (.v (.int .u8 0)), (.t 101)]⟩, oO 103 (.pick (.t 97) (.t 102) (.v (.bool false))), oO 4 (.mv (.t 103))] []) .ret) (.seq (.reg [oO 105 (.bin .none .eql (.t 30) (.v (.int .u8 6))), oO 104 (.mv (.t 105))] []) (.cond (.t 104) (.seq (.reg [oO 106 (.mv (.t 0)), oO 107 (.fad 7 (.t 3)), oO 108 (.load none (.t 107)), ⟨(some 109), none, .call 84 [(.t 106), (.t 108)]⟩, oO 110 (.mv (.t 109)), ⟨(some 111), some (110, true), .op (.mv (.t 0))⟩, ⟨(some 112), some (110, true), .op (.fad 2 (.t 3))⟩, ⟨(some 113), some (110, true), .op (.load none (.t 112))⟩, ⟨(some 114), some (110, true), .op (.bsl none [(.int .i64 0)] 1 [(0, 1, (.t 113))])⟩, ⟨(some 115), some (110, true), .call 85 [(.t 111), (.v (.int .u8 1)), (.t 114)]⟩, oO 116 (.pick (.t 110) (.t 115) (.v (.bool false))), oO 4 (.mv (.t 116))] []) .ret) (.seq (.reg [oO 118 (.bin .none .eql (.t 30) (.v (.int .u8 7))), oO 117 (.mv (.t 118))] []) (.cond (.t 117) (.seq (.reg [oO 119 (.mv (.t 0)), oO 120 (.fad 2 (.t 3)), oO 121 (.load none (.t 120)), oO 122 (.bsl none [(.int .i64 0)] 1 [(0, 1, (.t 121))]), ⟨(some 123), none, .call 85 [(.t 119), (.v (.int .u8 0)), (.t 122)]⟩, oO 124 (.mv (.t 123)), ⟨(some 125), some (124, true), .op (.mv (.t 0))⟩, ⟨(some 126), some (124, true), .op (.fad 4 (.t 3))⟩, ⟨(some 127), some (124, true), .op (.load none (.t 126))⟩, ⟨(some 128), some (124, true), .op (.bsl none [(.int .i64 0)] 1 [(0, 1, (.t 127))])⟩, ⟨(some 129), some (124, true), .call 85 [(.t 125), (.v (.int .u8 1)), (.t 128)]⟩, oO 130 (.pick (.t 124) (.t 129) (.v (.bool false))), oO 4 (.mv (.t 130))] []) .ret) (.seq (.reg [oO 132 (.bin .none .eql (.t 30) (.v (.int .u8 8))), oO 131 (.mv (.t 132))] []) (.cond (.t 131) (.seq (.reg [oO 133 (.mv (.t 0)), oO 134 (.fad 4 (.t 3)), oO 135 (.load none (.t 134)), oO 136 (.bsl none [(.int .i64 0)] 1 [(0, 1, (.t 135))]), ⟨(some 137), none, .call 85 [(.t 133), (.v (.int .u8 1)), (.t 136)]⟩, oO 138 (.mv (.t 137)), ⟨(some 139), some (138, true), .op (.mv (.t 0))⟩, ⟨(some 140), some (138, true), .op (.fad 5 (.t 3))⟩, ⟨(some 141), some (138, true), .op (.load none (.t 140))⟩, ⟨(some 142), some (138, true), .op (.bsl none [(.int .i64 0)] 1 [(0, 1, (.t 141))])⟩, ⟨(some 143), some (138, true), .call 85 [(.t 139), (.v (.int .u8 0)), (.t 142)]⟩, oO 144 (.pick (.t 138) (.t 143) (.v (.bool false))), oO 4 (.mv (.t 144))] []) .ret) (.seq (.reg [oO 146 (.bin .none .eql (.t 30) (.v (.int .u8 10))), oO 145 (.mv (.t 146))] []) (.cond (.t 145) (.seq (.reg [oO 4 (.mv (.v (.bool true)))] []) .ret) (.seq (.seq (.reg [oO 148 (.bin .none .eql (.t 30) (.v (.int .u8 9))), oO 147 (.mv (.t 148))] []) (.cond (.t 147) .skip (.seq (.reg [oO 149 (.bin .none .eql (.t 30) (.v (.int .u8 14))), oO 147 (.mv (.t 149))] []) (.cond (.t 147) .skip (.seq (.reg [oO 150 (.bin .none .eql (.t 30) (.v (.int .u8 18))), oO 147 (.mv (.t 150))] []) (.cond (.t 147) .skip (.reg [oO 151 (.bin .none .eql (.t 30) (.v (.int .u8 17))), oO 147 (.mv (.t 151))] []))))))) (.cond (.t 147) (.seq (.reg [oO 152 (.mv (.t 0)), oO 153 (.fad 4 (.t 3)), oO 154 (.load none (.t 153)), oO 155 (.bsl none [(.int .i64 0)] 1 [(0, 1, (.t 154))]), ⟨(some 156), none, .call 85 [(.t 152), (.v (.int .u8 0)), (.t 155)]⟩, oO 4 (.mv (.t 156))] []) .ret) (.seq (.reg [oO 158 (.bin .none .eql (.t 30) (.v (.int .u8 15))), oO 157 (.mv (.t 158))] []) (.cond (.t 157) (.seq (.reg [oO 159 (.fad 2 (.t 3)), oO 160 (.load none (.t 159)), oO 161 (.fad 3 (.t 3)), oO 162 (.load none (.t 161)), oO 163 (.bin .none .neq (.t 160) (.t 162)), oO 164 (.mv (.t 163)), ⟨(some 165), some (164, true), .op (.mv (.t 0))⟩, ⟨(some 166), some (164, true), .op (.fad 2 (.t 3))⟩, ⟨(some 167), some (164, true), .op (.load none (.t 166))⟩, ⟨(some 168), some (164, true), .op (.fad 3 (.t 3))⟩, ⟨(some 169), some (164, true), .op (.load none (.t 168))⟩, ⟨(some 170), some (164, true), .op (.bsl none [(.int .i64 0)] 2 [(0, 1, (.t 167)), (1, 1, (.t 169))])⟩, ⟨(some 171), some (164, true), .call 85 [(.t 165), (.v (.int .u8 0)), (.t 170)]⟩, oO 172 (.pick (.t 164) (.t 171) (.v (.bool false))), oO 4 (.mv (.t 172))] []) .ret) (.seq (.reg [oO 174 (.bin .none .eql (.t 30) (.v (.int .u8 13))), oO 173 (.mv (.t 174))] []) (.cond (.t 173) (.seq (.reg [oO 175 (.mv (.t 0)), oO 176 (.load (some 12) (.t 3)), ⟨(some 177), none, .call 86 [(.t 175), (.t 176)]⟩, oO 4 (.mv (.t 177))] []) .ret) (.seq (.reg [oO 179 (.bin .none .eql (.t 30) (.v (.int .u8 11))), oO 178 (.mv (.t 179))] []) (.cond (.t 178) (.seq (.reg [oO 180 (.mv (.t 0)), oO 181 (.load (some 12) (.t 3)), ⟨(some 182), none, .call 86 [(.t 180), (.t 181)]⟩, oO 183 (.mv (.t 182)), ⟨(some 184), some (183, true), .op (.fad 2 (.t 3))⟩, ⟨(some 185), some (183, true), .op (.load none (.t 184))⟩, ⟨(some 186), some (183, true), .op (.bin .none .eql (.t 185) (.v (.int .i64 (-1))))⟩, ⟨(some 187), some (183, true), .op (.mv (.t 186))⟩, ⟨(some 188), some (187, false), .op (.mv (.t 0))⟩, ⟨(some 189), some (187, false), .op (.fad 2 (.t 3))⟩, ⟨(some 190), some (187, false), .op (.load none (.t 189))⟩, ⟨(some 191), some (187, false), .op (.bsl none [(.int .i64 0)] 1 [(0, 1, (.t 190))])⟩, ⟨(some 192), some (187, false), .call 85 [(.t 188), (.v (.int .u8 0)), (.t 191)]⟩, ⟨(some 193), some (187, false), .op (.mv (.t 192))⟩, ⟨(some 194), some (193, true), .op (.mv (.t 0))⟩, ⟨(some 195), some (193, true), .op (.nchk (.t 194))⟩, ⟨(some 196), some (193, true), .op (.fad 0 (.t 195))⟩, ⟨(some 197), some (193, true), .op (.load none (.t 196))⟩, ⟨(some 198), some (193, true), .op (.fad 6 (.t 3))⟩, ⟨(some 199), some (193, true), .op (.load none (.t 198))⟩, ⟨(some 200), some (193, true), .op (.iad none (some 8) (.t 197) (.t 199))⟩, ⟨(some 201), some (193, true), .op (.fad 4 (.t 200))⟩, ⟨(some 202), some (193, true), .op (.load none (.t 201))⟩, ⟨(some 203), some (187, false), .op (.pick (.t 193) (.t 202) (.v (.bool false)))⟩, ⟨(some 204), some (187, false), .op (.mv (.t 203))⟩, ⟨(some 205), some (204, true), .op (.mv (.t 0))⟩, ⟨(some 206), some (204, true), .op (.nchk (.t 205))⟩, ⟨(some 207), some (204, true), .op (.fad 2 (.t 206))⟩, ⟨(some 208), some (204, true), .op (.load none (.t 207))⟩, ⟨(some 209), some (204, true), .op (.un .not (.t 208))⟩, ⟨(some 210), some (204, true), .op (.mv (.t 209))⟩, ⟨(some 211), some (210, false), .op (.fad 2 (.t 3))⟩, ⟨(some 212), some (210, false), .op (.load none (.t 211))⟩, ⟨(some 213), some (210, false), .op (.bin .none .eql (.t 212) (.v (.int .i64 0)))⟩, ⟨(some 214), some (204, true), .op (.pick (.t 210) (.v (.bool true)) (.t 213))⟩, ⟨(some 215), some (187, false), .op (.pick (.t 204) (.t 214) (.v (.bool false)))⟩, ⟨(some 216), some (183, true), .op (.pick (.t 187) (.v (.bool true)) (.t 215))⟩, oO 217 (.pick (.t 183) (.t 216) (.v (.bool false))), oO 4 (.mv (.t 217))] []) .ret) (.seq (.reg [oO 219 (.bin .none .eql (.t 30) (.v (.int .u8 12))), oO 218 (.mv (.t 219))] []) (.cond (.t 218) (.seq (.reg [oO 220 (.fad 4 (.t 3)), oO 221 (.load none (.t 220)), oO 222 (.bin .none .eql (.t 221) (.v (.int .i64 (-1)))), oO 223 (.mv (.t 222)), ⟨(some 224), some (223, true), .op (.mv (.t 0))⟩, ⟨(some 225), some (223, true), .op (.nchk (.t 224))⟩, ⟨(some 226), some (223, true), .op (.fad 1 (.t 225))⟩, ⟨(some 227), some (223, true), .op (.load none (.t 226))⟩, ⟨(some 228), some (223, true), .op (.nchk (.t 227))⟩, ⟨(some 229), some (223, true), .op (.fad 4 (.t 228))⟩, ⟨(some 230), some (223, true), .op (.load none (.t 229))⟩, ⟨(some 231), some (223, true), .op (.un .not (.t 230))⟩, oO 232 (.pick (.t 223) (.t 231) (.v (.bool false))), oO 233 (.mv (.t 232)), ⟨(some 234), some (233, false), .op (.fad 4 (.t 3))⟩, ⟨(some 235), some (233, false), .op (.load none (.t 234))⟩, ⟨(some 236), some (233, false), .op (.bin .none .neq (.t 235) (.v (.int .i64 (-1))))⟩, ⟨(some 237), some (233, false), .op (.mv (.t 236))⟩, ⟨(some 238), some (237, true), .op (.mv (.t 0))⟩, ⟨(some 239), some (237, true), .op (.nchk (.t 238))⟩, ⟨(some 240), some (237, true), .op (.fad 1 (.t 239))⟩, ⟨(some 241), some (237, true), .op (.load none (.t 240))⟩, ⟨(some 242), some (237, true), .op (.nchk (.t 241))⟩, ⟨(some 243), some (237, true), .op (.fad 4 (.t 242))⟩, ⟨(some 244), some (237, true), .op (.load none (.t 243))⟩, ⟨(some 245), some (233, false), .op (.pick (.t 237) (.t 244) (.v (.bool false)))⟩, ⟨(some 246), some (233, false), .op (.mv (.t 245))⟩, ⟨(some 247), some (246, true), .op (.mv (.t 0))⟩, ⟨(some 248), some (246, true), .op (.fad 4 (.t 3))⟩, ⟨(some 249), some (246, true), .op (.load none (.t 248))⟩, ⟨(some 250), some (246, true), .op (.bsl none [(.int .i64 0)] 1 [(0, 1, (.t 249))])⟩, ⟨(some 251), some (246, true), .call 85 [(.t 247), (.v (.int .u8 0)), (.t 250)]⟩, ⟨(some 252), some (233, false), .op (.pick (.t 246) (.t 251) (.v (.bool false)))⟩, oO 253 (.pick (.t 233) (.v (.bool true)) (.t 252)), oO 4 (.mv (.t 253))] []) .ret) .skip)))))))))))))))))))))))))))))) (.seq (.reg [oO 4 (.mv (.v (.bool false)))] []) .ret))))
theorem fn77 : Fn3 Tryd.prog 77 254 [(4, none)] fc77 := ⟨_, _, Tryd.func77, rfl, rfl, rfl, by kernel_rfl⟩
end Go.Proofs.YtgoejecjmodjiaaDoor

