/- What the functions compute, and that they do (printed by wip/gen/gen.py), part 1. -/
import Derived.Test.YtgoejecjmodjiaaDoorWlH2
import Derived.Test.YtgoejecjmodjiaaDoorRows
import Derived.Test.YtgoejecjmodjiaaDoorWlTz
namespace Go.Proofs.YtgoejecjmodjiaaDoor
open Go Go.Ab
set_option maxRecDepth 20000
set_option maxHeartbeats 2000000
set_option linter.unusedVariables false
set_option linter.unusedSimpArgs false
theorem mixed : Tryd.prog.follows .mixedOrders = true := Tryd.checked.mixed
structure Bits_Set where
  n : Int
  words : (List Int)
def Bits_Set.cells (x : Bits_Set) : List AV := [(.int .i64 x.n), (.sl false 1 (List.map (avI .u64) x.words))]
def Bits_Set.av (x : Bits_Set) : AV := .agg (Bits_Set.cells x)
theorem Bits_Set.enc : Enc Bits_Set.av (some 2) := ⟨fun _ => rfl, fun _ => rfl, fun _ => rfl, fun x n => blwL_of ⟨((encI .i64).blw x.n n), ((encL (encI .u64) 1).blw x.words n), trivial⟩⟩
structure Node where
  Op : Int
  By : Int
  D : Int
  E : Int
  A : Int
  B : Int
  F : Int
  Cell : Int
  Imm : Int
  Args : (List Int)
  Next : Int
  Else : Int
def Node.cells (x : Node) : List AV := [(.int .u8 x.Op), (.int .u8 x.By), (.int .i64 x.D), (.int .i64 x.E), (.int .i64 x.A), (.int .i64 x.B), (.int .i64 x.F), (.int .i64 x.Cell), (.int .u64 x.Imm), (.sl false 1 (List.map (avI .i64) x.Args)), (.int .i64 x.Next), (.int .i64 x.Else)]
def Node.av (x : Node) : AV := .agg (Node.cells x)
theorem Node.enc : Enc Node.av (some 12) := ⟨fun _ => rfl, fun _ => rfl, fun _ => rfl, fun x n => blwL_of ⟨((encI .u8).blw x.Op n), ((encI .u8).blw x.By n), ((encI .i64).blw x.D n), ((encI .i64).blw x.E n), ((encI .i64).blw x.A n), ((encI .i64).blw x.B n), ((encI .i64).blw x.F n), ((encI .i64).blw x.Cell n), ((encI .u64).blw x.Imm n), ((encL (encI .i64) 1).blw x.Args n), ((encI .i64).blw x.Next n), ((encI .i64).blw x.Else n), trivial⟩⟩
structure Graph where
  Params : (List Int)
  Kinds : (List Int)
  Cells : Int
  Init : (List Int)
  Result : Bool
  Keep : Int
  Nodes : (List Node)
  Entry : Int
def Graph.cells (x : Graph) : List AV := [(.sl false 1 (List.map (avI .i64) x.Params)), (.sl false 1 (List.map (avI .u8) x.Kinds)), (.int .i64 x.Cells), (.sl false 1 (List.map (avI .i64) x.Init)), (.bool x.Result), (.int .i64 x.Keep), (.sl false 12 (List.map Node.av x.Nodes)), (.int .i64 x.Entry)]
def Graph.av (x : Graph) : AV := .agg (Graph.cells x)
theorem Graph.enc : Enc Graph.av (some 8) := ⟨fun _ => rfl, fun _ => rfl, fun _ => rfl, fun x n => blwL_of ⟨((encL (encI .i64) 1).blw x.Params n), ((encL (encI .u8) 1).blw x.Kinds n), ((encI .i64).blw x.Cells n), ((encL (encI .i64) 1).blw x.Init n), (encB.blw x.Result n), ((encI .i64).blw x.Keep n), ((encL Node.enc 12).blw x.Nodes n), ((encI .i64).blw x.Entry n), trivial⟩⟩
structure Graphs where
  Funcs : (List Graph)
def Graphs.cells (x : Graphs) : List AV := [(.sl false 8 (List.map Graph.av x.Funcs))]
def Graphs.av (x : Graphs) : AV := .agg (Graphs.cells x)
theorem Graphs.enc : Enc Graphs.av (some 1) := ⟨fun _ => rfl, fun _ => rfl, fun _ => rfl, fun x n => blwL_of ⟨((encL Graph.enc 8).blw x.Funcs n), trivial⟩⟩
/- (*windlass/bits.Set).List -/
def fc61 : FC := (.seq (.reg [⟨(some 2), none, .op (.mv (.v .nils))⟩] [])
  (.seq (.reg [⟨(some 3), none, .op (.mv (.v .nils))⟩] [])
  (.seq (.seq (.reg [⟨(some 6), none, .op (.mv (.t 0))⟩,
  ⟨(some 7), none, .op (.bin .ptr .neq (.t 6) (.v .nilp))⟩] [])
  (.cond (.t 7)
  (.seq (.reg [⟨(some 8), none, .op (.mv (.t 0))⟩,
  ⟨(some 9), none, .op (.nchk (.t 8))⟩,
  ⟨(some 10), none, .op (.fad 1 (.t 9))⟩,
  ⟨(some 11), none, .op (.load none (.t 10))⟩,
  ⟨(some 12), none, .op (.len .sl (.t 11))⟩,
  ⟨(some 13), none, .op (.mv (.v (.int .i64 0)))⟩] [])
  (.block 0 (.loop (.seq (.reg [⟨(some 14), none, .op (.bin .none .lss (.t 13) (.t 12))⟩] [])
  (.seq (.cond (.t 14)
  .skip
  (.exit 0))
  (.seq (.block 1 (.seq (.reg [⟨(some 15), none, .op (.mv (.t 13))⟩,
  ⟨(some 16), none, .op (.iad none none (.t 11) (.t 13))⟩,
  ⟨(some 17), none, .op (.load none (.t 16))⟩,
  ⟨(some 4), none, .op (.mv (.t 15))⟩,
  ⟨(some 5), none, .op (.mv (.t 17))⟩] [])
  (.block 2 (.loop (.seq (.seq (.reg [⟨(some 18), none, .op (.mv (.t 5))⟩,
  ⟨(some 19), none, .op (.bin .none .neq (.t 18) (.v (.int .u64 0)))⟩] [])
  (.cond (.t 19)
  .skip
  (.exit 2)))
  (.seq (.block 3 (.reg [⟨(some 24), none, .op (.mv (.t 3))⟩,
  ⟨(some 25), none, .op (.mv (.t 4))⟩,
  ⟨(some 26), none, .op (.bin .none .mul (.v (.int .i64 64)) (.t 25))⟩,
  ⟨(some 27), none, .op (.mv (.t 5))⟩,
  ⟨(some 28), none, .call 81 [(.t 27)]⟩,
  ⟨(some 29), none, .op (.bin .none .add (.t 26) (.t 28))⟩,
  ⟨(some 30), none, .op (.bsl none [(.int .i64 0)] 1 [(0, 1, (.t 29))])⟩,
  ⟨(some 31), none, .op (.app none 8 (.t 24) (.t 30))⟩,
  ⟨(some 3), none, .op (.mv (.t 31))⟩] []))
  (.reg [⟨(some 20), none, .op (.mv (.t 5))⟩,
  ⟨(some 21), none, .op (.mv (.t 5))⟩,
  ⟨(some 22), none, .op (.bin .none .sub (.t 21) (.v (.int .u64 1)))⟩,
  ⟨(some 23), none, .op (.bin .none .and (.t 20) (.t 22))⟩,
  ⟨(some 5), none, .op (.mv (.t 23))⟩] [])))))))
  (.reg [⟨(some 32), none, .op (.bin .none .add (.t 13) (.v (.int .i64 1)))⟩,
  ⟨(some 13), none, .op (.mv (.t 32))⟩] [])))))))
  .skip))
  (.seq (.reg [⟨(some 33), none, .op (.mv (.t 3))⟩,
  ⟨(some 2), none, .op (.mv (.t 33))⟩] [])
  .ret))))
theorem fn61 : Fn3 Tryd.prog 61 34 [(2, none)] fc61 := ⟨_, _, Tryd.func61, rfl, rfl, rfl, by kernel_rfl⟩
def bits_Set_List_s (fuel : Nat) (s_00 : Bits_Set) : Option (List Int) :=
  ((rng (fun (i_2 : Nat) (w_3 : Int) (s_1 : (List Int)) => (((whileN (fun (s_5 : (Int × (List Int))) => ((if (s_5.1 != 0) then ((math_bits_TrailingZeros64_s s_5.1).bind fun tra_6 => ((appL 8 s_5.2 [(I64 ((I64 (64 * (i_2 : Int))) + tra_6))]).bind fun l_7 => (some (.nxt ((bitAnd .u64 s_5.1 (U64 (s_5.1 - 1))), l_7))))) else (some (.brk (s_5.1, s_5.2)))) : Option (Stp (Int × (List Int)) (Option (Stp (List Int) (Option (List Int))))))) fuel (w_3, s_1)).bind (oc (fun (s_5 : (Int × (List Int))) => (some (.nxt s_5.2))))) : Option (Stp (List Int) (Option (List Int))))) s_00.words []).bind (oc (fun (s_1 : (List Int)) => (some s_1))))
theorem bits_Set_List_ev {fuel : Nat} {s_00 : Bits_Set} {r : (List Int)} (h : bits_Set_List_s fuel s_00 = some r) : PureEv Tryd.prog 61 [(.cptr (Bits_Set.av s_00).cells 0)] (.sl false 1 (List.map (avI .i64) r)) := by
  unfold bits_Set_List_s at h
  refine PureEv_end mixed fn61 (by simp) [31] 6 ?_
  unfold fc61
  refine E_sq ?_
  refine E_reg ?_
  refine E_mv (v' := .nils) rfl ?_
  refine E_nil ?_
  refine E_nx ?_
  refine E_sq ?_
  refine E_reg ?_
  refine E_mv (v' := .nils) rfl ?_
  refine E_nil ?_
  refine E_nx ?_
  refine E_as ?_
  refine E_sq ?_
  refine E_reg ?_
  refine E_mv (v' := (.cptr (Bits_Set.av s_00).cells 0)) rfl ?_
  refine E_op0 (v' := (.bool true)) rfl rfl ?_
  refine E_nil ?_
  refine E_nx ?_
  refine E_sq ?_
  refine E_ct rfl ?_
  refine E_sq ?_
  refine E_reg ?_
  refine E_mv (v' := (.cptr (Bits_Set.av s_00).cells 0)) rfl ?_
  refine E_op0 (v' := (.cptr (Bits_Set.av s_00).cells 0)) rfl rfl ?_
  refine E_op0 (v' := (.cptr (Bits_Set.av s_00).cells 1)) rfl rfl ?_
  refine E_op0 (v' := (.sl false 1 (List.map (avI .u64) s_00.words))) rfl rfl ?_
  refine E_len rfl ?_
  refine E_mv (v' := (.int .i64 0)) rfl ?_
  refine E_nil ?_
  refine E_nx ?_
  refine E_rngO (fun s_1 => [(3, (.ref 0 1 0 (List.length s_1) none)), (11, (.sl false 1 (List.map (avI .u64) s_00.words)))]) (fun s_1 => [.arr 1 (flat (avI .i64) s_1)]) h (by decide) (by decide) (fun _ => ⟨rfl, rfl, rfl, rfl⟩) (wk_rn [none] rfl (Nat.le_of_ble_eq_true rfl) ⟨(rn_obN rfl rfl rfl), trivial⟩ ⟨(rn_b rfl), (rn_b rfl), (rn_nil rfl), (rn_b ((encI .u64).blws 0)), trivial⟩) (fun i_2 w_3 s_1 c hx_4 hlt h => ?_) (fun s_1 fr' S' h hw => ?_)
  · refine E_sq ?_
    refine E_reg ?_
    refine E_mv (v' := (.int .i64 (i_2 : Int))) rfl ?_
    refine E_iadF rfl rfl (getI_of hx_4) ?_
    refine E_op0 (v' := (.int .u64 w_3)) rfl rfl ?_
    refine E_mv (v' := (.int .i64 (i_2 : Int))) rfl ?_
    refine E_mv (v' := (.int .u64 w_3)) rfl ?_
    refine E_nil ?_
    refine E_nx ?_
    refine E_whileO (fun s_5 => [(3, (.ref 0 1 0 (List.length s_5.2) none)), (4, (.int .i64 (i_2 : Int))), (5, (.int .u64 s_5.1)), (11, (.sl false 1 (List.map (avI .u64) s_00.words))), (12, (.int .i64 (List.length s_00.words : Int))), (13, (.int .i64 (i_2 : Int)))]) (fun s_5 => [.arr 1 (flat (avI .i64) s_5.2)]) h (wk_rn [some (0, 0)] rfl (Nat.le_of_ble_eq_true rfl) ⟨(rn_ob rfl rfl (.refl ((encI .i64).blwf 0 _)) rfl), trivial⟩ ⟨(rn_refL (encI .i64) rfl rfl rfl), (rn_b rfl), (rn_b rfl), (rn_b ((encI .u64).blws 0)), (rn_b rfl), (rn_b rfl), trivial⟩) (fun s_5 c h => ?_) (fun s_5 fr' S' h hw => ?_)
    · refine E_as ?_
      refine E_sq ?_
      refine E_reg ?_
      refine E_mv (v' := (.int .u64 s_5.1)) rfl ?_
      refine E_op0 (v' := (.bool (s_5.1 != 0))) rfl rfl ?_
      refine E_nil ?_
      refine E_nx ?_
      refine E_sq ?_
      refine E_cs (t := (s_5.1 != 0)) rfl (fun hb => ?_) (fun hb => ?_)
      · rw [ite_t hb] at h
        refine E_skip ?_
        refine E_nx ?_
        refine E_sq ?_
        refine E_block ?_
        refine E_reg ?_
        refine E_mv (v' := (.ref 0 1 0 (List.length s_5.2) none)) rfl ?_
        refine E_mv (v' := (.int .i64 (i_2 : Int))) rfl ?_
        refine E_op0 (v' := (.int .i64 (I64 (64 * (i_2 : Int))))) rfl rfl ?_
        refine E_mv (v' := (.int .u64 s_5.1)) rfl ?_
        obtain ⟨tra_6, htra_6, h⟩ := bd_some h
        refine E_callW (math_bits_TrailingZeros64_ev  htra_6) rfl ⟨(.refl _), trivial⟩ (blwL_of ⟨rfl, trivial⟩) rfl ?_
        refine E_op0 (v' := (.int .i64 (I64 ((I64 (64 * (i_2 : Int))) + tra_6)))) rfl rfl ?_
        refine E_opw (v' := (.sl true 1 (List.map (avI .i64) [(I64 ((I64 (64 * (i_2 : Int))) + tra_6))]))) rfl (.refl _) rfl ?_
        obtain ⟨l_7, hl_7, h⟩ := bd_some h
        refine E_apL (S' := [.arr 2 (flat (avI .i64) l_7)]) (encI .i64) rfl (src_sl [(I64 ((I64 (64 * (i_2 : Int))) + tra_6))]) rfl hl_7 rfl ?_
        refine E_mv (v' := (.ref 0 2 0 (List.length l_7) none)) rfl ?_
        refine E_nil ?_
        refine E_bln ?_
        refine E_nx ?_
        refine E_reg ?_
        refine E_mv (v' := (.int .u64 s_5.1)) rfl ?_
        refine E_mv (v' := (.int .u64 s_5.1)) rfl ?_
        refine E_op0 (v' := (.int .u64 (U64 (s_5.1 - 1)))) rfl rfl ?_
        refine E_op0 (v' := (.int .u64 (bitAnd .u64 s_5.1 (U64 (s_5.1 - 1))))) rfl rfl ?_
        refine E_mv (v' := (.int .u64 (bitAnd .u64 s_5.1 (U64 (s_5.1 - 1))))) rfl ?_
        refine E_nil ?_
        cases h
        exact L_nn rfl (wk_rn [some (0, 0)] rfl (Nat.le_of_ble_eq_true rfl) ⟨(rn_ob rfl rfl (.refl ((encI .i64).blwf 0 _)) rfl), trivial⟩ ⟨(rn_refL (encI .i64) rfl rfl rfl), (rn_b rfl), (rn_b rfl), (rn_b ((encI .u64).blws 0)), (rn_b rfl), (rn_b rfl), trivial⟩)
      · rw [ite_f hb] at h
        refine E_exit ?_
        refine E_the ?_
        cases h
        exact L_bk rfl rfl rfl (wk_rn [some (0, 0)] rfl (Nat.le_of_ble_eq_true rfl) ⟨(rn_ob rfl rfl (.refl ((encI .i64).blwf 0 _)) rfl), trivial⟩ ⟨(rn_refL (encI .i64) rfl rfl rfl), (rn_b rfl), (rn_b rfl), (rn_b ((encI .u64).blws 0)), (rn_b rfl), (rn_b rfl), trivial⟩)
    · cases h
      exact X_nn rfl hw (wk_rn [some (0, 0)] rfl (Nat.le_of_ble_eq_true rfl) ⟨(rn_ob rfl rfl (.refl ((encI .i64).blwf 0 _)) rfl), trivial⟩ ⟨(rn_b rfl), (rn_b rfl), (rn_refL (encI .i64) rfl rfl rfl), (rn_b ((encI .u64).blws 0)), trivial⟩)
  · refine X_nx hw ?_
    refine E_sq ?_
    refine E_reg ?_
    refine E_mv (v' := (.ref 0 1 0 (List.length s_1) none)) rfl ?_
    refine E_mv (v' := (.ref 0 1 0 (List.length s_1) none)) rfl ?_
    refine E_nil ?_
    refine E_nx ?_
    refine E_ret ?_
    cases h
    exact ⟨trivial, _, rfl, (fz_ref (encI .i64) (Nat.zero_le _) rfl)⟩
/- windlass/live.lists -/
def fc30 : FC := (.seq (.reg [⟨(some 2), none, .op (.mv (.v .nils))⟩] [])
  (.seq (.reg [⟨(some 3), none, .op (.mv (.v .nils))⟩] [])
  (.seq (.seq (.reg [⟨(some 6), none, .op (.mv (.t 0))⟩,
  ⟨(some 7), none, .op (.len .sl (.t 6))⟩,
  ⟨(some 8), none, .op (.mv (.v (.int .i64 0)))⟩] [])
  (.block 0 (.loop (.seq (.reg [⟨(some 9), none, .op (.bin .none .lss (.t 8) (.t 7))⟩] [])
  (.seq (.cond (.t 9)
  .skip
  (.exit 0))
  (.seq (.block 1 (.seq (.reg [⟨(some 10), none, .op (.iad none none (.t 6) (.t 8))⟩,
  ⟨(some 11), none, .op (.load none (.t 10))⟩,
  ⟨(some 5), none, .op (.mv (.t 11))⟩] [])
  (.reg [⟨(some 12), none, .op (.mv (.t 3))⟩,
  ⟨(some 13), none, .op (.mv (.t 5))⟩,
  ⟨(some 14), none, .call 61 [(.t 13)]⟩,
  ⟨(some 15), none, .op (.bsl none [.nils] 1 [(0, 1, (.t 14))])⟩,
  ⟨(some 16), none, .op (.app none 24 (.t 12) (.t 15))⟩,
  ⟨(some 3), none, .op (.mv (.t 16))⟩] [])))
  (.reg [⟨(some 17), none, .op (.bin .none .add (.t 8) (.v (.int .i64 1)))⟩,
  ⟨(some 8), none, .op (.mv (.t 17))⟩] [])))))))
  (.seq (.reg [⟨(some 18), none, .op (.mv (.t 3))⟩,
  ⟨(some 2), none, .op (.mv (.t 18))⟩] [])
  .ret))))
theorem fn30 : Fn3 Tryd.prog 30 19 [(2, none)] fc30 := ⟨_, _, Tryd.func30, rfl, rfl, rfl, by kernel_rfl⟩
def live_lists_s (fuel : Nat) (sets_00 : (List (Option Bits_Set))) : Option (List (List Int)) :=
  ((rng (fun (i_2 : Nat) (s_3 : (Option Bits_Set)) (s_1 : (List (List Int))) => ((s_3.bind fun p_5 => ((bits_Set_List_s fuel p_5).bind fun vli_6 => ((appL 24 s_1 [vli_6]).bind fun l_7 => (some (.nxt l_7))))) : Option (Stp (List (List Int)) (Option (List (List Int)))))) sets_00 []).bind (oc (fun (s_1 : (List (List Int))) => (some s_1))))
theorem live_lists_ev {fuel : Nat} {sets_00 : (List (Option Bits_Set))} {r : (List (List Int))} (h : live_lists_s fuel sets_00 = some r) : PureEv Tryd.prog 30 [(.sl false 1 (List.map (avP Bits_Set.av) sets_00))] (.sl false 1 (List.map (avL 1 (avI .i64)) r)) := by
  unfold live_lists_s at h
  refine PureEv_end mixed fn30 (by simp) [16] 6 ?_
  unfold fc30
  refine E_sq ?_
  refine E_reg ?_
  refine E_mv (v' := .nils) rfl ?_
  refine E_nil ?_
  refine E_nx ?_
  refine E_sq ?_
  refine E_reg ?_
  refine E_mv (v' := .nils) rfl ?_
  refine E_nil ?_
  refine E_nx ?_
  refine E_as ?_
  refine E_sq ?_
  refine E_reg ?_
  refine E_mv (v' := (.sl false 1 (List.map (avP Bits_Set.av) sets_00))) rfl ?_
  refine E_len rfl ?_
  refine E_mv (v' := (.int .i64 0)) rfl ?_
  refine E_nil ?_
  refine E_nx ?_
  refine E_sq ?_
  refine E_rngO (fun s_1 => [(3, (.ref 0 1 0 (List.length s_1) none)), (6, (.sl false 1 (List.map (avP Bits_Set.av) sets_00)))]) (fun s_1 => [.arr 1 (flat (avL 1 (avI .i64)) s_1)]) h (by decide) (by decide) (fun _ => ⟨rfl, rfl, rfl, rfl⟩) (wk_rn [none] rfl (Nat.le_of_ble_eq_true rfl) ⟨(rn_obN rfl rfl rfl), trivial⟩ ⟨(rn_b rfl), (rn_b rfl), (rn_nil rfl), (rn_b ((encP Bits_Set.enc).blws 0)), trivial⟩) (fun i_2 s_3 s_1 c hx_4 hlt h => ?_) (fun s_1 fr' S' h hw => ?_)
  · refine E_sq ?_
    refine E_reg ?_
    refine E_iadF rfl rfl (getI_of hx_4) ?_
    refine E_op0 (v' := (avP Bits_Set.av s_3)) (by generalize s_3 = o_; cases o_ <;> rfl) rfl ?_
    refine E_mv (v' := (avP Bits_Set.av s_3)) rfl ?_
    refine E_nil ?_
    refine E_nx ?_
    refine E_reg ?_
    refine E_mv (v' := (.ref 0 1 0 (List.length s_1) none)) rfl ?_
    refine E_mv (v' := (avP Bits_Set.av s_3)) rfl ?_
    replace h := bd_some h
    obtain ⟨p_5, hp_5, h⟩ := h
    subst hp_5
    obtain ⟨vli_6, hvli_6, h⟩ := bd_some h
    refine E_callW (bits_Set_List_ev (fuel := fuel)  hvli_6) rfl ⟨(.refl _), trivial⟩ (blwL_of ⟨(cp_blw (Bits_Set.enc.blw _ 0)), trivial⟩) ((encI .i64).blws 0) ?_
    refine E_opw (v' := (.sl true 1 (List.map (avL 1 (avI .i64)) [vli_6]))) rfl (.refl _) rfl ?_
    obtain ⟨l_7, hl_7, h⟩ := bd_some h
    refine E_apL (S' := [.arr 2 (flat (avL 1 (avI .i64)) l_7)]) (encL (encI .i64) 1) rfl (src_sl [vli_6]) rfl hl_7 rfl ?_
    refine E_mv (v' := (.ref 0 2 0 (List.length l_7) none)) rfl ?_
    refine E_nil ?_
    cases h
    exact L_nn rfl (wk_rn [some (0, 0)] rfl (Nat.le_of_ble_eq_true rfl) ⟨(rn_ob rfl rfl (.refl ((encL (encI .i64) 1).blwf 0 _)) rfl), trivial⟩ ⟨(rn_b rfl), (rn_b rfl), (rn_refL (encL (encI .i64) 1) rfl rfl rfl), (rn_b ((encP Bits_Set.enc).blws 0)), trivial⟩)
  · refine X_nx hw ?_
    refine E_sq ?_
    refine E_reg ?_
    refine E_mv (v' := (.ref 0 1 0 (List.length s_1) none)) rfl ?_
    refine E_mv (v' := (.ref 0 1 0 (List.length s_1) none)) rfl ?_
    refine E_nil ?_
    refine E_nx ?_
    refine E_ret ?_
    cases h
    exact ⟨trivial, _, rfl, (fz_ref (encL (encI .i64) 1) (Nat.zero_le _) rfl)⟩
/- (*windlass/ir.checker).head$1 -/
def fc83 : FC := (.seq (.reg [⟨(some 2), none, .op (.mv (.v (.bool false)))⟩] [])
  (.seq (.reg [⟨(some 3), none, .op (.mv (.t 0))⟩,
  ⟨(some 4), none, .op (.bin .none .gtr (.t 3) (.v (.int .u8 1)))⟩,
  ⟨(some 2), none, .op (.mv (.t 4))⟩] [])
  .ret))
theorem fn83 : Fn3 Tryd.prog 83 5 [(2, none)] fc83 := ⟨_, _, Tryd.func83, rfl, rfl, rfl, by kernel_rfl⟩
def ir_checker_head_1_s (k_00 : Int) : Option Bool :=
  (some (decide (k_00 > 1)))
theorem ir_checker_head_1_ev {k_00 : Int} {r : Bool} (h : ir_checker_head_1_s k_00 = some r) : PureEv Tryd.prog 83 [(.int .u8 k_00)] (.bool r) := by
  unfold ir_checker_head_1_s at h
  refine PureEv_end mixed fn83 (by simp) [] 6 ?_
  unfold fc83
  refine E_sq ?_
  refine E_reg ?_
  refine E_mv (v' := (.bool false)) rfl ?_
  refine E_nil ?_
  refine E_nx ?_
  refine E_sq ?_
  refine E_reg ?_
  refine E_mv (v' := (.int .u8 k_00)) rfl ?_
  refine E_op0 (v' := (.bool (decide (k_00 > 1)))) rfl rfl ?_
  refine E_mv (v' := (.bool (decide (k_00 > 1)))) rfl ?_
  refine E_nil ?_
  refine E_nx ?_
  refine E_ret ?_
  cases h
  exact ⟨trivial, _, rfl, (fz_b rfl (.refl _))⟩
/- slices.IndexFunc[[]windlass/api.Kind,windlass/api.Kind] -/
def fc87 : FC := (.seq (.reg [⟨(some 4), none, .op (.mv (.v (.int .i64 0)))⟩] [])
  (.seq (.seq (.reg [⟨(some 6), none, .op (.mv (.t 0))⟩,
  ⟨(some 7), none, .op (.len .sl (.t 6))⟩,
  ⟨(some 8), none, .op (.mv (.v (.int .i64 0)))⟩] [])
  (.block 0 (.loop (.seq (.reg [⟨(some 9), none, .op (.bin .none .lss (.t 8) (.t 7))⟩] [])
  (.seq (.cond (.t 9)
  .skip
  (.exit 0))
  (.seq (.block 1 (.seq (.reg [⟨(some 10), none, .op (.mv (.t 8))⟩,
  ⟨(some 5), none, .op (.mv (.t 10))⟩] [])
  (.seq (.reg [⟨(some 11), none, .op (.mv (.t 1))⟩,
  ⟨(some 12), none, .op (.mv (.t 0))⟩,
  ⟨(some 13), none, .op (.mv (.t 5))⟩,
  ⟨(some 14), none, .op (.iad none none (.t 12) (.t 13))⟩,
  ⟨(some 15), none, .op (.load none (.t 14))⟩,
  ⟨(some 16), none, .callv (.t 11) [(.t 15)]⟩] [])
  (.cond (.t 16)
  (.seq (.reg [⟨(some 17), none, .op (.mv (.t 5))⟩,
  ⟨(some 4), none, .op (.mv (.t 17))⟩] [])
  .ret)
  .skip))))
  (.reg [⟨(some 18), none, .op (.bin .none .add (.t 8) (.v (.int .i64 1)))⟩,
  ⟨(some 8), none, .op (.mv (.t 18))⟩] [])))))))
  (.seq (.reg [⟨(some 4), none, .op (.mv (.v (.int .i64 (-1))))⟩] [])
  .ret)))
theorem fn87 : Fn3 Tryd.prog 87 19 [(4, none)] fc87 := ⟨_, _, Tryd.func87, rfl, rfl, rfl, by kernel_rfl⟩
def slices_IndexFunc_1_f83_s (s_00 : (List Int)) : Option Int :=
  ((rni (fun (i_2 : Nat) (s_1 : Unit) => (((getI s_00 (i_2 : Int)).bind fun y_3 => ((ir_checker_head_1_s y_3).bind fun v1_4 => (if v1_4 then (some (.ret (some (i_2 : Int)))) else (some (.nxt ()))))) : Option (Stp Unit (Option Int)))) (List.length s_00 : Int) ()).bind (oc (fun (s_1 : Unit) => (some (-1)))))
theorem slices_IndexFunc_1_f83_ev {s_00 : (List Int)} {r : Int} (h : slices_IndexFunc_1_f83_s s_00 = some r) : PureEv Tryd.prog 87 [(.sl false 1 (List.map (avI .u8) s_00)), (.fn (.func 83) [] [])] (.int .i64 r) := by
  unfold slices_IndexFunc_1_f83_s at h
  refine PureEv_end mixed fn87 (by simp) [] 6 ?_
  unfold fc87
  refine E_sq ?_
  refine E_reg ?_
  refine E_mv (v' := (.int .i64 0)) rfl ?_
  refine E_nil ?_
  refine E_nx ?_
  refine E_as ?_
  refine E_sq ?_
  refine E_reg ?_
  refine E_mv (v' := (.sl false 1 (List.map (avI .u8) s_00))) rfl ?_
  refine E_len rfl ?_
  refine E_mv (v' := (.int .i64 0)) rfl ?_
  refine E_nil ?_
  refine E_nx ?_
  refine E_sq ?_
  refine E_rniO (fun s_1 => [(0, (.sl false 1 (List.map (avI .u8) s_00))), (1, (.fn (.func 83) [] []))]) (fun s_1 => []) h (by decide) (by decide) (fun _ => ⟨rfl, rfl, rfl, rfl⟩) (wk_aw ⟨(.refl _), (.refl _), (.refl _), (.refl _), trivial⟩) (fun i_2 s_1 c hlt h => ?_) (fun s_1 fr' S' h hw => ?_)
  · refine E_sq ?_
    refine E_reg ?_
    refine E_mv (v' := (.int .i64 (i_2 : Int))) rfl ?_
    refine E_mv (v' := (.int .i64 (i_2 : Int))) rfl ?_
    refine E_nil ?_
    refine E_nx ?_
    refine E_sq ?_
    refine E_reg ?_
    refine E_mv (v' := (.fn (.func 83) [] [])) rfl ?_
    refine E_mv (v' := (.sl false 1 (List.map (avI .u8) s_00))) rfl ?_
    refine E_mv (v' := (.int .i64 (i_2 : Int))) rfl ?_
    obtain ⟨y_3, hy_3, h⟩ := bd_some h
    refine E_iadF rfl rfl hy_3 ?_
    refine E_op0 (v' := (.int .u8 y_3)) rfl rfl ?_
    obtain ⟨v1_4, hv1_4, h⟩ := bd_some h
    refine E_callvW (as' := [(.int .u8 y_3)]) rfl rfl (ir_checker_head_1_ev  hv1_4) rfl ⟨(.refl _), trivial⟩ (blwL_of ⟨rfl, trivial⟩) rfl ?_
    refine E_nil ?_
    refine E_nx ?_
    refine E_cs (t := v1_4) rfl (fun hb => ?_) (fun hb => ?_)
    · rw [ite_t hb] at h
      refine E_sq ?_
      refine E_reg ?_
      refine E_mv (v' := (.int .i64 (i_2 : Int))) rfl ?_
      refine E_mv (v' := (.int .i64 (i_2 : Int))) rfl ?_
      refine E_nil ?_
      refine E_nx ?_
      refine E_ret ?_
      cases h
      refine L_rrO rfl (fun h => ?_)
      refine E_thr ?_
      cases h
      exact ⟨trivial, _, rfl, (fz_b rfl (.refl _))⟩
    · rw [ite_f hb] at h
      refine E_skip ?_
      cases h
      exact L_nn rfl (wk_aw ⟨(.refl _), (.refl _), (.refl _), (.refl _), trivial⟩)
  · refine X_nx hw ?_
    refine E_sq ?_
    refine E_reg ?_
    refine E_mv (v' := (.int .i64 (-1))) rfl ?_
    refine E_nil ?_
    refine E_nx ?_
    refine E_ret ?_
    cases h
    exact ⟨trivial, _, rfl, (fz_b rfl (.refl _))⟩
/- slices.ContainsFunc[[]windlass/api.Kind,windlass/api.Kind] -/
def fc82 : FC := (.seq (.reg [⟨(some 4), none, .op (.mv (.v (.bool false)))⟩] [])
  (.seq (.reg [⟨(some 5), none, .op (.mv (.t 0))⟩,
  ⟨(some 6), none, .op (.mv (.t 1))⟩,
  ⟨(some 7), none, .call 87 [(.t 5), (.t 6)]⟩,
  ⟨(some 8), none, .op (.bin .none .geq (.t 7) (.v (.int .i64 0)))⟩,
  ⟨(some 4), none, .op (.mv (.t 8))⟩] [])
  .ret))
theorem fn82 : Fn3 Tryd.prog 82 9 [(4, none)] fc82 := ⟨_, _, Tryd.func82, rfl, rfl, rfl, by kernel_rfl⟩
def slices_ContainsFunc_f83_s (s_00 : (List Int)) : Option Bool :=
  ((slices_IndexFunc_1_f83_s s_00).bind fun v1_1 => (some (decide (v1_1 ≥ 0))))
theorem slices_ContainsFunc_f83_ev {s_00 : (List Int)} {r : Bool} (h : slices_ContainsFunc_f83_s s_00 = some r) : PureEv Tryd.prog 82 [(.sl false 1 (List.map (avI .u8) s_00)), (.fn (.func 83) [] [])] (.bool r) := by
  unfold slices_ContainsFunc_f83_s at h
  refine PureEv_end mixed fn82 (by simp) [] 6 ?_
  unfold fc82
  refine E_sq ?_
  refine E_reg ?_
  refine E_mv (v' := (.bool false)) rfl ?_
  refine E_nil ?_
  refine E_nx ?_
  refine E_sq ?_
  refine E_reg ?_
  refine E_mv (v' := (.sl false 1 (List.map (avI .u8) s_00))) rfl ?_
  refine E_mv (v' := (.fn (.func 83) [] [])) rfl ?_
  obtain ⟨v1_1, hv1_1, h⟩ := bd_some h
  refine E_callW (slices_IndexFunc_1_f83_ev  hv1_1) rfl ⟨(.refl _), (.refl _), trivial⟩ (blwL_of ⟨((encI .u8).blws 0), rfl, trivial⟩) rfl ?_
  refine E_op0 (v' := (.bool (decide (v1_1 ≥ 0)))) rfl rfl ?_
  refine E_mv (v' := (.bool (decide (v1_1 ≥ 0)))) rfl ?_
  refine E_nil ?_
  refine E_nx ?_
  refine E_ret ?_
  cases h
  exact ⟨trivial, _, rfl, (fz_b rfl (.refl _))⟩
/- (*windlass/ir.checker).cell -/
def fc84 : FC := (.seq (.reg [⟨(some 4), none, .op (.mv (.v (.bool false)))⟩] [])
  (.seq (.reg [⟨(some 5), none, .op (.mv (.t 1))⟩,
  ⟨(some 6), none, .op (.bin .none .geq (.t 5) (.v (.int .i64 0)))⟩,
  ⟨(some 7), none, .op (.mv (.t 6))⟩,
  ⟨(some 8), some (7, true), .op (.mv (.t 1))⟩,
  ⟨(some 9), some (7, true), .op (.mv (.t 0))⟩,
  ⟨(some 10), some (7, true), .op (.nchk (.t 9))⟩,
  ⟨(some 11), some (7, true), .op (.fad 1 (.t 10))⟩,
  ⟨(some 12), some (7, true), .op (.load none (.t 11))⟩,
  ⟨(some 13), some (7, true), .op (.nchk (.t 12))⟩,
  ⟨(some 14), some (7, true), .op (.fad 2 (.t 13))⟩,
  ⟨(some 15), some (7, true), .op (.load none (.t 14))⟩,
  ⟨(some 16), some (7, true), .op (.bin .none .lss (.t 8) (.t 15))⟩,
  ⟨(some 17), none, .op (.pick (.t 7) (.t 16) (.v (.bool false)))⟩,
  ⟨(some 4), none, .op (.mv (.t 17))⟩] [])
  .ret))
theorem fn84 : Fn3 Tryd.prog 84 18 [(4, none)] fc84 := ⟨_, _, Tryd.func84, rfl, rfl, rfl, by kernel_rfl⟩
def ir_checker_cell_pNCN_s (c_all_00 : (List Graph)) (c_g_00 : Graph) (c_bound_00 : Bool) (n_01 : Int) : Option (Bool × (List Graph) × Graph × Bool) :=
  (jp (fun (s_2 : Bool) => (some (s_2, c_all_00, c_g_00, c_bound_00))) (fun k_1 => (if (decide (n_01 ≥ 0)) then (k_1 (decide (n_01 < c_g_00.Cells))) else (k_1 false))))
theorem ir_checker_cell_pNCN_ev {c_all_00 : (List Graph)} {c_g_00 : Graph} {c_bound_00 : Bool} {n_01 : Int} {r : (Bool × (List Graph) × Graph × Bool)} (h : ir_checker_cell_pNCN_s c_all_00 c_g_00 c_bound_00 n_01 = some r) : Ev Tryd.prog 84 [(.ptr 0 0 0), (.int .i64 n_01)] (hp [.arr 0 [(.sl false 8 (List.map Graph.av c_all_00)), (.cptr (Graph.av c_g_00).cells 0), (.bool c_bound_00)]]) (.bool r.1) (hp [.arr 0 [(.sl false 8 (List.map Graph.av r.2.1)), (.cptr (Graph.av r.2.2.1).cells 0), (.bool r.2.2.2)]]) := by
  unfold ir_checker_cell_pNCN_s at h
  refine Ev_end mixed fn84 (by simp) [] ?_
  unfold fc84
  refine E_sq ?_
  refine E_reg ?_
  refine E_mv (v' := (.bool false)) rfl ?_
  refine E_nil ?_
  refine E_nx ?_
  refine E_jp h (fun s_2 => [(4, (.bool s_2))]) (fun s_2 => [.arr 0 [(.sl false 8 (List.map Graph.av c_all_00)), (.cptr (Graph.av c_g_00).cells 0), (.bool c_bound_00)]]) (fun k_1 h => ?_) (fun s_2 h => ?_)
  · refine E_reg ?_
    refine E_mv (v' := (.int .i64 n_01)) rfl ?_
    refine E_op0 (v' := (.bool (decide (n_01 ≥ 0)))) rfl rfl ?_
    refine E_mv (v' := (.bool (decide (n_01 ≥ 0)))) rfl ?_
    refine E_gsT (b := (decide (n_01 ≥ 0))) rfl rfl rfl (fun hb => ?_) (fun hb => ?_)
    · rw [ite_t hb] at h
      refine E_mv (v' := (.int .i64 n_01)) rfl ?_
      refine E_gh rfl ?_
      refine E_mv (v' := (.ptr 0 0 0)) rfl ?_
      refine E_gh rfl ?_
      refine E_op0 (v' := (.ptr 0 0 0)) rfl rfl ?_
      refine E_gh rfl ?_
      refine E_op0 (v' := (.ptr 0 0 1)) rfl rfl ?_
      refine E_gh rfl ?_
      refine E_op (v' := (.cptr (Graph.av c_g_00).cells 0)) (S' := [.arr 0 [(.sl false 8 (List.map Graph.av c_all_00)), (.cptr (Graph.av c_g_00).cells 0), (.bool c_bound_00)]]) rfl rfl rfl ?_
      refine E_gh rfl ?_
      refine E_op0 (v' := (.cptr (Graph.av c_g_00).cells 0)) rfl rfl ?_
      refine E_gh rfl ?_
      refine E_op0 (v' := (.cptr (Graph.av c_g_00).cells 2)) rfl rfl ?_
      refine E_gh rfl ?_
      refine E_op0 (v' := (.int .i64 c_g_00.Cells)) rfl rfl ?_
      refine E_gh rfl ?_
      refine E_op0 (v' := (.bool (decide (n_01 < c_g_00.Cells)))) rfl rfl ?_
      refine E_pt rfl rfl ?_
      refine E_mv (v' := (.bool (decide (n_01 < c_g_00.Cells)))) rfl ?_
      refine E_nil ?_
      exact E_jx _ h (wk_rn [some (0, 0)] rfl (Nat.le_of_ble_eq_true rfl) ⟨(rn_obS rfl rfl (.cons (rn_b (Graph.enc.blws 0)) (.cons (rn_b (cp_blw (Graph.enc.blw _ 0))) (.cons (rn_b rfl) (.nil (Nat.zero_le _))))) rfl), trivial⟩ ⟨(rn_b rfl), trivial⟩)
    · rw [ite_f hb] at h
      refine E_gm rfl ?_
      refine E_gm rfl ?_
      refine E_gm rfl ?_
      refine E_gm rfl ?_
      refine E_gm rfl ?_
      refine E_gm rfl ?_
      refine E_gm rfl ?_
      refine E_gm rfl ?_
      refine E_pf rfl rfl ?_
      refine E_mv (v' := (.bool false)) rfl ?_
      refine E_nil ?_
      exact E_jx _ h (wk_rn [some (0, 0)] rfl (Nat.le_of_ble_eq_true rfl) ⟨(rn_obS rfl rfl (.cons (rn_b (Graph.enc.blws 0)) (.cons (rn_b (cp_blw (Graph.enc.blw _ 0))) (.cons (rn_b rfl) (.nil (Nat.zero_le _))))) rfl), trivial⟩ ⟨(rn_b rfl), trivial⟩)
  · refine E_ret ?_
    cases h
    exact ⟨trivial, _, _, rfl, gwk_rn [some (0, 0)] rfl (Nat.le_of_ble_eq_true rfl) ⟨(rn_obS rfl rfl (.cons (rn_b (Graph.enc.blws 0)) (.cons (rn_b (cp_blw (Graph.enc.blw _ 0))) (.cons (rn_b rfl) (.nil (Nat.zero_le _))))) rfl), trivial⟩, (rn_b rfl)⟩
/- slices.Index[[]int,int] -/
def fc74 : FC := (.seq (.reg [⟨(some 4), none, .op (.mv (.v (.int .i64 0)))⟩] [])
  (.seq (.seq (.reg [⟨(some 6), none, .op (.mv (.t 0))⟩,
  ⟨(some 7), none, .op (.len .sl (.t 6))⟩,
  ⟨(some 8), none, .op (.mv (.v (.int .i64 0)))⟩] [])
  (.block 0 (.loop (.seq (.reg [⟨(some 9), none, .op (.bin .none .lss (.t 8) (.t 7))⟩] [])
  (.seq (.cond (.t 9)
  .skip
  (.exit 0))
  (.seq (.block 1 (.seq (.reg [⟨(some 10), none, .op (.mv (.t 8))⟩,
  ⟨(some 5), none, .op (.mv (.t 10))⟩] [])
  (.seq (.reg [⟨(some 11), none, .op (.mv (.t 1))⟩,
  ⟨(some 12), none, .op (.mv (.t 0))⟩,
  ⟨(some 13), none, .op (.mv (.t 5))⟩,
  ⟨(some 14), none, .op (.iad none none (.t 12) (.t 13))⟩,
  ⟨(some 15), none, .op (.load none (.t 14))⟩,
  ⟨(some 16), none, .op (.bin .none .eql (.t 11) (.t 15))⟩] [])
  (.cond (.t 16)
  (.seq (.reg [⟨(some 17), none, .op (.mv (.t 5))⟩,
  ⟨(some 4), none, .op (.mv (.t 17))⟩] [])
  .ret)
  .skip))))
  (.reg [⟨(some 18), none, .op (.bin .none .add (.t 8) (.v (.int .i64 1)))⟩,
  ⟨(some 8), none, .op (.mv (.t 18))⟩] [])))))))
  (.seq (.reg [⟨(some 4), none, .op (.mv (.v (.int .i64 (-1))))⟩] [])
  .ret)))
theorem fn74 : Fn3 Tryd.prog 74 19 [(4, none)] fc74 := ⟨_, _, Tryd.func74, rfl, rfl, rfl, by kernel_rfl⟩
def slices_Index_s (s_00 : (List Int)) (v_01 : Int) : Option Int :=
  ((rni (fun (i_2 : Nat) (s_1 : Int) => (((getI s_00 (i_2 : Int)).bind fun y_3 => (if (s_1 == y_3) then (some (.ret (some (i_2 : Int)))) else (some (.nxt s_1)))) : Option (Stp Int (Option Int)))) (List.length s_00 : Int) v_01).bind (oc (fun (s_1 : Int) => (some (-1)))))
theorem slices_Index_ev {s_00 : (List Int)} {v_01 : Int} {r : Int} (h : slices_Index_s s_00 v_01 = some r) : PureEv Tryd.prog 74 [(.sl false 1 (List.map (avI .i64) s_00)), (.int .i64 v_01)] (.int .i64 r) := by
  unfold slices_Index_s at h
  refine PureEv_end mixed fn74 (by simp) [] 6 ?_
  unfold fc74
  refine E_sq ?_
  refine E_reg ?_
  refine E_mv (v' := (.int .i64 0)) rfl ?_
  refine E_nil ?_
  refine E_nx ?_
  refine E_as ?_
  refine E_sq ?_
  refine E_reg ?_
  refine E_mv (v' := (.sl false 1 (List.map (avI .i64) s_00))) rfl ?_
  refine E_len rfl ?_
  refine E_mv (v' := (.int .i64 0)) rfl ?_
  refine E_nil ?_
  refine E_nx ?_
  refine E_sq ?_
  refine E_rniO (fun s_1 => [(0, (.sl false 1 (List.map (avI .i64) s_00))), (1, (.int .i64 s_1))]) (fun s_1 => []) h (by decide) (by decide) (fun _ => ⟨rfl, rfl, rfl, rfl⟩) (wk_aw ⟨(.refl _), (.refl _), (.refl _), (.refl _), trivial⟩) (fun i_2 s_1 c hlt h => ?_) (fun s_1 fr' S' h hw => ?_)
  · refine E_sq ?_
    refine E_reg ?_
    refine E_mv (v' := (.int .i64 (i_2 : Int))) rfl ?_
    refine E_mv (v' := (.int .i64 (i_2 : Int))) rfl ?_
    refine E_nil ?_
    refine E_nx ?_
    refine E_sq ?_
    refine E_reg ?_
    refine E_mv (v' := (.int .i64 s_1)) rfl ?_
    refine E_mv (v' := (.sl false 1 (List.map (avI .i64) s_00))) rfl ?_
    refine E_mv (v' := (.int .i64 (i_2 : Int))) rfl ?_
    obtain ⟨y_3, hy_3, h⟩ := bd_some h
    refine E_iadF rfl rfl hy_3 ?_
    refine E_op0 (v' := (.int .i64 y_3)) rfl rfl ?_
    refine E_op0 (v' := (.bool (s_1 == y_3))) rfl rfl ?_
    refine E_nil ?_
    refine E_nx ?_
    refine E_cs (t := (s_1 == y_3)) rfl (fun hb => ?_) (fun hb => ?_)
    · rw [ite_t hb] at h
      refine E_sq ?_
      refine E_reg ?_
      refine E_mv (v' := (.int .i64 (i_2 : Int))) rfl ?_
      refine E_mv (v' := (.int .i64 (i_2 : Int))) rfl ?_
      refine E_nil ?_
      refine E_nx ?_
      refine E_ret ?_
      cases h
      refine L_rrO rfl (fun h => ?_)
      refine E_thr ?_
      cases h
      exact ⟨trivial, _, rfl, (fz_b rfl (.refl _))⟩
    · rw [ite_f hb] at h
      refine E_skip ?_
      cases h
      exact L_nn rfl (wk_aw ⟨(.refl _), (.refl _), (.refl _), (.refl _), trivial⟩)
  · refine X_nx hw ?_
    refine E_sq ?_
    refine E_reg ?_
    refine E_mv (v' := (.int .i64 (-1))) rfl ?_
    refine E_nil ?_
    refine E_nx ?_
    refine E_ret ?_
    cases h
    exact ⟨trivial, _, rfl, (fz_b rfl (.refl _))⟩
/- slices.Contains[[]int,int] -/
def fc48 : FC := (.seq (.reg [⟨(some 4), none, .op (.mv (.v (.bool false)))⟩] [])
  (.seq (.reg [⟨(some 5), none, .op (.mv (.t 0))⟩,
  ⟨(some 6), none, .op (.mv (.t 1))⟩,
  ⟨(some 7), none, .call 74 [(.t 5), (.t 6)]⟩,
  ⟨(some 8), none, .op (.bin .none .geq (.t 7) (.v (.int .i64 0)))⟩,
  ⟨(some 4), none, .op (.mv (.t 8))⟩] [])
  .ret))
theorem fn48 : Fn3 Tryd.prog 48 9 [(4, none)] fc48 := ⟨_, _, Tryd.func48, rfl, rfl, rfl, by kernel_rfl⟩
def slices_Contains_s (s_00 : (List Int)) (v_01 : Int) : Option Bool :=
  ((slices_Index_s s_00 v_01).bind fun ind_1 => (some (decide (ind_1 ≥ 0))))
theorem slices_Contains_ev {s_00 : (List Int)} {v_01 : Int} {r : Bool} (h : slices_Contains_s s_00 v_01 = some r) : PureEv Tryd.prog 48 [(.sl false 1 (List.map (avI .i64) s_00)), (.int .i64 v_01)] (.bool r) := by
  unfold slices_Contains_s at h
  refine PureEv_end mixed fn48 (by simp) [] 6 ?_
  unfold fc48
  refine E_sq ?_
  refine E_reg ?_
  refine E_mv (v' := (.bool false)) rfl ?_
  refine E_nil ?_
  refine E_nx ?_
  refine E_sq ?_
  refine E_reg ?_
  refine E_mv (v' := (.sl false 1 (List.map (avI .i64) s_00))) rfl ?_
  refine E_mv (v' := (.int .i64 v_01)) rfl ?_
  obtain ⟨ind_1, hind_1, h⟩ := bd_some h
  refine E_callW (slices_Index_ev  hind_1) rfl ⟨(.refl _), (.refl _), trivial⟩ (blwL_of ⟨((encI .i64).blws 0), rfl, trivial⟩) rfl ?_
  refine E_op0 (v' := (.bool (decide (ind_1 ≥ 0)))) rfl rfl ?_
  refine E_mv (v' := (.bool (decide (ind_1 ≥ 0)))) rfl ?_
  refine E_nil ?_
  refine E_nx ?_
  refine E_ret ?_
  cases h
  exact ⟨trivial, _, rfl, (fz_b rfl (.refl _))⟩
/- (*windlass/ir.checker).is -/
def fc85 : FC := (.seq (.reg [⟨(some 6), none, .op (.mv (.v (.bool false)))⟩] [])
  (.seq (.seq (.reg [⟨(some 9), none, .op (.mv (.t 2))⟩,
  ⟨(some 10), none, .op (.len .sl (.t 9))⟩,
  ⟨(some 11), none, .op (.mv (.v (.int .i64 0)))⟩] [])
  (.block 0 (.loop (.seq (.reg [⟨(some 12), none, .op (.bin .none .lss (.t 11) (.t 10))⟩] [])
  (.seq (.cond (.t 12)
  .skip
  (.exit 0))
  (.seq (.block 1 (.seq (.reg [⟨(some 13), none, .op (.iad none none (.t 9) (.t 11))⟩,
  ⟨(some 14), none, .op (.load none (.t 13))⟩,
  ⟨(some 8), none, .op (.mv (.t 14))⟩] [])
  (.seq (.reg [⟨(some 15), none, .op (.mv (.t 8))⟩,
  ⟨(some 16), none, .op (.bin .none .lss (.t 15) (.v (.int .i64 0)))⟩,
  ⟨(some 17), none, .op (.mv (.t 16))⟩,
  ⟨(some 18), some (17, false), .op (.mv (.t 8))⟩,
  ⟨(some 19), some (17, false), .op (.mv (.t 0))⟩,
  ⟨(some 20), some (17, false), .op (.nchk (.t 19))⟩,
  ⟨(some 21), some (17, false), .op (.fad 1 (.t 20))⟩,
  ⟨(some 22), some (17, false), .op (.load none (.t 21))⟩,
  ⟨(some 23), some (17, false), .op (.nchk (.t 22))⟩,
  ⟨(some 24), some (17, false), .op (.fad 1 (.t 23))⟩,
  ⟨(some 25), some (17, false), .op (.load none (.t 24))⟩,
  ⟨(some 26), some (17, false), .op (.len .sl (.t 25))⟩,
  ⟨(some 27), some (17, false), .op (.bin .none .geq (.t 18) (.t 26))⟩,
  ⟨(some 28), none, .op (.pick (.t 17) (.v (.bool true)) (.t 27))⟩,
  ⟨(some 29), none, .op (.mv (.t 28))⟩,
  ⟨(some 30), some (29, false), .op (.mv (.t 0))⟩,
  ⟨(some 31), some (29, false), .op (.nchk (.t 30))⟩,
  ⟨(some 32), some (29, false), .op (.fad 2 (.t 31))⟩,
  ⟨(some 33), some (29, false), .op (.load none (.t 32))⟩,
  ⟨(some 34), some (29, false), .op (.un .not (.t 33))⟩,
  ⟨(some 35), some (29, false), .op (.mv (.t 34))⟩,
  ⟨(some 36), some (35, true), .op (.mv (.t 0))⟩,
  ⟨(some 37), some (35, true), .op (.nchk (.t 36))⟩,
  ⟨(some 38), some (35, true), .op (.fad 1 (.t 37))⟩,
  ⟨(some 39), some (35, true), .op (.load none (.t 38))⟩,
  ⟨(some 40), some (35, true), .op (.nchk (.t 39))⟩,
  ⟨(some 41), some (35, true), .op (.fad 1 (.t 40))⟩,
  ⟨(some 42), some (35, true), .op (.load none (.t 41))⟩,
  ⟨(some 43), some (35, true), .op (.mv (.t 8))⟩,
  ⟨(some 44), some (35, true), .op (.iad none none (.t 42) (.t 43))⟩,
  ⟨(some 45), some (35, true), .op (.load none (.t 44))⟩,
  ⟨(some 46), some (35, true), .op (.mv (.t 1))⟩,
  ⟨(some 47), some (35, true), .op (.bin .none .neq (.t 45) (.t 46))⟩,
  ⟨(some 48), some (29, false), .op (.pick (.t 35) (.t 47) (.v (.bool false)))⟩,
  ⟨(some 49), none, .op (.pick (.t 29) (.v (.bool true)) (.t 48))⟩] [])
  (.cond (.t 49)
  (.seq (.reg [⟨(some 6), none, .op (.mv (.v (.bool false)))⟩] [])
  .ret)
  .skip))))
  (.reg [⟨(some 50), none, .op (.bin .none .add (.t 11) (.v (.int .i64 1)))⟩,
  ⟨(some 11), none, .op (.mv (.t 50))⟩] [])))))))
  (.seq (.reg [⟨(some 6), none, .op (.mv (.v (.bool true)))⟩] [])
  .ret)))
theorem fn85 : Fn3 Tryd.prog 85 51 [(6, none)] fc85 := ⟨_, _, Tryd.func85, rfl, rfl, rfl, by kernel_rfl⟩
def ir_checker_is_pNCN_s (c_all_00 : (List Graph)) (c_g_00 : Graph) (c_bound_00 : Bool) (k_01 : Int) (places_02 : (List Int)) : Option (Bool × (List Graph) × Graph × Bool) :=
  ((rng (fun (i_2 : Nat) (p_3 : Int) (s_1 : (Int × (List Int))) => (((getI s_1.2 (i_2 : Int)).bind fun y_5 => (jp (fun (s_7 : Bool) => (if s_7 then (some (.ret (some (false, c_all_00, c_g_00, c_bound_00)))) else (some (.nxt (s_1.1, s_1.2))))) (fun k_6 => (if (decide (y_5 < 0)) then (k_6 true) else (if (decide (y_5 ≥ (List.length c_g_00.Kinds : Int))) then (k_6 true) else (if (!c_bound_00) then ((getI c_g_00.Kinds y_5).bind fun y_8 => (k_6 (y_8 != s_1.1))) else (k_6 false))))))) : Option (Stp (Int × (List Int)) (Option (Bool × (List Graph) × Graph × Bool))))) places_02 (k_01, places_02)).bind (oc (fun (s_1 : (Int × (List Int))) => (some (true, c_all_00, c_g_00, c_bound_00)))))
theorem ir_checker_is_pNCN_ev {c_all_00 : (List Graph)} {c_g_00 : Graph} {c_bound_00 : Bool} {k_01 : Int} {places_02 : (List Int)} {r : (Bool × (List Graph) × Graph × Bool)} (h : ir_checker_is_pNCN_s c_all_00 c_g_00 c_bound_00 k_01 places_02 = some r) : Ev Tryd.prog 85 [(.ptr 0 0 0), (.int .u8 k_01), (.sl false 1 (List.map (avI .i64) places_02))] (hp [.arr 0 [(.sl false 8 (List.map Graph.av c_all_00)), (.cptr (Graph.av c_g_00).cells 0), (.bool c_bound_00)]]) (.bool r.1) (hp [.arr 0 [(.sl false 8 (List.map Graph.av r.2.1)), (.cptr (Graph.av r.2.2.1).cells 0), (.bool r.2.2.2)]]) := by
  unfold ir_checker_is_pNCN_s at h
  refine Ev_end mixed fn85 (by simp) [] ?_
  unfold fc85
  refine E_sq ?_
  refine E_reg ?_
  refine E_mv (v' := (.bool false)) rfl ?_
  refine E_nil ?_
  refine E_nx ?_
  refine E_as ?_
  refine E_sq ?_
  refine E_reg ?_
  refine E_mv (v' := (.sl false 1 (List.map (avI .i64) places_02))) rfl ?_
  refine E_len rfl ?_
  refine E_mv (v' := (.int .i64 0)) rfl ?_
  refine E_nil ?_
  refine E_nx ?_
  refine E_sq ?_
  refine E_rngO (fun s_1 => [(0, (.ptr 0 0 0)), (1, (.int .u8 s_1.1)), (9, (.sl false 1 (List.map (avI .i64) s_1.2)))]) (fun s_1 => [.arr 0 [(.sl false 8 (List.map Graph.av c_all_00)), (.cptr (Graph.av c_g_00).cells 0), (.bool c_bound_00)]]) h (by decide) (by decide) (fun _ => ⟨rfl, rfl, rfl, rfl⟩) (wk_rn [some (0, 0)] rfl (Nat.le_of_ble_eq_true rfl) ⟨(rn_obS rfl rfl (.cons (rn_b (Graph.enc.blws 0)) (.cons (rn_b (cp_blw (Graph.enc.blw _ 0))) (.cons (rn_b rfl) (.nil (Nat.zero_le _))))) rfl), trivial⟩ ⟨(rn_b rfl), (rn_b rfl), (rn_ptr rfl rfl rfl rfl), (rn_b rfl), (rn_b ((encI .i64).blws 0)), trivial⟩) (fun i_2 p_3 s_1 c hx_4 hlt h => ?_) (fun s_1 fr' S' h hw => ?_)
  · refine E_sq ?_
    refine E_reg ?_
    obtain ⟨y_5, hy_5, h⟩ := bd_some h
    refine E_iadF rfl rfl hy_5 ?_
    refine E_op0 (v' := (.int .i64 y_5)) rfl rfl ?_
    refine E_mv (v' := (.int .i64 y_5)) rfl ?_
    refine E_nil ?_
    refine E_nx ?_
    refine E_jp h (fun s_7 => [(0, (.ptr 0 0 0)), (1, (.int .u8 s_1.1)), (9, (.sl false 1 (List.map (avI .i64) s_1.2))), (10, (.int .i64 (List.length places_02 : Int))), (11, (.int .i64 (i_2 : Int))), (49, (.bool s_7))]) (fun s_7 => [.arr 0 [(.sl false 8 (List.map Graph.av c_all_00)), (.cptr (Graph.av c_g_00).cells 0), (.bool c_bound_00)]]) (fun k_6 h => ?_) (fun s_7 h => ?_)
    · refine E_reg ?_
      refine E_mv (v' := (.int .i64 y_5)) rfl ?_
      refine E_op0 (v' := (.bool (decide (y_5 < 0)))) rfl rfl ?_
      refine E_mv (v' := (.bool (decide (y_5 < 0)))) rfl ?_
      refine E_gsT (b := (decide (y_5 < 0))) rfl rfl rfl (fun hb => ?_) (fun hb => ?_)
      · rw [ite_f hb] at h
        refine E_mv (v' := (.int .i64 y_5)) rfl ?_
        refine E_gh rfl ?_
        refine E_mv (v' := (.ptr 0 0 0)) rfl ?_
        refine E_gh rfl ?_
        refine E_op0 (v' := (.ptr 0 0 0)) rfl rfl ?_
        refine E_gh rfl ?_
        refine E_op0 (v' := (.ptr 0 0 1)) rfl rfl ?_
        refine E_gh rfl ?_
        refine E_op (v' := (.cptr (Graph.av c_g_00).cells 0)) (S' := [.arr 0 [(.sl false 8 (List.map Graph.av c_all_00)), (.cptr (Graph.av c_g_00).cells 0), (.bool c_bound_00)]]) rfl rfl rfl ?_
        refine E_gh rfl ?_
        refine E_op0 (v' := (.cptr (Graph.av c_g_00).cells 0)) rfl rfl ?_
        refine E_gh rfl ?_
        refine E_op0 (v' := (.cptr (Graph.av c_g_00).cells 1)) rfl rfl ?_
        refine E_gh rfl ?_
        refine E_op0 (v' := (.sl false 1 (List.map (avI .u8) c_g_00.Kinds))) rfl rfl ?_
        refine E_gh rfl ?_
        refine E_len rfl ?_
        refine E_gh rfl ?_
        refine E_op0 (v' := (.bool (decide (y_5 ≥ (List.length c_g_00.Kinds : Int))))) rfl rfl ?_
        refine E_pf rfl rfl ?_
        refine E_mv (v' := (.bool (decide (y_5 ≥ (List.length c_g_00.Kinds : Int))))) rfl ?_
        refine E_gsT (b := (decide (y_5 ≥ (List.length c_g_00.Kinds : Int)))) rfl rfl rfl (fun hb => ?_) (fun hb => ?_)
        · rw [ite_f hb] at h
          refine E_mv (v' := (.ptr 0 0 0)) rfl ?_
          refine E_gh rfl ?_
          refine E_op0 (v' := (.ptr 0 0 0)) rfl rfl ?_
          refine E_gh rfl ?_
          refine E_op0 (v' := (.ptr 0 0 2)) rfl rfl ?_
          refine E_gh rfl ?_
          refine E_op (v' := (.bool c_bound_00)) (S' := [.arr 0 [(.sl false 8 (List.map Graph.av c_all_00)), (.cptr (Graph.av c_g_00).cells 0), (.bool c_bound_00)]]) rfl rfl rfl ?_
          refine E_gh rfl ?_
          refine E_op0 (v' := (.bool (!c_bound_00))) rfl rfl ?_
          refine E_gh rfl ?_
          refine E_mv (v' := (.bool (!c_bound_00))) rfl ?_
          refine E_gsT (b := (!c_bound_00)) rfl rfl rfl (fun hb => ?_) (fun hb => ?_)
          · rw [ite_t hb] at h
            refine E_mv (v' := (.ptr 0 0 0)) rfl ?_
            refine E_gh rfl ?_
            refine E_op0 (v' := (.ptr 0 0 0)) rfl rfl ?_
            refine E_gh rfl ?_
            refine E_op0 (v' := (.ptr 0 0 1)) rfl rfl ?_
            refine E_gh rfl ?_
            refine E_op (v' := (.cptr (Graph.av c_g_00).cells 0)) (S' := [.arr 0 [(.sl false 8 (List.map Graph.av c_all_00)), (.cptr (Graph.av c_g_00).cells 0), (.bool c_bound_00)]]) rfl rfl rfl ?_
            refine E_gh rfl ?_
            refine E_op0 (v' := (.cptr (Graph.av c_g_00).cells 0)) rfl rfl ?_
            refine E_gh rfl ?_
            refine E_op0 (v' := (.cptr (Graph.av c_g_00).cells 1)) rfl rfl ?_
            refine E_gh rfl ?_
            refine E_op0 (v' := (.sl false 1 (List.map (avI .u8) c_g_00.Kinds))) rfl rfl ?_
            refine E_gh rfl ?_
            refine E_mv (v' := (.int .i64 y_5)) rfl ?_
            refine E_gh rfl ?_
            obtain ⟨y_8, hy_8, h⟩ := bd_some h
            refine E_iadF rfl rfl hy_8 ?_
            refine E_gh rfl ?_
            refine E_op0 (v' := (.int .u8 y_8)) rfl rfl ?_
            refine E_gh rfl ?_
            refine E_mv (v' := (.int .u8 s_1.1)) rfl ?_
            refine E_gh rfl ?_
            refine E_op0 (v' := (.bool (y_8 != s_1.1))) rfl rfl ?_
            refine E_gh rfl ?_
            refine E_pt rfl rfl ?_
            refine E_pf rfl rfl ?_
            refine E_nil ?_
            exact E_jx _ h (wk_rn [some (0, 0)] rfl (Nat.le_of_ble_eq_true rfl) ⟨(rn_obS rfl rfl (.cons (rn_b (Graph.enc.blws 0)) (.cons (rn_b (cp_blw (Graph.enc.blw _ 0))) (.cons (rn_b rfl) (.nil (Nat.zero_le _))))) rfl), trivial⟩ ⟨(rn_ptr rfl rfl rfl rfl), (rn_b rfl), (rn_b ((encI .i64).blws 0)), (rn_b rfl), (rn_b rfl), (rn_b rfl), trivial⟩)
          · rw [ite_f hb] at h
            refine E_gm rfl ?_
            refine E_gm rfl ?_
            refine E_gm rfl ?_
            refine E_gm rfl ?_
            refine E_gm rfl ?_
            refine E_gm rfl ?_
            refine E_gm rfl ?_
            refine E_gm rfl ?_
            refine E_gm rfl ?_
            refine E_gm rfl ?_
            refine E_gm rfl ?_
            refine E_gh rfl ?_
            refine E_pf rfl rfl ?_
            refine E_pf rfl rfl ?_
            refine E_nil ?_
            exact E_jx _ h (wk_rn [some (0, 0)] rfl (Nat.le_of_ble_eq_true rfl) ⟨(rn_obS rfl rfl (.cons (rn_b (Graph.enc.blws 0)) (.cons (rn_b (cp_blw (Graph.enc.blw _ 0))) (.cons (rn_b rfl) (.nil (Nat.zero_le _))))) rfl), trivial⟩ ⟨(rn_ptr rfl rfl rfl rfl), (rn_b rfl), (rn_b ((encI .i64).blws 0)), (rn_b rfl), (rn_b rfl), (rn_b rfl), trivial⟩)
        · rw [ite_t hb] at h
          refine E_gm rfl ?_
          refine E_gm rfl ?_
          refine E_gm rfl ?_
          refine E_gm rfl ?_
          refine E_gm rfl ?_
          refine E_gz rfl ?_
          refine E_gz rfl ?_
          refine E_gz rfl ?_
          refine E_gz rfl ?_
          refine E_gz rfl ?_
          refine E_gz rfl ?_
          refine E_gz rfl ?_
          refine E_gz rfl ?_
          refine E_gz rfl ?_
          refine E_gz rfl ?_
          refine E_gz rfl ?_
          refine E_gz rfl ?_
          refine E_gm rfl ?_
          refine E_pt rfl rfl ?_
          refine E_nil ?_
          exact E_jx _ h (wk_rn [some (0, 0)] rfl (Nat.le_of_ble_eq_true rfl) ⟨(rn_obS rfl rfl (.cons (rn_b (Graph.enc.blws 0)) (.cons (rn_b (cp_blw (Graph.enc.blw _ 0))) (.cons (rn_b rfl) (.nil (Nat.zero_le _))))) rfl), trivial⟩ ⟨(rn_ptr rfl rfl rfl rfl), (rn_b rfl), (rn_b ((encI .i64).blws 0)), (rn_b rfl), (rn_b rfl), (rn_b rfl), trivial⟩)
      · rw [ite_t hb] at h
        refine E_gm rfl ?_
        refine E_gm rfl ?_
        refine E_gm rfl ?_
        refine E_gm rfl ?_
        refine E_gm rfl ?_
        refine E_gm rfl ?_
        refine E_gm rfl ?_
        refine E_gm rfl ?_
        refine E_gm rfl ?_
        refine E_pt rfl rfl ?_
        refine E_mv (v' := (.bool true)) rfl ?_
        refine E_gm rfl ?_
        refine E_gm rfl ?_
        refine E_gm rfl ?_
        refine E_gm rfl ?_
        refine E_gm rfl ?_
        refine E_gm rfl ?_
        refine E_gz rfl ?_
        refine E_gz rfl ?_
        refine E_gz rfl ?_
        refine E_gz rfl ?_
        refine E_gz rfl ?_
        refine E_gz rfl ?_
        refine E_gz rfl ?_
        refine E_gz rfl ?_
        refine E_gz rfl ?_
        refine E_gz rfl ?_
        refine E_gz rfl ?_
        refine E_gz rfl ?_
        refine E_gm rfl ?_
        refine E_pt rfl rfl ?_
        refine E_nil ?_
        exact E_jx _ h (wk_rn [some (0, 0)] rfl (Nat.le_of_ble_eq_true rfl) ⟨(rn_obS rfl rfl (.cons (rn_b (Graph.enc.blws 0)) (.cons (rn_b (cp_blw (Graph.enc.blw _ 0))) (.cons (rn_b rfl) (.nil (Nat.zero_le _))))) rfl), trivial⟩ ⟨(rn_ptr rfl rfl rfl rfl), (rn_b rfl), (rn_b ((encI .i64).blws 0)), (rn_b rfl), (rn_b rfl), (rn_b rfl), trivial⟩)
    · refine E_cs (t := s_7) rfl (fun hb => ?_) (fun hb => ?_)
      · rw [ite_t hb] at h
        refine E_sq ?_
        refine E_reg ?_
        refine E_mv (v' := (.bool false)) rfl ?_
        refine E_nil ?_
        refine E_nx ?_
        refine E_ret ?_
        cases h
        refine L_rrO rfl (fun h => ?_)
        refine E_thr ?_
        cases h
        exact ⟨trivial, _, _, rfl, gwk_rn [some (0, 0)] rfl (Nat.le_of_ble_eq_true rfl) ⟨(rn_obS rfl rfl (.cons (rn_b (Graph.enc.blws 0)) (.cons (rn_b (cp_blw (Graph.enc.blw _ 0))) (.cons (rn_b rfl) (.nil (Nat.zero_le _))))) rfl), trivial⟩, (rn_b rfl)⟩
      · rw [ite_f hb] at h
        refine E_skip ?_
        cases h
        exact L_nn rfl (wk_rn [some (0, 0)] rfl (Nat.le_of_ble_eq_true rfl) ⟨(rn_obS rfl rfl (.cons (rn_b (Graph.enc.blws 0)) (.cons (rn_b (cp_blw (Graph.enc.blw _ 0))) (.cons (rn_b rfl) (.nil (Nat.zero_le _))))) rfl), trivial⟩ ⟨(rn_b rfl), (rn_b rfl), (rn_ptr rfl rfl rfl rfl), (rn_b rfl), (rn_b ((encI .i64).blws 0)), trivial⟩)
  · refine X_nx hw ?_
    refine E_sq ?_
    refine E_reg ?_
    refine E_mv (v' := (.bool true)) rfl ?_
    refine E_nil ?_
    refine E_nx ?_
    refine E_ret ?_
    cases h
    exact ⟨trivial, _, _, rfl, gwk_rn [some (0, 0)] rfl (Nat.le_of_ble_eq_true rfl) ⟨(rn_obS rfl rfl (.cons (rn_b (Graph.enc.blws 0)) (.cons (rn_b (cp_blw (Graph.enc.blw _ 0))) (.cons (rn_b rfl) (.nil (Nat.zero_le _))))) rfl), trivial⟩, (rn_b rfl)⟩
/- (*windlass/ir.checker).head -/
def fc76 : FC := (.seq (.reg [⟨(some 2), none, .op (.mv (.v (.bool false)))⟩] [])
  (.seq (.reg [⟨(some 7), none, .op (.mv (.t 0))⟩,
  ⟨(some 8), none, .op (.nchk (.t 7))⟩,
  ⟨(some 9), none, .op (.fad 1 (.t 8))⟩,
  ⟨(some 10), none, .op (.load none (.t 9))⟩,
  ⟨(some 3), none, .op (.mv (.t 10))⟩] [])
  (.seq (.seq (.reg [⟨(some 11), none, .op (.mv (.t 3))⟩,
  ⟨(some 12), none, .op (.nchk (.t 11))⟩,
  ⟨(some 13), none, .op (.fad 1 (.t 12))⟩,
  ⟨(some 14), none, .op (.load none (.t 13))⟩,
  ⟨(some 15), none, .op (.len .sl (.t 14))⟩,
  ⟨(some 16), none, .op (.bin .none .gtr (.t 15) (.v (.int .i64 1024)))⟩,
  ⟨(some 17), none, .op (.mv (.t 16))⟩,
  ⟨(some 18), some (17, false), .op (.mv (.t 0))⟩,
  ⟨(some 19), some (17, false), .op (.nchk (.t 18))⟩,
  ⟨(some 20), some (17, false), .op (.fad 2 (.t 19))⟩,
  ⟨(some 21), some (17, false), .op (.load none (.t 20))⟩,
  ⟨(some 22), some (17, false), .op (.mv (.t 21))⟩,
  ⟨(some 23), some (22, true), .op (.mv (.t 3))⟩,
  ⟨(some 24), some (22, true), .op (.nchk (.t 23))⟩,
  ⟨(some 25), some (22, true), .op (.fad 1 (.t 24))⟩,
  ⟨(some 26), some (22, true), .op (.load none (.t 25))⟩,
  ⟨(some 27), some (22, true), .op (.len .sl (.t 26))⟩,
  ⟨(some 28), some (22, true), .op (.bin .none .lss (.t 27) (.v (.int .i64 16)))⟩,
  ⟨(some 29), some (17, false), .op (.pick (.t 22) (.t 28) (.v (.bool false)))⟩,
  ⟨(some 30), none, .op (.pick (.t 17) (.v (.bool true)) (.t 29))⟩,
  ⟨(some 31), none, .op (.mv (.t 30))⟩,
  ⟨(some 32), some (31, false), .op (.mv (.t 3))⟩,
  ⟨(some 33), some (31, false), .op (.nchk (.t 32))⟩,
  ⟨(some 34), some (31, false), .op (.fad 1 (.t 33))⟩,
  ⟨(some 35), some (31, false), .op (.load none (.t 34))⟩,
  ⟨(some 36), some (31, false), .call 82 [(.t 35), (.v (.fn (.func 83) [] []))]⟩,
  ⟨(some 37), none, .op (.pick (.t 31) (.v (.bool true)) (.t 36))⟩] [])
  (.cond (.t 37)
  (.seq (.reg [⟨(some 2), none, .op (.mv (.v (.bool false)))⟩] [])
  .ret)
  .skip))
  (.seq (.seq (.reg [⟨(some 38), none, .op (.mv (.t 3))⟩,
  ⟨(some 39), none, .op (.nchk (.t 38))⟩,
  ⟨(some 40), none, .op (.fad 0 (.t 39))⟩,
  ⟨(some 41), none, .op (.load none (.t 40))⟩,
  ⟨(some 42), none, .op (.len .sl (.t 41))⟩,
  ⟨(some 43), none, .op (.bin .none .gtr (.t 42) (.v (.int .i64 4)))⟩,
  ⟨(some 44), none, .op (.mv (.t 43))⟩,
  ⟨(some 45), some (44, false), .op (.mv (.t 3))⟩,
  ⟨(some 46), some (44, false), .op (.nchk (.t 45))⟩,
  ⟨(some 47), some (44, false), .op (.fad 3 (.t 46))⟩,
  ⟨(some 48), some (44, false), .op (.load none (.t 47))⟩,
  ⟨(some 49), some (44, false), .op (.len .sl (.t 48))⟩,
  ⟨(some 50), some (44, false), .op (.mv (.t 3))⟩,
  ⟨(some 51), some (44, false), .op (.nchk (.t 50))⟩,
  ⟨(some 52), some (44, false), .op (.fad 0 (.t 51))⟩,
  ⟨(some 53), some (44, false), .op (.load none (.t 52))⟩,
  ⟨(some 54), some (44, false), .op (.len .sl (.t 53))⟩,
  ⟨(some 55), some (44, false), .op (.bin .none .neq (.t 49) (.t 54))⟩,
  ⟨(some 56), none, .op (.pick (.t 44) (.v (.bool true)) (.t 55))⟩,
  ⟨(some 57), none, .op (.mv (.t 56))⟩,
  ⟨(some 58), some (57, false), .op (.mv (.t 3))⟩,
  ⟨(some 59), some (57, false), .op (.nchk (.t 58))⟩,
  ⟨(some 60), some (57, false), .op (.fad 2 (.t 59))⟩,
  ⟨(some 61), some (57, false), .op (.load none (.t 60))⟩,
  ⟨(some 62), some (57, false), .op (.bin .none .lss (.t 61) (.v (.int .i64 0)))⟩,
  ⟨(some 63), none, .op (.pick (.t 57) (.v (.bool true)) (.t 62))⟩,
  ⟨(some 64), none, .op (.mv (.t 63))⟩,
  ⟨(some 65), some (64, false), .op (.mv (.t 3))⟩,
  ⟨(some 66), some (64, false), .op (.nchk (.t 65))⟩,
  ⟨(some 67), some (64, false), .op (.fad 2 (.t 66))⟩,
  ⟨(some 68), some (64, false), .op (.load none (.t 67))⟩,
  ⟨(some 69), some (64, false), .op (.bin .none .gtr (.t 68) (.v (.int .i64 64)))⟩,
  ⟨(some 70), none, .op (.pick (.t 64) (.v (.bool true)) (.t 69))⟩,
  ⟨(some 71), none, .op (.mv (.t 70))⟩,
  ⟨(some 72), some (71, false), .op (.mv (.t 3))⟩,
  ⟨(some 73), some (71, false), .op (.nchk (.t 72))⟩,
  ⟨(some 74), some (71, false), .op (.fad 5 (.t 73))⟩,
  ⟨(some 75), some (71, false), .op (.load none (.t 74))⟩,
  ⟨(some 76), some (71, false), .op (.bin .none .neq (.t 75) (.v (.int .i64 (-1))))⟩,
  ⟨(some 77), some (71, false), .op (.mv (.t 76))⟩,
  ⟨(some 78), some (77, true), .op (.mv (.t 0))⟩,
  ⟨(some 79), some (77, true), .op (.mv (.t 3))⟩,
  ⟨(some 80), some (77, true), .op (.nchk (.t 79))⟩,
  ⟨(some 81), some (77, true), .op (.fad 5 (.t 80))⟩,
  ⟨(some 82), some (77, true), .op (.load none (.t 81))⟩,
  ⟨(some 83), some (77, true), .call 84 [(.t 78), (.t 82)]⟩,
  ⟨(some 84), some (77, true), .op (.un .not (.t 83))⟩,
  ⟨(some 85), some (71, false), .op (.pick (.t 77) (.t 84) (.v (.bool false)))⟩,
  ⟨(some 86), none, .op (.pick (.t 71) (.v (.bool true)) (.t 85))⟩] [])
  (.cond (.t 86)
  (.seq (.reg [⟨(some 2), none, .op (.mv (.v (.bool false)))⟩] [])
  .ret)
  .skip))
  (.seq (.seq (.reg [⟨(some 87), none, .op (.mv (.t 3))⟩,
  ⟨(some 88), none, .op (.nchk (.t 87))⟩,
  ⟨(some 89), none, .op (.fad 0 (.t 88))⟩,
  ⟨(some 90), none, .op (.load none (.t 89))⟩,
  ⟨(some 91), none, .op (.len .sl (.t 90))⟩,
  ⟨(some 92), none, .op (.mv (.v (.int .i64 0)))⟩] [])
  (.block 0 (.loop (.seq (.reg [⟨(some 93), none, .op (.bin .none .lss (.t 92) (.t 91))⟩] [])
  (.seq (.cond (.t 93)
  .skip
  (.exit 0))
  (.seq (.block 1 (.seq (.reg [⟨(some 94), none, .op (.mv (.t 92))⟩,
  ⟨(some 95), none, .op (.iad none none (.t 90) (.t 92))⟩,
  ⟨(some 96), none, .op (.load none (.t 95))⟩,
  ⟨(some 4), none, .op (.mv (.t 94))⟩,
  ⟨(some 5), none, .op (.mv (.t 96))⟩] [])
  (.seq (.seq (.reg [⟨(some 97), none, .op (.mv (.t 5))⟩,
  ⟨(some 98), none, .op (.bin .none .lss (.t 97) (.v (.int .i64 0)))⟩,
  ⟨(some 99), none, .op (.mv (.t 98))⟩,
  ⟨(some 100), some (99, false), .op (.mv (.t 5))⟩,
  ⟨(some 101), some (99, false), .op (.mv (.t 3))⟩,
  ⟨(some 102), some (99, false), .op (.nchk (.t 101))⟩,
  ⟨(some 103), some (99, false), .op (.fad 1 (.t 102))⟩,
  ⟨(some 104), some (99, false), .op (.load none (.t 103))⟩,
  ⟨(some 105), some (99, false), .op (.len .sl (.t 104))⟩,
  ⟨(some 106), some (99, false), .op (.bin .none .geq (.t 100) (.t 105))⟩,
  ⟨(some 107), none, .op (.pick (.t 99) (.v (.bool true)) (.t 106))⟩,
  ⟨(some 108), none, .op (.mv (.t 107))⟩,
  ⟨(some 109), some (108, false), .op (.mv (.t 3))⟩,
  ⟨(some 110), some (108, false), .op (.nchk (.t 109))⟩,
  ⟨(some 111), some (108, false), .op (.fad 0 (.t 110))⟩,
  ⟨(some 112), some (108, false), .op (.load none (.t 111))⟩,
  ⟨(some 113), some (108, false), .op (.mv (.t 4))⟩,
  ⟨(some 114), some (108, false), .op (.slc none (.t 112) none (some (.t 113)) none)⟩,
  ⟨(some 115), some (108, false), .op (.mv (.t 5))⟩,
  ⟨(some 116), some (108, false), .call 48 [(.t 114), (.t 115)]⟩,
  ⟨(some 117), none, .op (.pick (.t 108) (.v (.bool true)) (.t 116))⟩,
  ⟨(some 118), none, .op (.mv (.t 117))⟩,
  ⟨(some 119), some (118, false), .op (.mv (.t 0))⟩,
  ⟨(some 120), some (118, false), .op (.nchk (.t 119))⟩,
  ⟨(some 121), some (118, false), .op (.fad 2 (.t 120))⟩,
  ⟨(some 122), some (118, false), .op (.load none (.t 121))⟩,
  ⟨(some 123), some (118, false), .op (.mv (.t 122))⟩,
  ⟨(some 124), some (123, true), .op (.mv (.t 5))⟩,
  ⟨(some 125), some (123, true), .op (.mv (.t 4))⟩,
  ⟨(some 126), some (123, true), .op (.bin .none .neq (.t 124) (.t 125))⟩,
  ⟨(some 127), some (118, false), .op (.pick (.t 123) (.t 126) (.v (.bool false)))⟩,
  ⟨(some 128), none, .op (.pick (.t 118) (.v (.bool true)) (.t 127))⟩] [])
  (.cond (.t 128)
  (.seq (.reg [⟨(some 2), none, .op (.mv (.v (.bool false)))⟩] [])
  .ret)
  .skip))
  (.seq (.reg [⟨(some 129), none, .op (.mv (.t 3))⟩,
  ⟨(some 130), none, .op (.nchk (.t 129))⟩,
  ⟨(some 131), none, .op (.fad 3 (.t 130))⟩,
  ⟨(some 132), none, .op (.load none (.t 131))⟩,
  ⟨(some 133), none, .op (.mv (.t 4))⟩,
  ⟨(some 134), none, .op (.iad none none (.t 132) (.t 133))⟩,
  ⟨(some 135), none, .op (.load none (.t 134))⟩,
  ⟨(some 6), none, .op (.mv (.t 135))⟩] [])
  (.seq (.reg [⟨(some 136), none, .op (.mv (.t 6))⟩,
  ⟨(some 137), none, .op (.bin .none .neq (.t 136) (.v (.int .i64 (-1))))⟩,
  ⟨(some 138), none, .op (.mv (.t 137))⟩,
  ⟨(some 139), some (138, true), .op (.mv (.t 0))⟩,
  ⟨(some 140), some (138, true), .op (.mv (.t 6))⟩,
  ⟨(some 141), some (138, true), .call 84 [(.t 139), (.t 140)]⟩,
  ⟨(some 142), some (138, true), .op (.un .not (.t 141))⟩,
  ⟨(some 143), some (138, true), .op (.mv (.t 142))⟩,
  ⟨(some 144), some (143, false), .op (.mv (.t 0))⟩,
  ⟨(some 145), some (143, false), .op (.mv (.t 5))⟩,
  ⟨(some 146), some (143, false), .op (.bsl none [(.int .i64 0)] 1 [(0, 1, (.t 145))])⟩,
  ⟨(some 147), some (143, false), .call 85 [(.t 144), (.v (.int .u8 0)), (.t 146)]⟩,
  ⟨(some 148), some (143, false), .op (.un .not (.t 147))⟩,
  ⟨(some 149), some (138, true), .op (.pick (.t 143) (.v (.bool true)) (.t 148))⟩,
  ⟨(some 150), none, .op (.pick (.t 138) (.t 149) (.v (.bool false)))⟩] [])
  (.cond (.t 150)
  (.seq (.reg [⟨(some 2), none, .op (.mv (.v (.bool false)))⟩] [])
  .ret)
  .skip))))))
  (.reg [⟨(some 151), none, .op (.bin .none .add (.t 92) (.v (.int .i64 1)))⟩,
  ⟨(some 92), none, .op (.mv (.t 151))⟩] [])))))))
  (.seq (.reg [⟨(some 152), none, .op (.mv (.t 3))⟩,
  ⟨(some 153), none, .op (.nchk (.t 152))⟩,
  ⟨(some 154), none, .op (.fad 6 (.t 153))⟩,
  ⟨(some 155), none, .op (.load none (.t 154))⟩,
  ⟨(some 156), none, .op (.len .sl (.t 155))⟩,
  ⟨(some 157), none, .op (.bin .none .gtr (.t 156) (.v (.int .i64 0)))⟩,
  ⟨(some 158), none, .op (.mv (.t 157))⟩,
  ⟨(some 159), some (158, true), .op (.mv (.t 3))⟩,
  ⟨(some 160), some (158, true), .op (.nchk (.t 159))⟩,
  ⟨(some 161), some (158, true), .op (.fad 6 (.t 160))⟩,
  ⟨(some 162), some (158, true), .op (.load none (.t 161))⟩,
  ⟨(some 163), some (158, true), .op (.len .sl (.t 162))⟩,
  ⟨(some 164), some (158, true), .op (.bin .none .leq (.t 163) (.v (.int .i64 4096)))⟩,
  ⟨(some 165), none, .op (.pick (.t 158) (.t 164) (.v (.bool false)))⟩,
  ⟨(some 166), none, .op (.mv (.t 165))⟩,
  ⟨(some 167), some (166, true), .op (.mv (.t 3))⟩,
  ⟨(some 168), some (166, true), .op (.nchk (.t 167))⟩,
  ⟨(some 169), some (166, true), .op (.fad 7 (.t 168))⟩,
  ⟨(some 170), some (166, true), .op (.load none (.t 169))⟩,
  ⟨(some 171), some (166, true), .op (.bin .none .geq (.t 170) (.v (.int .i64 0)))⟩,
  ⟨(some 172), none, .op (.pick (.t 166) (.t 171) (.v (.bool false)))⟩,
  ⟨(some 173), none, .op (.mv (.t 172))⟩,
  ⟨(some 174), some (173, true), .op (.mv (.t 3))⟩,
  ⟨(some 175), some (173, true), .op (.nchk (.t 174))⟩,
  ⟨(some 176), some (173, true), .op (.fad 7 (.t 175))⟩,
  ⟨(some 177), some (173, true), .op (.load none (.t 176))⟩,
  ⟨(some 178), some (173, true), .op (.mv (.t 3))⟩,
  ⟨(some 179), some (173, true), .op (.nchk (.t 178))⟩,
  ⟨(some 180), some (173, true), .op (.fad 6 (.t 179))⟩,
  ⟨(some 181), some (173, true), .op (.load none (.t 180))⟩,
  ⟨(some 182), some (173, true), .op (.len .sl (.t 181))⟩,
  ⟨(some 183), some (173, true), .op (.bin .none .lss (.t 177) (.t 182))⟩,
  ⟨(some 184), none, .op (.pick (.t 173) (.t 183) (.v (.bool false)))⟩,
  ⟨(some 2), none, .op (.mv (.t 184))⟩] [])
  .ret))))))
theorem fn76 : Fn3 Tryd.prog 76 185 [(2, none)] fc76 := ⟨_, _, Tryd.func76, rfl, rfl, rfl, by kernel_rfl⟩
def ir_checker_head_pNCN_s (c_all_00 : (List Graph)) (c_g_00 : Graph) (c_bound_00 : Bool) : Option (Bool × (List Graph) × Graph × Bool) :=
  (jp (fun (s_2 : Bool) => (if s_2 then (some (false, c_all_00, c_g_00, c_bound_00)) else (jp (fun (s_6 : (Bool × (List Graph) × Graph × Bool)) => (if s_6.1 then (some (false, s_6.2.1, s_6.2.2.1, s_6.2.2.2)) else ((rng (fun (i_9 : Nat) (p_10 : Int) (s_8 : ((List Graph) × Graph × Bool)) => ((jp (fun (s_13 : Bool) => (if s_13 then (some (.ret (some (false, s_8.1, s_8.2.1, s_8.2.2)))) else ((getI c_g_00.Init (i_9 : Int)).bind fun y_16 => (jp (fun (s_18 : (Bool × (List Graph) × Graph × Bool)) => (if s_18.1 then (some (.ret (some (false, s_18.2.1, s_18.2.2.1, s_18.2.2.2)))) else (some (.nxt (s_18.2.1, s_18.2.2.1, s_18.2.2.2))))) (fun k_17 => (if (y_16 != (-1)) then ((ir_checker_cell_pNCN_s s_8.1 s_8.2.1 s_8.2.2 y_16).bind fun (cel_19 : (Bool × (List Graph) × Graph × Bool)) => (if (!cel_19.1) then (k_17 (true, cel_19.2.1, cel_19.2.2.1, cel_19.2.2.2)) else ((ir_checker_is_pNCN_s cel_19.2.1 cel_19.2.2.1 cel_19.2.2.2 0 ([p_10])).bind fun (vis_20 : (Bool × (List Graph) × Graph × Bool)) => (k_17 ((!vis_20.1), vis_20.2.1, vis_20.2.2.1, vis_20.2.2.2))))) else (k_17 (false, s_8.1, s_8.2.1, s_8.2.2)))))))) (fun k_12 => (if (decide (p_10 < 0)) then (k_12 true) else (if (decide (p_10 ≥ (List.length c_g_00.Kinds : Int))) then (k_12 true) else ((subL c_g_00.Params 0 (i_9 : Int)).bind fun l_14 => ((slices_Contains_s l_14 p_10).bind fun con_15 => (if con_15 then (k_12 true) else (if s_8.2.2 then (k_12 (p_10 != (i_9 : Int))) else (k_12 false))))))))) : Option (Stp ((List Graph) × Graph × Bool) (Option (Bool × (List Graph) × Graph × Bool))))) c_g_00.Params (s_6.2.1, s_6.2.2.1, s_6.2.2.2)).bind (oc (fun (s_8 : ((List Graph) × Graph × Bool)) => (jp (fun (s_22 : Bool) => (some (s_22, s_8.1, s_8.2.1, s_8.2.2))) (fun k_21 => (if (decide ((List.length c_g_00.Nodes : Int) > 0)) then (if (decide ((List.length c_g_00.Nodes : Int) ≤ 4096)) then (if (decide (c_g_00.Entry ≥ 0)) then (k_21 (decide (c_g_00.Entry < (List.length c_g_00.Nodes : Int)))) else (k_21 false)) else (k_21 false)) else (k_21 false))))))))) (fun k_5 => (if (decide ((List.length c_g_00.Params : Int) > 4)) then (k_5 (true, c_all_00, c_g_00, c_bound_00)) else (if ((List.length c_g_00.Init : Int) != (List.length c_g_00.Params : Int)) then (k_5 (true, c_all_00, c_g_00, c_bound_00)) else (if (decide (c_g_00.Cells < 0)) then (k_5 (true, c_all_00, c_g_00, c_bound_00)) else (if (decide (c_g_00.Cells > 64)) then (k_5 (true, c_all_00, c_g_00, c_bound_00)) else (if (c_g_00.Keep != (-1)) then ((ir_checker_cell_pNCN_s c_all_00 c_g_00 c_bound_00 c_g_00.Keep).bind fun (cel_7 : (Bool × (List Graph) × Graph × Bool)) => (k_5 ((!cel_7.1), cel_7.2.1, cel_7.2.2.1, cel_7.2.2.2))) else (k_5 (false, c_all_00, c_g_00, c_bound_00))))))))))) (fun k_1 => (if (decide ((List.length c_g_00.Kinds : Int) > 1024)) then (k_1 true) else (if c_bound_00 then (if (decide ((List.length c_g_00.Kinds : Int) < 16)) then (k_1 true) else ((slices_ContainsFunc_f83_s c_g_00.Kinds).bind fun con_3 => (k_1 con_3))) else ((slices_ContainsFunc_f83_s c_g_00.Kinds).bind fun con_4 => (k_1 con_4))))))
theorem ir_checker_head_pNCN_ev {c_all_00 : (List Graph)} {c_g_00 : Graph} {c_bound_00 : Bool} {r : (Bool × (List Graph) × Graph × Bool)} (h : ir_checker_head_pNCN_s c_all_00 c_g_00 c_bound_00 = some r) : Ev Tryd.prog 76 [(.ptr 0 0 0)] (hp [.arr 0 [(.sl false 8 (List.map Graph.av c_all_00)), (.cptr (Graph.av c_g_00).cells 0), (.bool c_bound_00)]]) (.bool r.1) (hp [.arr 0 [(.sl false 8 (List.map Graph.av r.2.1)), (.cptr (Graph.av r.2.2.1).cells 0), (.bool r.2.2.2)]]) := by
  unfold ir_checker_head_pNCN_s at h
  refine Ev_end mixed fn76 (by simp) [] ?_
  unfold fc76
  refine E_sq ?_
  refine E_reg ?_
  refine E_mv (v' := (.bool false)) rfl ?_
  refine E_nil ?_
  refine E_nx ?_
  refine E_sq ?_
  refine E_reg ?_
  refine E_mv (v' := (.ptr 0 0 0)) rfl ?_
  refine E_op0 (v' := (.ptr 0 0 0)) rfl rfl ?_
  refine E_op0 (v' := (.ptr 0 0 1)) rfl rfl ?_
  refine E_op (v' := (.cptr (Graph.av c_g_00).cells 0)) (S' := [.arr 0 [(.sl false 8 (List.map Graph.av c_all_00)), (.cptr (Graph.av c_g_00).cells 0), (.bool c_bound_00)]]) rfl rfl rfl ?_
  refine E_mv (v' := (.cptr (Graph.av c_g_00).cells 0)) rfl ?_
  refine E_nil ?_
  refine E_nx ?_
  refine E_as ?_
  refine E_jp h (fun s_2 => [(0, (.ptr 0 0 0)), (3, (.cptr (Graph.av c_g_00).cells 0)), (37, (.bool s_2))]) (fun s_2 => [.arr 0 [(.sl false 8 (List.map Graph.av c_all_00)), (.cptr (Graph.av c_g_00).cells 0), (.bool c_bound_00)]]) (fun k_1 h => ?_) (fun s_2 h => ?_)
  · refine E_reg ?_
    refine E_mv (v' := (.cptr (Graph.av c_g_00).cells 0)) rfl ?_
    refine E_op0 (v' := (.cptr (Graph.av c_g_00).cells 0)) rfl rfl ?_
    refine E_op0 (v' := (.cptr (Graph.av c_g_00).cells 1)) rfl rfl ?_
    refine E_op0 (v' := (.sl false 1 (List.map (avI .u8) c_g_00.Kinds))) rfl rfl ?_
    refine E_len rfl ?_
    refine E_op0 (v' := (.bool (decide ((List.length c_g_00.Kinds : Int) > 1024)))) rfl rfl ?_
    refine E_mv (v' := (.bool (decide ((List.length c_g_00.Kinds : Int) > 1024)))) rfl ?_
    refine E_gsT (b := (decide ((List.length c_g_00.Kinds : Int) > 1024))) rfl rfl rfl (fun hb => ?_) (fun hb => ?_)
    · rw [ite_f hb] at h
      refine E_mv (v' := (.ptr 0 0 0)) rfl ?_
      refine E_gh rfl ?_
      refine E_op0 (v' := (.ptr 0 0 0)) rfl rfl ?_
      refine E_gh rfl ?_
      refine E_op0 (v' := (.ptr 0 0 2)) rfl rfl ?_
      refine E_gh rfl ?_
      refine E_op (v' := (.bool c_bound_00)) (S' := [.arr 0 [(.sl false 8 (List.map Graph.av c_all_00)), (.cptr (Graph.av c_g_00).cells 0), (.bool c_bound_00)]]) rfl rfl rfl ?_
      refine E_gh rfl ?_
      refine E_mv (v' := (.bool c_bound_00)) rfl ?_
      refine E_gsT (b := c_bound_00) rfl rfl rfl (fun hb => ?_) (fun hb => ?_)
      · rw [ite_t hb] at h
        refine E_mv (v' := (.cptr (Graph.av c_g_00).cells 0)) rfl ?_
        refine E_gh rfl ?_
        refine E_op0 (v' := (.cptr (Graph.av c_g_00).cells 0)) rfl rfl ?_
        refine E_gh rfl ?_
        refine E_op0 (v' := (.cptr (Graph.av c_g_00).cells 1)) rfl rfl ?_
        refine E_gh rfl ?_
        refine E_op0 (v' := (.sl false 1 (List.map (avI .u8) c_g_00.Kinds))) rfl rfl ?_
        refine E_gh rfl ?_
        refine E_len rfl ?_
        refine E_gh rfl ?_
        refine E_op0 (v' := (.bool (decide ((List.length c_g_00.Kinds : Int) < 16)))) rfl rfl ?_
        refine E_gh rfl ?_
        refine E_pt rfl rfl ?_
        refine E_pf rfl rfl ?_
        refine E_mv (v' := (.bool (decide ((List.length c_g_00.Kinds : Int) < 16)))) rfl ?_
        refine E_gsT (b := (decide ((List.length c_g_00.Kinds : Int) < 16))) rfl rfl rfl (fun hb => ?_) (fun hb => ?_)
        · rw [ite_f hb] at h
          refine E_mv (v' := (.cptr (Graph.av c_g_00).cells 0)) rfl ?_
          refine E_gh rfl ?_
          refine E_op0 (v' := (.cptr (Graph.av c_g_00).cells 0)) rfl rfl ?_
          refine E_gh rfl ?_
          refine E_op0 (v' := (.cptr (Graph.av c_g_00).cells 1)) rfl rfl ?_
          refine E_gh rfl ?_
          refine E_op0 (v' := (.sl false 1 (List.map (avI .u8) c_g_00.Kinds))) rfl rfl ?_
          refine E_gh rfl ?_
          obtain ⟨con_3, hcon_3, h⟩ := bd_some h
          refine E_callW (slices_ContainsFunc_f83_ev  hcon_3) rfl ⟨(.refl _), (.refl _), trivial⟩ (blwL_of ⟨((encI .u8).blws 0), rfl, trivial⟩) rfl ?_
          refine E_pf rfl rfl ?_
          refine E_nil ?_
          exact E_jx _ h (wk_rn [some (0, 0)] rfl (Nat.le_of_ble_eq_true rfl) ⟨(rn_obS rfl rfl (.cons (rn_b (Graph.enc.blws 0)) (.cons (rn_b (cp_blw (Graph.enc.blw _ 0))) (.cons (rn_b rfl) (.nil (Nat.zero_le _))))) rfl), trivial⟩ ⟨(rn_ptr rfl rfl rfl rfl), (rn_b (cp_blw (Graph.enc.blw _ 0))), (rn_b rfl), trivial⟩)
        · rw [ite_t hb] at h
          refine E_gm rfl ?_
          refine E_gm rfl ?_
          refine E_gm rfl ?_
          refine E_gm rfl ?_
          refine E_pt rfl rfl ?_
          refine E_nil ?_
          exact E_jx _ h (wk_rn [some (0, 0)] rfl (Nat.le_of_ble_eq_true rfl) ⟨(rn_obS rfl rfl (.cons (rn_b (Graph.enc.blws 0)) (.cons (rn_b (cp_blw (Graph.enc.blw _ 0))) (.cons (rn_b rfl) (.nil (Nat.zero_le _))))) rfl), trivial⟩ ⟨(rn_ptr rfl rfl rfl rfl), (rn_b (cp_blw (Graph.enc.blw _ 0))), (rn_b rfl), trivial⟩)
      · rw [ite_f hb] at h
        refine E_gm rfl ?_
        refine E_gm rfl ?_
        refine E_gm rfl ?_
        refine E_gm rfl ?_
        refine E_gm rfl ?_
        refine E_gh rfl ?_
        refine E_pf rfl rfl ?_
        refine E_pf rfl rfl ?_
        refine E_mv (v' := (.bool false)) rfl ?_
        refine E_gh rfl ?_
        refine E_mv (v' := (.cptr (Graph.av c_g_00).cells 0)) rfl ?_
        refine E_gh rfl ?_
        refine E_op0 (v' := (.cptr (Graph.av c_g_00).cells 0)) rfl rfl ?_
        refine E_gh rfl ?_
        refine E_op0 (v' := (.cptr (Graph.av c_g_00).cells 1)) rfl rfl ?_
        refine E_gh rfl ?_
        refine E_op0 (v' := (.sl false 1 (List.map (avI .u8) c_g_00.Kinds))) rfl rfl ?_
        refine E_gh rfl ?_
        obtain ⟨con_4, hcon_4, h⟩ := bd_some h
        refine E_callW (slices_ContainsFunc_f83_ev  hcon_4) rfl ⟨(.refl _), (.refl _), trivial⟩ (blwL_of ⟨((encI .u8).blws 0), rfl, trivial⟩) rfl ?_
        refine E_pf rfl rfl ?_
        refine E_nil ?_
        exact E_jx _ h (wk_rn [some (0, 0)] rfl (Nat.le_of_ble_eq_true rfl) ⟨(rn_obS rfl rfl (.cons (rn_b (Graph.enc.blws 0)) (.cons (rn_b (cp_blw (Graph.enc.blw _ 0))) (.cons (rn_b rfl) (.nil (Nat.zero_le _))))) rfl), trivial⟩ ⟨(rn_ptr rfl rfl rfl rfl), (rn_b (cp_blw (Graph.enc.blw _ 0))), (rn_b rfl), trivial⟩)
    · rw [ite_t hb] at h
      refine E_gm rfl ?_
      refine E_gm rfl ?_
      refine E_gm rfl ?_
      refine E_gm rfl ?_
      refine E_gz rfl ?_
      refine E_gz rfl ?_
      refine E_gz rfl ?_
      refine E_gz rfl ?_
      refine E_gz rfl ?_
      refine E_gz rfl ?_
      refine E_gm rfl ?_
      refine E_pt rfl rfl ?_
      refine E_mv (v' := (.bool true)) rfl ?_
      refine E_gm rfl ?_
      refine E_gm rfl ?_
      refine E_gm rfl ?_
      refine E_gm rfl ?_
      refine E_gm rfl ?_
      refine E_pt rfl rfl ?_
      refine E_nil ?_
      exact E_jx _ h (wk_rn [some (0, 0)] rfl (Nat.le_of_ble_eq_true rfl) ⟨(rn_obS rfl rfl (.cons (rn_b (Graph.enc.blws 0)) (.cons (rn_b (cp_blw (Graph.enc.blw _ 0))) (.cons (rn_b rfl) (.nil (Nat.zero_le _))))) rfl), trivial⟩ ⟨(rn_ptr rfl rfl rfl rfl), (rn_b (cp_blw (Graph.enc.blw _ 0))), (rn_b rfl), trivial⟩)
  · refine E_sq ?_
    refine E_cs (t := s_2) rfl (fun hb => ?_) (fun hb => ?_)
    · rw [ite_t hb] at h
      refine E_sq ?_
      refine E_reg ?_
      refine E_mv (v' := (.bool false)) rfl ?_
      refine E_nil ?_
      refine E_nx ?_
      refine E_ret ?_
      refine E_thr ?_
      cases h
      exact ⟨trivial, _, _, rfl, gwk_rn [some (0, 0)] rfl (Nat.le_of_ble_eq_true rfl) ⟨(rn_obS rfl rfl (.cons (rn_b (Graph.enc.blws 0)) (.cons (rn_b (cp_blw (Graph.enc.blw _ 0))) (.cons (rn_b rfl) (.nil (Nat.zero_le _))))) rfl), trivial⟩, (rn_b rfl)⟩
    · rw [ite_f hb] at h
      refine E_skip ?_
      refine E_nx ?_
      refine E_as ?_
      refine E_jp h (fun s_6 => [(0, (.ptr 0 0 0)), (3, (.cptr (Graph.av c_g_00).cells 0)), (86, (.bool s_6.1))]) (fun s_6 => [.arr 0 [(.sl false 8 (List.map Graph.av s_6.2.1)), (.cptr (Graph.av s_6.2.2.1).cells 0), (.bool s_6.2.2.2)]]) (fun k_5 h => ?_) (fun s_6 h => ?_)
      · refine E_reg ?_
        refine E_mv (v' := (.cptr (Graph.av c_g_00).cells 0)) (by kernel_rfl) ?_
        refine E_op0 (v := (.cptr (Graph.av c_g_00).cells 0)) (v' := (.cptr (Graph.av c_g_00).cells 0)) (by kernel_rfl) rfl ?_
        refine E_op0 (v := (.cptr (Graph.av c_g_00).cells 0)) (v' := (.cptr (Graph.av c_g_00).cells 0)) (by kernel_rfl) rfl ?_
        refine E_op0 (v := (.sl false 1 (List.map (avI .i64) c_g_00.Params))) (v' := (.sl false 1 (List.map (avI .i64) c_g_00.Params))) (by kernel_rfl) rfl ?_
        refine E_len rfl ?_
        refine E_op0 (v := (.bool (decide ((List.length c_g_00.Params : Int) > 4)))) (v' := (.bool (decide ((List.length c_g_00.Params : Int) > 4)))) (by kernel_rfl) rfl ?_
        refine E_mv (v' := (.bool (decide ((List.length c_g_00.Params : Int) > 4)))) (by kernel_rfl) ?_
        refine E_gsT (b := (decide ((List.length c_g_00.Params : Int) > 4))) rfl rfl rfl (fun hb => ?_) (fun hb => ?_)
        · rw [ite_f hb] at h
          refine E_mv (v' := (.cptr (Graph.av c_g_00).cells 0)) (by kernel_rfl) ?_
          refine E_gh rfl ?_
          refine E_op0 (v := (.cptr (Graph.av c_g_00).cells 0)) (v' := (.cptr (Graph.av c_g_00).cells 0)) (by kernel_rfl) rfl ?_
          refine E_gh rfl ?_
          refine E_op0 (v := (.cptr (Graph.av c_g_00).cells 3)) (v' := (.cptr (Graph.av c_g_00).cells 3)) (by kernel_rfl) rfl ?_
          refine E_gh rfl ?_
          refine E_op0 (v := (.sl false 1 (List.map (avI .i64) c_g_00.Init))) (v' := (.sl false 1 (List.map (avI .i64) c_g_00.Init))) (by kernel_rfl) rfl ?_
          refine E_gh rfl ?_
          refine E_len rfl ?_
          refine E_gh rfl ?_
          refine E_mv (v' := (.cptr (Graph.av c_g_00).cells 0)) (by kernel_rfl) ?_
          refine E_gh rfl ?_
          refine E_op0 (v := (.cptr (Graph.av c_g_00).cells 0)) (v' := (.cptr (Graph.av c_g_00).cells 0)) (by kernel_rfl) rfl ?_
          refine E_gh rfl ?_
          refine E_op0 (v := (.cptr (Graph.av c_g_00).cells 0)) (v' := (.cptr (Graph.av c_g_00).cells 0)) (by kernel_rfl) rfl ?_
          refine E_gh rfl ?_
          refine E_op0 (v := (.sl false 1 (List.map (avI .i64) c_g_00.Params))) (v' := (.sl false 1 (List.map (avI .i64) c_g_00.Params))) (by kernel_rfl) rfl ?_
          refine E_gh rfl ?_
          refine E_len rfl ?_
          refine E_gh rfl ?_
          refine E_op0 (v := (.bool ((List.length c_g_00.Init : Int) != (List.length c_g_00.Params : Int)))) (v' := (.bool ((List.length c_g_00.Init : Int) != (List.length c_g_00.Params : Int)))) (by kernel_rfl) rfl ?_
          refine E_pf rfl rfl ?_
          refine E_mv (v' := (.bool ((List.length c_g_00.Init : Int) != (List.length c_g_00.Params : Int)))) (by kernel_rfl) ?_
          refine E_gsT (b := ((List.length c_g_00.Init : Int) != (List.length c_g_00.Params : Int))) rfl rfl rfl (fun hb => ?_) (fun hb => ?_)
          · rw [ite_f hb] at h
            refine E_mv (v' := (.cptr (Graph.av c_g_00).cells 0)) (by kernel_rfl) ?_
            refine E_gh rfl ?_
            refine E_op0 (v := (.cptr (Graph.av c_g_00).cells 0)) (v' := (.cptr (Graph.av c_g_00).cells 0)) (by kernel_rfl) rfl ?_
            refine E_gh rfl ?_
            refine E_op0 (v := (.cptr (Graph.av c_g_00).cells 2)) (v' := (.cptr (Graph.av c_g_00).cells 2)) (by kernel_rfl) rfl ?_
            refine E_gh rfl ?_
            refine E_op0 (v := (.int .i64 c_g_00.Cells)) (v' := (.int .i64 c_g_00.Cells)) (by kernel_rfl) rfl ?_
            refine E_gh rfl ?_
            refine E_op0 (v := (.bool (decide (c_g_00.Cells < 0)))) (v' := (.bool (decide (c_g_00.Cells < 0)))) (by kernel_rfl) rfl ?_
            refine E_pf rfl rfl ?_
            refine E_mv (v' := (.bool (decide (c_g_00.Cells < 0)))) (by kernel_rfl) ?_
            refine E_gsT (b := (decide (c_g_00.Cells < 0))) rfl rfl rfl (fun hb => ?_) (fun hb => ?_)
            · rw [ite_f hb] at h
              refine E_mv (v' := (.cptr (Graph.av c_g_00).cells 0)) (by kernel_rfl) ?_
              refine E_gh rfl ?_
              refine E_op0 (v := (.cptr (Graph.av c_g_00).cells 0)) (v' := (.cptr (Graph.av c_g_00).cells 0)) (by kernel_rfl) rfl ?_
              refine E_gh rfl ?_
              refine E_op0 (v := (.cptr (Graph.av c_g_00).cells 2)) (v' := (.cptr (Graph.av c_g_00).cells 2)) (by kernel_rfl) rfl ?_
              refine E_gh rfl ?_
              refine E_op0 (v := (.int .i64 c_g_00.Cells)) (v' := (.int .i64 c_g_00.Cells)) (by kernel_rfl) rfl ?_
              refine E_gh rfl ?_
              refine E_op0 (v := (.bool (decide (c_g_00.Cells > 64)))) (v' := (.bool (decide (c_g_00.Cells > 64)))) (by kernel_rfl) rfl ?_
              refine E_pf rfl rfl ?_
              refine E_mv (v' := (.bool (decide (c_g_00.Cells > 64)))) (by kernel_rfl) ?_
              refine E_gsT (b := (decide (c_g_00.Cells > 64))) rfl rfl rfl (fun hb => ?_) (fun hb => ?_)
              · rw [ite_f hb] at h
                refine E_mv (v' := (.cptr (Graph.av c_g_00).cells 0)) (by kernel_rfl) ?_
                refine E_gh rfl ?_
                refine E_op0 (v := (.cptr (Graph.av c_g_00).cells 0)) (v' := (.cptr (Graph.av c_g_00).cells 0)) (by kernel_rfl) rfl ?_
                refine E_gh rfl ?_
                refine E_op0 (v := (.cptr (Graph.av c_g_00).cells 5)) (v' := (.cptr (Graph.av c_g_00).cells 5)) (by kernel_rfl) rfl ?_
                refine E_gh rfl ?_
                refine E_op0 (v := (.int .i64 c_g_00.Keep)) (v' := (.int .i64 c_g_00.Keep)) (by kernel_rfl) rfl ?_
                refine E_gh rfl ?_
                refine E_op0 (v := (.bool (c_g_00.Keep != (-1)))) (v' := (.bool (c_g_00.Keep != (-1)))) (by kernel_rfl) rfl ?_
                refine E_gh rfl ?_
                refine E_mv (v' := (.bool (c_g_00.Keep != (-1)))) (by kernel_rfl) ?_
                refine E_gsT (b := (c_g_00.Keep != (-1))) rfl rfl rfl (fun hb => ?_) (fun hb => ?_)
                · rw [ite_t hb] at h
                  refine E_mv (v' := (.ptr 0 0 0)) (by kernel_rfl) ?_
                  refine E_gh rfl ?_
                  refine E_mv (v' := (.cptr (Graph.av c_g_00).cells 0)) (by kernel_rfl) ?_
                  refine E_gh rfl ?_
                  refine E_op0 (v := (.cptr (Graph.av c_g_00).cells 0)) (v' := (.cptr (Graph.av c_g_00).cells 0)) (by kernel_rfl) rfl ?_
                  refine E_gh rfl ?_
                  refine E_op0 (v := (.cptr (Graph.av c_g_00).cells 5)) (v' := (.cptr (Graph.av c_g_00).cells 5)) (by kernel_rfl) rfl ?_
                  refine E_gh rfl ?_
                  refine E_op0 (v := (.int .i64 c_g_00.Keep)) (v' := (.int .i64 c_g_00.Keep)) (by kernel_rfl) rfl ?_
                  refine E_gh rfl ?_
                  obtain ⟨cel_7, hcel_7, h⟩ := bd_some h
                  refine E_callF (S' := [.arr 0 [(.sl false 8 (List.map Graph.av cel_7.2.1)), (.cptr (Graph.av cel_7.2.2.1).cells 0), (.bool cel_7.2.2.2)]]) (r' := (.bool cel_7.1)) (ir_checker_cell_pNCN_ev hcel_7) [0] rfl rfl (by decide) rfl rfl ⟨(fr_in rfl rfl (.cons (.base (Graph.enc.blws 0) (.refl _)) (.cons (rn_b (cp_blw (Graph.enc.blw _ 0))) (.cons (.base rfl (.refl _)) (.nil (Nat.zero_le _)))))), trivial⟩ ⟨(fr_outS rfl rfl (.cons (rn_b (Graph.enc.blws 0)) (.cons (rn_b (cp_blw (Graph.enc.blw _ 0))) (.cons (rn_b rfl) (.nil (Nat.zero_le _))))) rfl rfl), trivial⟩ ⟨.inl rfl, trivial⟩ rfl (.cons (fi_ptr rfl rfl rfl rfl) (.cons (.base rfl (.refl _)) (.nil (Nat.zero_le _)))) (rn_b rfl) ?_
                  refine E_gh rfl ?_
                  refine E_op0 (v := (.bool (!cel_7.1))) (v' := (.bool (!cel_7.1))) (by kernel_rfl) rfl ?_
                  refine E_gh rfl ?_
                  refine E_pt rfl rfl ?_
                  refine E_pf rfl rfl ?_
                  refine E_nil ?_
                  exact E_jx _ h (wk_rn [some (0, 0)] rfl (Nat.le_of_ble_eq_true rfl) ⟨(rn_obS rfl rfl (.cons (rn_b (Graph.enc.blws 0)) (.cons (rn_b (cp_blw (Graph.enc.blw _ 0))) (.cons (rn_b rfl) (.nil (Nat.zero_le _))))) rfl), trivial⟩ ⟨(rn_ptr rfl rfl rfl rfl), (rn_b (cp_blw (Graph.enc.blw _ 0))), (rn_b rfl), trivial⟩)
                · rw [ite_f hb] at h
                  refine E_gm rfl ?_
                  refine E_gm rfl ?_
                  refine E_gm rfl ?_
                  refine E_gm rfl ?_
                  refine E_gm rfl ?_
                  refine E_gm rfl ?_
                  refine E_gh rfl ?_
                  refine E_pf rfl rfl ?_
                  refine E_pf rfl rfl ?_
                  refine E_nil ?_
                  exact E_jx _ h (wk_rn [some (0, 0)] rfl (Nat.le_of_ble_eq_true rfl) ⟨(rn_obS rfl rfl (.cons (rn_b (Graph.enc.blws 0)) (.cons (rn_b (cp_blw (Graph.enc.blw _ 0))) (.cons (rn_b rfl) (.nil (Nat.zero_le _))))) rfl), trivial⟩ ⟨(rn_ptr rfl rfl rfl rfl), (rn_b (cp_blw (Graph.enc.blw _ 0))), (rn_b rfl), trivial⟩)
              · rw [ite_t hb] at h
                refine E_gm rfl ?_
                refine E_gm rfl ?_
                refine E_gm rfl ?_
                refine E_gm rfl ?_
                refine E_gm rfl ?_
                refine E_gz rfl ?_
                refine E_gz rfl ?_
                refine E_gz rfl ?_
                refine E_gz rfl ?_
                refine E_gz rfl ?_
                refine E_gz rfl ?_
                refine E_gz rfl ?_
                refine E_gm rfl ?_
                refine E_pt rfl rfl ?_
                refine E_nil ?_
                exact E_jx _ h (wk_rn [some (0, 0)] rfl (Nat.le_of_ble_eq_true rfl) ⟨(rn_obS rfl rfl (.cons (rn_b (Graph.enc.blws 0)) (.cons (rn_b (cp_blw (Graph.enc.blw _ 0))) (.cons (rn_b rfl) (.nil (Nat.zero_le _))))) rfl), trivial⟩ ⟨(rn_ptr rfl rfl rfl rfl), (rn_b (cp_blw (Graph.enc.blw _ 0))), (rn_b rfl), trivial⟩)
            · rw [ite_t hb] at h
              refine E_gm rfl ?_
              refine E_gm rfl ?_
              refine E_gm rfl ?_
              refine E_gm rfl ?_
              refine E_pt rfl rfl ?_
              refine E_mv (v' := (.bool true)) (by kernel_rfl) ?_
              refine E_gm rfl ?_
              refine E_gm rfl ?_
              refine E_gm rfl ?_
              refine E_gm rfl ?_
              refine E_gm rfl ?_
              refine E_gm rfl ?_
              refine E_gz rfl ?_
              refine E_gz rfl ?_
              refine E_gz rfl ?_
              refine E_gz rfl ?_
              refine E_gz rfl ?_
              refine E_gz rfl ?_
              refine E_gz rfl ?_
              refine E_gm rfl ?_
              refine E_pt rfl rfl ?_
              refine E_nil ?_
              exact E_jx _ h (wk_rn [some (0, 0)] rfl (Nat.le_of_ble_eq_true rfl) ⟨(rn_obS rfl rfl (.cons (rn_b (Graph.enc.blws 0)) (.cons (rn_b (cp_blw (Graph.enc.blw _ 0))) (.cons (rn_b rfl) (.nil (Nat.zero_le _))))) rfl), trivial⟩ ⟨(rn_ptr rfl rfl rfl rfl), (rn_b (cp_blw (Graph.enc.blw _ 0))), (rn_b rfl), trivial⟩)
          · rw [ite_t hb] at h
            refine E_gm rfl ?_
            refine E_gm rfl ?_
            refine E_gm rfl ?_
            refine E_gm rfl ?_
            refine E_pt rfl rfl ?_
            refine E_mv (v' := (.bool true)) (by kernel_rfl) ?_
            refine E_gm rfl ?_
            refine E_gm rfl ?_
            refine E_gm rfl ?_
            refine E_gm rfl ?_
            refine E_gm rfl ?_
            refine E_pt rfl rfl ?_
            refine E_mv (v' := (.bool true)) (by kernel_rfl) ?_
            refine E_gm rfl ?_
            refine E_gm rfl ?_
            refine E_gm rfl ?_
            refine E_gm rfl ?_
            refine E_gm rfl ?_
            refine E_gm rfl ?_
            refine E_gz rfl ?_
            refine E_gz rfl ?_
            refine E_gz rfl ?_
            refine E_gz rfl ?_
            refine E_gz rfl ?_
            refine E_gz rfl ?_
            refine E_gz rfl ?_
            refine E_gm rfl ?_
            refine E_pt rfl rfl ?_
            refine E_nil ?_
            exact E_jx _ h (wk_rn [some (0, 0)] rfl (Nat.le_of_ble_eq_true rfl) ⟨(rn_obS rfl rfl (.cons (rn_b (Graph.enc.blws 0)) (.cons (rn_b (cp_blw (Graph.enc.blw _ 0))) (.cons (rn_b rfl) (.nil (Nat.zero_le _))))) rfl), trivial⟩ ⟨(rn_ptr rfl rfl rfl rfl), (rn_b (cp_blw (Graph.enc.blw _ 0))), (rn_b rfl), trivial⟩)
        · rw [ite_t hb] at h
          refine E_gm rfl ?_
          refine E_gm rfl ?_
          refine E_gm rfl ?_
          refine E_gm rfl ?_
          refine E_gm rfl ?_
          refine E_gm rfl ?_
          refine E_gm rfl ?_
          refine E_gm rfl ?_
          refine E_gm rfl ?_
          refine E_gm rfl ?_
          refine E_pt rfl rfl ?_
          refine E_mv (v' := (.bool true)) (by kernel_rfl) ?_
          refine E_gm rfl ?_
          refine E_gm rfl ?_
          refine E_gm rfl ?_
          refine E_gm rfl ?_
          refine E_gm rfl ?_
          refine E_pt rfl rfl ?_
          refine E_mv (v' := (.bool true)) (by kernel_rfl) ?_
          refine E_gm rfl ?_
          refine E_gm rfl ?_
          refine E_gm rfl ?_
          refine E_gm rfl ?_
          refine E_gm rfl ?_
          refine E_pt rfl rfl ?_
          refine E_mv (v' := (.bool true)) (by kernel_rfl) ?_
          refine E_gm rfl ?_
          refine E_gm rfl ?_
          refine E_gm rfl ?_
          refine E_gm rfl ?_
          refine E_gm rfl ?_
          refine E_gm rfl ?_
          refine E_gz rfl ?_
          refine E_gz rfl ?_
          refine E_gz rfl ?_
          refine E_gz rfl ?_
          refine E_gz rfl ?_
          refine E_gz rfl ?_
          refine E_gz rfl ?_
          refine E_gm rfl ?_
          refine E_pt rfl rfl ?_
          refine E_nil ?_
          exact E_jx _ h (wk_rn [some (0, 0)] rfl (Nat.le_of_ble_eq_true rfl) ⟨(rn_obS rfl rfl (.cons (rn_b (Graph.enc.blws 0)) (.cons (rn_b (cp_blw (Graph.enc.blw _ 0))) (.cons (rn_b rfl) (.nil (Nat.zero_le _))))) rfl), trivial⟩ ⟨(rn_ptr rfl rfl rfl rfl), (rn_b (cp_blw (Graph.enc.blw _ 0))), (rn_b rfl), trivial⟩)
      · refine E_sq ?_
        refine E_cs (t := s_6.1) rfl (fun hb => ?_) (fun hb => ?_)
        · rw [ite_t hb] at h
          refine E_sq ?_
          refine E_reg ?_
          refine E_mv (v' := (.bool false)) rfl ?_
          refine E_nil ?_
          refine E_nx ?_
          refine E_ret ?_
          refine E_thr ?_
          cases h
          exact ⟨trivial, _, _, rfl, gwk_rn [some (0, 0)] rfl (Nat.le_of_ble_eq_true rfl) ⟨(rn_obS rfl rfl (.cons (rn_b (Graph.enc.blws 0)) (.cons (rn_b (cp_blw (Graph.enc.blw _ 0))) (.cons (rn_b rfl) (.nil (Nat.zero_le _))))) rfl), trivial⟩, (rn_b rfl)⟩
        · rw [ite_f hb] at h
          refine E_skip ?_
          refine E_nx ?_
          refine E_as ?_
          refine E_sq ?_
          refine E_reg ?_
          refine E_mv (v' := (.cptr (Graph.av c_g_00).cells 0)) rfl ?_
          refine E_op0 (v' := (.cptr (Graph.av c_g_00).cells 0)) rfl rfl ?_
          refine E_op0 (v' := (.cptr (Graph.av c_g_00).cells 0)) rfl rfl ?_
          refine E_op0 (v' := (.sl false 1 (List.map (avI .i64) c_g_00.Params))) rfl rfl ?_
          refine E_len rfl ?_
          refine E_mv (v' := (.int .i64 0)) rfl ?_
          refine E_nil ?_
          refine E_nx ?_
          refine E_sq ?_
          refine E_rngO (fun s_8 => [(0, (.ptr 0 0 0)), (3, (.cptr (Graph.av c_g_00).cells 0)), (90, (.sl false 1 (List.map (avI .i64) c_g_00.Params)))]) (fun s_8 => [.arr 0 [(.sl false 8 (List.map Graph.av s_8.1)), (.cptr (Graph.av s_8.2.1).cells 0), (.bool s_8.2.2)]]) h (by decide) (by decide) (fun _ => ⟨rfl, rfl, rfl, rfl⟩) (wk_rn [some (0, 0)] rfl (Nat.le_of_ble_eq_true rfl) ⟨(rn_obS rfl rfl (.cons (rn_b (Graph.enc.blws 0)) (.cons (rn_b (cp_blw (Graph.enc.blw _ 0))) (.cons (rn_b rfl) (.nil (Nat.zero_le _))))) rfl), trivial⟩ ⟨(rn_b rfl), (rn_b rfl), (rn_ptr rfl rfl rfl rfl), (rn_b (cp_blw (Graph.enc.blw _ 0))), (rn_b ((encI .i64).blws 0)), trivial⟩) (fun i_9 p_10 s_8 c hx_11 hlt h => ?_) (fun s_8 fr' S' h hw => ?_)
          · refine E_sq ?_
            refine E_reg ?_
            refine E_mv (v' := (.int .i64 (i_9 : Int))) rfl ?_
            refine E_iadF rfl rfl (getI_of hx_11) ?_
            refine E_op0 (v' := (.int .i64 p_10)) rfl rfl ?_
            refine E_mv (v' := (.int .i64 (i_9 : Int))) rfl ?_
            refine E_mv (v' := (.int .i64 p_10)) rfl ?_
            refine E_nil ?_
            refine E_nx ?_
            refine E_as ?_
            refine E_jp h (fun s_13 => [(0, (.ptr 0 0 0)), (3, (.cptr (Graph.av c_g_00).cells 0)), (4, (.int .i64 (i_9 : Int))), (5, (.int .i64 p_10)), (90, (.sl false 1 (List.map (avI .i64) c_g_00.Params))), (91, (.int .i64 (List.length c_g_00.Params : Int))), (92, (.int .i64 (i_9 : Int))), (128, (.bool s_13))]) (fun s_13 => [.arr 0 [(.sl false 8 (List.map Graph.av s_8.1)), (.cptr (Graph.av s_8.2.1).cells 0), (.bool s_8.2.2)]]) (fun k_12 h => ?_) (fun s_13 h => ?_)
            · refine E_reg ?_
              refine E_mv (v' := (.int .i64 p_10)) rfl ?_
              refine E_op0 (v' := (.bool (decide (p_10 < 0)))) rfl rfl ?_
              refine E_mv (v' := (.bool (decide (p_10 < 0)))) rfl ?_
              refine E_gsT (b := (decide (p_10 < 0))) rfl rfl rfl (fun hb => ?_) (fun hb => ?_)
              · rw [ite_f hb] at h
                refine E_mv (v' := (.int .i64 p_10)) rfl ?_
                refine E_gh rfl ?_
                refine E_mv (v' := (.cptr (Graph.av c_g_00).cells 0)) rfl ?_
                refine E_gh rfl ?_
                refine E_op0 (v' := (.cptr (Graph.av c_g_00).cells 0)) rfl rfl ?_
                refine E_gh rfl ?_
                refine E_op0 (v' := (.cptr (Graph.av c_g_00).cells 1)) rfl rfl ?_
                refine E_gh rfl ?_
                refine E_op0 (v' := (.sl false 1 (List.map (avI .u8) c_g_00.Kinds))) rfl rfl ?_
                refine E_gh rfl ?_
                refine E_len rfl ?_
                refine E_gh rfl ?_
                refine E_op0 (v' := (.bool (decide (p_10 ≥ (List.length c_g_00.Kinds : Int))))) rfl rfl ?_
                refine E_pf rfl rfl ?_
                refine E_mv (v' := (.bool (decide (p_10 ≥ (List.length c_g_00.Kinds : Int))))) rfl ?_
                refine E_gsT (b := (decide (p_10 ≥ (List.length c_g_00.Kinds : Int)))) rfl rfl rfl (fun hb => ?_) (fun hb => ?_)
                · rw [ite_f hb] at h
                  refine E_mv (v' := (.cptr (Graph.av c_g_00).cells 0)) rfl ?_
                  refine E_gh rfl ?_
                  refine E_op0 (v' := (.cptr (Graph.av c_g_00).cells 0)) rfl rfl ?_
                  refine E_gh rfl ?_
                  refine E_op0 (v' := (.cptr (Graph.av c_g_00).cells 0)) rfl rfl ?_
                  refine E_gh rfl ?_
                  refine E_op0 (v' := (.sl false 1 (List.map (avI .i64) c_g_00.Params))) rfl rfl ?_
                  refine E_gh rfl ?_
                  refine E_mv (v' := (.int .i64 (i_9 : Int))) rfl ?_
                  refine E_gh rfl ?_
                  obtain ⟨l_14, hl_14, h⟩ := bd_some h
                  refine E_slcL rfl (fun _ => rfl) (fun h0 => hiN_int h0) hl_14 ?_
                  refine E_gh rfl ?_
                  refine E_mv (v' := (.int .i64 p_10)) rfl ?_
                  refine E_gh rfl ?_
                  obtain ⟨con_15, hcon_15, h⟩ := bd_some h
                  refine E_callW (slices_Contains_ev  hcon_15) rfl ⟨(.refl _), (.refl _), trivial⟩ (blwL_of ⟨((encI .i64).blws 0), rfl, trivial⟩) rfl ?_
                  refine E_pf rfl rfl ?_
                  refine E_mv (v' := (.bool con_15)) rfl ?_
                  refine E_gsT (b := con_15) rfl rfl rfl (fun hb => ?_) (fun hb => ?_)
                  · rw [ite_f hb] at h
                    refine E_mv (v' := (.ptr 0 0 0)) rfl ?_
                    refine E_gh rfl ?_
                    refine E_op0 (v' := (.ptr 0 0 0)) rfl rfl ?_
                    refine E_gh rfl ?_
                    refine E_op0 (v' := (.ptr 0 0 2)) rfl rfl ?_
                    refine E_gh rfl ?_
                    refine E_op (v' := (.bool s_8.2.2)) (S' := [.arr 0 [(.sl false 8 (List.map Graph.av s_8.1)), (.cptr (Graph.av s_8.2.1).cells 0), (.bool s_8.2.2)]]) rfl rfl rfl ?_
                    refine E_gh rfl ?_
                    refine E_mv (v' := (.bool s_8.2.2)) rfl ?_
                    refine E_gsT (b := s_8.2.2) rfl rfl rfl (fun hb => ?_) (fun hb => ?_)
                    · rw [ite_t hb] at h
                      refine E_mv (v' := (.int .i64 p_10)) rfl ?_
                      refine E_gh rfl ?_
                      refine E_mv (v' := (.int .i64 (i_9 : Int))) rfl ?_
                      refine E_gh rfl ?_
                      refine E_op0 (v' := (.bool (p_10 != (i_9 : Int)))) rfl rfl ?_
                      refine E_gh rfl ?_
                      refine E_pt rfl rfl ?_
                      refine E_pf rfl rfl ?_
                      refine E_nil ?_
                      exact E_jx _ h (wk_rn [some (0, 0)] rfl (Nat.le_of_ble_eq_true rfl) ⟨(rn_obS rfl rfl (.cons (rn_b (Graph.enc.blws 0)) (.cons (rn_b (cp_blw (Graph.enc.blw _ 0))) (.cons (rn_b rfl) (.nil (Nat.zero_le _))))) rfl), trivial⟩ ⟨(rn_ptr rfl rfl rfl rfl), (rn_b (cp_blw (Graph.enc.blw _ 0))), (rn_b rfl), (rn_b rfl), (rn_b ((encI .i64).blws 0)), (rn_b rfl), (rn_b rfl), (rn_b rfl), trivial⟩)
                    · rw [ite_f hb] at h
                      refine E_gm rfl ?_
                      refine E_gm rfl ?_
                      refine E_gh rfl ?_
                      refine E_pf rfl rfl ?_
                      refine E_pf rfl rfl ?_
                      refine E_nil ?_
                      exact E_jx _ h (wk_rn [some (0, 0)] rfl (Nat.le_of_ble_eq_true rfl) ⟨(rn_obS rfl rfl (.cons (rn_b (Graph.enc.blws 0)) (.cons (rn_b (cp_blw (Graph.enc.blw _ 0))) (.cons (rn_b rfl) (.nil (Nat.zero_le _))))) rfl), trivial⟩ ⟨(rn_ptr rfl rfl rfl rfl), (rn_b (cp_blw (Graph.enc.blw _ 0))), (rn_b rfl), (rn_b rfl), (rn_b ((encI .i64).blws 0)), (rn_b rfl), (rn_b rfl), (rn_b rfl), trivial⟩)
                  · rw [ite_t hb] at h
                    refine E_gm rfl ?_
                    refine E_gm rfl ?_
                    refine E_gm rfl ?_
                    refine E_gm rfl ?_
                    refine E_gz rfl ?_
                    refine E_gz rfl ?_
                    refine E_gz rfl ?_
                    refine E_gm rfl ?_
                    refine E_pt rfl rfl ?_
                    refine E_nil ?_
                    exact E_jx _ h (wk_rn [some (0, 0)] rfl (Nat.le_of_ble_eq_true rfl) ⟨(rn_obS rfl rfl (.cons (rn_b (Graph.enc.blws 0)) (.cons (rn_b (cp_blw (Graph.enc.blw _ 0))) (.cons (rn_b rfl) (.nil (Nat.zero_le _))))) rfl), trivial⟩ ⟨(rn_ptr rfl rfl rfl rfl), (rn_b (cp_blw (Graph.enc.blw _ 0))), (rn_b rfl), (rn_b rfl), (rn_b ((encI .i64).blws 0)), (rn_b rfl), (rn_b rfl), (rn_b rfl), trivial⟩)
                · rw [ite_t hb] at h
                  refine E_gm rfl ?_
                  refine E_gm rfl ?_
                  refine E_gm rfl ?_
                  refine E_gm rfl ?_
                  refine E_gm rfl ?_
                  refine E_gm rfl ?_
                  refine E_gm rfl ?_
                  refine E_pt rfl rfl ?_
                  refine E_mv (v' := (.bool true)) rfl ?_
                  refine E_gm rfl ?_
                  refine E_gm rfl ?_
                  refine E_gm rfl ?_
                  refine E_gm rfl ?_
                  refine E_gm rfl ?_
                  refine E_gz rfl ?_
                  refine E_gz rfl ?_
                  refine E_gz rfl ?_
                  refine E_gm rfl ?_
                  refine E_pt rfl rfl ?_
                  refine E_nil ?_
                  exact E_jx _ h (wk_rn [some (0, 0)] rfl (Nat.le_of_ble_eq_true rfl) ⟨(rn_obS rfl rfl (.cons (rn_b (Graph.enc.blws 0)) (.cons (rn_b (cp_blw (Graph.enc.blw _ 0))) (.cons (rn_b rfl) (.nil (Nat.zero_le _))))) rfl), trivial⟩ ⟨(rn_ptr rfl rfl rfl rfl), (rn_b (cp_blw (Graph.enc.blw _ 0))), (rn_b rfl), (rn_b rfl), (rn_b ((encI .i64).blws 0)), (rn_b rfl), (rn_b rfl), (rn_b rfl), trivial⟩)
              · rw [ite_t hb] at h
                refine E_gm rfl ?_
                refine E_gm rfl ?_
                refine E_gm rfl ?_
                refine E_gm rfl ?_
                refine E_gm rfl ?_
                refine E_gm rfl ?_
                refine E_pt rfl rfl ?_
                refine E_mv (v' := (.bool true)) rfl ?_
                refine E_gm rfl ?_
                refine E_gm rfl ?_
                refine E_gm rfl ?_
                refine E_gm rfl ?_
                refine E_gm rfl ?_
                refine E_gm rfl ?_
                refine E_gm rfl ?_
                refine E_gm rfl ?_
                refine E_pt rfl rfl ?_
                refine E_mv (v' := (.bool true)) rfl ?_
                refine E_gm rfl ?_
                refine E_gm rfl ?_
                refine E_gm rfl ?_
                refine E_gm rfl ?_
                refine E_gm rfl ?_
                refine E_gz rfl ?_
                refine E_gz rfl ?_
                refine E_gz rfl ?_
                refine E_gm rfl ?_
                refine E_pt rfl rfl ?_
                refine E_nil ?_
                exact E_jx _ h (wk_rn [some (0, 0)] rfl (Nat.le_of_ble_eq_true rfl) ⟨(rn_obS rfl rfl (.cons (rn_b (Graph.enc.blws 0)) (.cons (rn_b (cp_blw (Graph.enc.blw _ 0))) (.cons (rn_b rfl) (.nil (Nat.zero_le _))))) rfl), trivial⟩ ⟨(rn_ptr rfl rfl rfl rfl), (rn_b (cp_blw (Graph.enc.blw _ 0))), (rn_b rfl), (rn_b rfl), (rn_b ((encI .i64).blws 0)), (rn_b rfl), (rn_b rfl), (rn_b rfl), trivial⟩)
            · refine E_sq ?_
              refine E_cs (t := s_13) rfl (fun hb => ?_) (fun hb => ?_)
              · rw [ite_t hb] at h
                refine E_sq ?_
                refine E_reg ?_
                refine E_mv (v' := (.bool false)) rfl ?_
                refine E_nil ?_
                refine E_nx ?_
                refine E_ret ?_
                refine E_thr ?_
                cases h
                refine L_rrO rfl (fun h => ?_)
                refine E_thr ?_
                cases h
                exact ⟨trivial, _, _, rfl, gwk_rn [some (0, 0)] rfl (Nat.le_of_ble_eq_true rfl) ⟨(rn_obS rfl rfl (.cons (rn_b (Graph.enc.blws 0)) (.cons (rn_b (cp_blw (Graph.enc.blw _ 0))) (.cons (rn_b rfl) (.nil (Nat.zero_le _))))) rfl), trivial⟩, (rn_b rfl)⟩
              · rw [ite_f hb] at h
                refine E_skip ?_
                refine E_nx ?_
                refine E_sq ?_
                refine E_reg ?_
                refine E_mv (v' := (.cptr (Graph.av c_g_00).cells 0)) rfl ?_
                refine E_op0 (v' := (.cptr (Graph.av c_g_00).cells 0)) rfl rfl ?_
                refine E_op0 (v' := (.cptr (Graph.av c_g_00).cells 3)) rfl rfl ?_
                refine E_op0 (v' := (.sl false 1 (List.map (avI .i64) c_g_00.Init))) rfl rfl ?_
                refine E_mv (v' := (.int .i64 (i_9 : Int))) rfl ?_
                obtain ⟨y_16, hy_16, h⟩ := bd_some h
                refine E_iadF rfl rfl hy_16 ?_
                refine E_op0 (v' := (.int .i64 y_16)) rfl rfl ?_
                refine E_mv (v' := (.int .i64 y_16)) rfl ?_
                refine E_nil ?_
                refine E_nx ?_
                refine E_jp h (fun s_18 => [(0, (.ptr 0 0 0)), (3, (.cptr (Graph.av c_g_00).cells 0)), (90, (.sl false 1 (List.map (avI .i64) c_g_00.Params))), (91, (.int .i64 (List.length c_g_00.Params : Int))), (92, (.int .i64 (i_9 : Int))), (150, (.bool s_18.1))]) (fun s_18 => [.arr 0 [(.sl false 8 (List.map Graph.av s_18.2.1)), (.cptr (Graph.av s_18.2.2.1).cells 0), (.bool s_18.2.2.2)]]) (fun k_17 h => ?_) (fun s_18 h => ?_)
                · refine E_reg ?_
                  refine E_mv (v' := (.int .i64 y_16)) rfl ?_
                  refine E_op0 (v' := (.bool (y_16 != (-1)))) rfl rfl ?_
                  refine E_mv (v' := (.bool (y_16 != (-1)))) rfl ?_
                  refine E_gsT (b := (y_16 != (-1))) rfl rfl rfl (fun hb => ?_) (fun hb => ?_)
                  · rw [ite_t hb] at h
                    refine E_mv (v' := (.ptr 0 0 0)) rfl ?_
                    refine E_gh rfl ?_
                    refine E_mv (v' := (.int .i64 y_16)) rfl ?_
                    refine E_gh rfl ?_
                    obtain ⟨cel_19, hcel_19, h⟩ := bd_some h
                    refine E_callF (S' := [.arr 0 [(.sl false 8 (List.map Graph.av cel_19.2.1)), (.cptr (Graph.av cel_19.2.2.1).cells 0), (.bool cel_19.2.2.2)]]) (r' := (.bool cel_19.1)) (ir_checker_cell_pNCN_ev hcel_19) [0] rfl rfl (by decide) rfl rfl ⟨(fr_in rfl rfl (.cons (.base (Graph.enc.blws 0) (.refl _)) (.cons (rn_b (cp_blw (Graph.enc.blw _ 0))) (.cons (.base rfl (.refl _)) (.nil (Nat.zero_le _)))))), trivial⟩ ⟨(fr_outS rfl rfl (.cons (rn_b (Graph.enc.blws 0)) (.cons (rn_b (cp_blw (Graph.enc.blw _ 0))) (.cons (rn_b rfl) (.nil (Nat.zero_le _))))) rfl rfl), trivial⟩ ⟨.inl rfl, trivial⟩ rfl (.cons (fi_ptr rfl rfl rfl rfl) (.cons (.base rfl (.refl _)) (.nil (Nat.zero_le _)))) (rn_b rfl) ?_
                    refine E_gh rfl ?_
                    refine E_op0 (v' := (.bool (!cel_19.1))) rfl rfl ?_
                    refine E_gh rfl ?_
                    refine E_mv (v' := (.bool (!cel_19.1))) rfl ?_
                    refine E_gsT (b := (!cel_19.1)) rfl rfl rfl (fun hb => ?_) (fun hb => ?_)
                    · rw [ite_f hb] at h
                      refine E_mv (v' := (.ptr 0 0 0)) rfl ?_
                      refine E_gh rfl ?_
                      refine E_mv (v' := (.int .i64 p_10)) rfl ?_
                      refine E_gh rfl ?_
                      refine E_opw (v' := (.sl true 1 (List.map (avI .i64) [p_10]))) rfl (.refl _) rfl ?_
                      refine E_gh rfl ?_
                      obtain ⟨vis_20, hvis_20, h⟩ := bd_some h
                      refine E_callF (S' := [.arr 0 [(.sl false 8 (List.map Graph.av vis_20.2.1)), (.cptr (Graph.av vis_20.2.2.1).cells 0), (.bool vis_20.2.2.2)]]) (r' := (.bool vis_20.1)) (ir_checker_is_pNCN_ev hvis_20) [0] rfl rfl (by decide) rfl rfl ⟨(fr_in rfl rfl (.cons (.base (Graph.enc.blws 0) (.refl _)) (.cons (rn_b (cp_blw (Graph.enc.blw _ 0))) (.cons (.base rfl (.refl _)) (.nil (Nat.zero_le _)))))), trivial⟩ ⟨(fr_outS rfl rfl (.cons (rn_b (Graph.enc.blws 0)) (.cons (rn_b (cp_blw (Graph.enc.blw _ 0))) (.cons (rn_b rfl) (.nil (Nat.zero_le _))))) rfl rfl), trivial⟩ ⟨.inl rfl, trivial⟩ rfl (.cons (fi_ptr rfl rfl rfl rfl) (.cons (.base rfl (.refl _)) (.cons (.base ((encI .i64).blws 0) .ex) (.nil (Nat.zero_le _))))) (rn_b rfl) ?_
                      refine E_gh rfl ?_
                      refine E_op0 (v' := (.bool (!vis_20.1))) rfl rfl ?_
                      refine E_gh rfl ?_
                      refine E_pf rfl rfl ?_
                      refine E_pt rfl rfl ?_
                      refine E_nil ?_
                      exact E_jx _ h (wk_rn [some (0, 0)] rfl (Nat.le_of_ble_eq_true rfl) ⟨(rn_obS rfl rfl (.cons (rn_b (Graph.enc.blws 0)) (.cons (rn_b (cp_blw (Graph.enc.blw _ 0))) (.cons (rn_b rfl) (.nil (Nat.zero_le _))))) rfl), trivial⟩ ⟨(rn_ptr rfl rfl rfl rfl), (rn_b (cp_blw (Graph.enc.blw _ 0))), (rn_b ((encI .i64).blws 0)), (rn_b rfl), (rn_b rfl), (rn_b rfl), trivial⟩)
                    · rw [ite_t hb] at h
                      refine E_gm rfl ?_
                      refine E_gm rfl ?_
                      refine E_gm rfl ?_
                      refine E_gm rfl ?_
                      refine E_gh rfl ?_
                      refine E_pt rfl rfl ?_
                      refine E_pt rfl rfl ?_
                      refine E_nil ?_
                      exact E_jx _ h (wk_rn [some (0, 0)] rfl (Nat.le_of_ble_eq_true rfl) ⟨(rn_obS rfl rfl (.cons (rn_b (Graph.enc.blws 0)) (.cons (rn_b (cp_blw (Graph.enc.blw _ 0))) (.cons (rn_b rfl) (.nil (Nat.zero_le _))))) rfl), trivial⟩ ⟨(rn_ptr rfl rfl rfl rfl), (rn_b (cp_blw (Graph.enc.blw _ 0))), (rn_b ((encI .i64).blws 0)), (rn_b rfl), (rn_b rfl), (rn_b rfl), trivial⟩)
                  · rw [ite_f hb] at h
                    refine E_gm rfl ?_
                    refine E_gm rfl ?_
                    refine E_gm rfl ?_
                    refine E_gm rfl ?_
                    refine E_gz rfl ?_
                    refine E_gz rfl ?_
                    refine E_gz rfl ?_
                    refine E_gz rfl ?_
                    refine E_gz rfl ?_
                    refine E_gm rfl ?_
                    refine E_pf rfl rfl ?_
                    refine E_nil ?_
                    exact E_jx _ h (wk_rn [some (0, 0)] rfl (Nat.le_of_ble_eq_true rfl) ⟨(rn_obS rfl rfl (.cons (rn_b (Graph.enc.blws 0)) (.cons (rn_b (cp_blw (Graph.enc.blw _ 0))) (.cons (rn_b rfl) (.nil (Nat.zero_le _))))) rfl), trivial⟩ ⟨(rn_ptr rfl rfl rfl rfl), (rn_b (cp_blw (Graph.enc.blw _ 0))), (rn_b ((encI .i64).blws 0)), (rn_b rfl), (rn_b rfl), (rn_b rfl), trivial⟩)
                · refine E_cs (t := s_18.1) rfl (fun hb => ?_) (fun hb => ?_)
                  · rw [ite_t hb] at h
                    refine E_sq ?_
                    refine E_reg ?_
                    refine E_mv (v' := (.bool false)) rfl ?_
                    refine E_nil ?_
                    refine E_nx ?_
                    refine E_ret ?_
                    cases h
                    refine L_rrO rfl (fun h => ?_)
                    refine E_thr ?_
                    cases h
                    exact ⟨trivial, _, _, rfl, gwk_rn [some (0, 0)] rfl (Nat.le_of_ble_eq_true rfl) ⟨(rn_obS rfl rfl (.cons (rn_b (Graph.enc.blws 0)) (.cons (rn_b (cp_blw (Graph.enc.blw _ 0))) (.cons (rn_b rfl) (.nil (Nat.zero_le _))))) rfl), trivial⟩, (rn_b rfl)⟩
                  · rw [ite_f hb] at h
                    refine E_skip ?_
                    cases h
                    exact L_nn rfl (wk_rn [some (0, 0)] rfl (Nat.le_of_ble_eq_true rfl) ⟨(rn_obS rfl rfl (.cons (rn_b (Graph.enc.blws 0)) (.cons (rn_b (cp_blw (Graph.enc.blw _ 0))) (.cons (rn_b rfl) (.nil (Nat.zero_le _))))) rfl), trivial⟩ ⟨(rn_b rfl), (rn_b rfl), (rn_ptr rfl rfl rfl rfl), (rn_b (cp_blw (Graph.enc.blw _ 0))), (rn_b ((encI .i64).blws 0)), trivial⟩)
          · refine X_nx hw ?_
            refine E_jp h (fun s_22 => [(2, (.bool s_22))]) (fun s_22 => [.arr 0 [(.sl false 8 (List.map Graph.av s_8.1)), (.cptr (Graph.av s_8.2.1).cells 0), (.bool s_8.2.2)]]) (fun k_21 h => ?_) (fun s_22 h => ?_)
            · refine E_reg ?_
              refine E_mv (v' := (.cptr (Graph.av c_g_00).cells 0)) rfl ?_
              refine E_op0 (v' := (.cptr (Graph.av c_g_00).cells 0)) rfl rfl ?_
              refine E_op0 (v' := (.cptr (Graph.av c_g_00).cells 6)) rfl rfl ?_
              refine E_op0 (v' := (.sl false 12 (List.map Node.av c_g_00.Nodes))) rfl rfl ?_
              refine E_len rfl ?_
              refine E_op0 (v' := (.bool (decide ((List.length c_g_00.Nodes : Int) > 0)))) rfl rfl ?_
              refine E_mv (v' := (.bool (decide ((List.length c_g_00.Nodes : Int) > 0)))) rfl ?_
              refine E_gsT (b := (decide ((List.length c_g_00.Nodes : Int) > 0))) rfl rfl rfl (fun hb => ?_) (fun hb => ?_)
              · rw [ite_t hb] at h
                refine E_mv (v' := (.cptr (Graph.av c_g_00).cells 0)) rfl ?_
                refine E_gh rfl ?_
                refine E_op0 (v' := (.cptr (Graph.av c_g_00).cells 0)) rfl rfl ?_
                refine E_gh rfl ?_
                refine E_op0 (v' := (.cptr (Graph.av c_g_00).cells 6)) rfl rfl ?_
                refine E_gh rfl ?_
                refine E_op0 (v' := (.sl false 12 (List.map Node.av c_g_00.Nodes))) rfl rfl ?_
                refine E_gh rfl ?_
                refine E_len rfl ?_
                refine E_gh rfl ?_
                refine E_op0 (v' := (.bool (decide ((List.length c_g_00.Nodes : Int) ≤ 4096)))) rfl rfl ?_
                refine E_pt rfl rfl ?_
                refine E_mv (v' := (.bool (decide ((List.length c_g_00.Nodes : Int) ≤ 4096)))) rfl ?_
                refine E_gsT (b := (decide ((List.length c_g_00.Nodes : Int) ≤ 4096))) rfl rfl rfl (fun hb => ?_) (fun hb => ?_)
                · rw [ite_t hb] at h
                  refine E_mv (v' := (.cptr (Graph.av c_g_00).cells 0)) rfl ?_
                  refine E_gh rfl ?_
                  refine E_op0 (v' := (.cptr (Graph.av c_g_00).cells 0)) rfl rfl ?_
                  refine E_gh rfl ?_
                  refine E_op0 (v' := (.cptr (Graph.av c_g_00).cells 7)) rfl rfl ?_
                  refine E_gh rfl ?_
                  refine E_op0 (v' := (.int .i64 c_g_00.Entry)) rfl rfl ?_
                  refine E_gh rfl ?_
                  refine E_op0 (v' := (.bool (decide (c_g_00.Entry ≥ 0)))) rfl rfl ?_
                  refine E_pt rfl rfl ?_
                  refine E_mv (v' := (.bool (decide (c_g_00.Entry ≥ 0)))) rfl ?_
                  refine E_gsT (b := (decide (c_g_00.Entry ≥ 0))) rfl rfl rfl (fun hb => ?_) (fun hb => ?_)
                  · rw [ite_t hb] at h
                    refine E_mv (v' := (.cptr (Graph.av c_g_00).cells 0)) rfl ?_
                    refine E_gh rfl ?_
                    refine E_op0 (v' := (.cptr (Graph.av c_g_00).cells 0)) rfl rfl ?_
                    refine E_gh rfl ?_
                    refine E_op0 (v' := (.cptr (Graph.av c_g_00).cells 7)) rfl rfl ?_
                    refine E_gh rfl ?_
                    refine E_op0 (v' := (.int .i64 c_g_00.Entry)) rfl rfl ?_
                    refine E_gh rfl ?_
                    refine E_mv (v' := (.cptr (Graph.av c_g_00).cells 0)) rfl ?_
                    refine E_gh rfl ?_
                    refine E_op0 (v' := (.cptr (Graph.av c_g_00).cells 0)) rfl rfl ?_
                    refine E_gh rfl ?_
                    refine E_op0 (v' := (.cptr (Graph.av c_g_00).cells 6)) rfl rfl ?_
                    refine E_gh rfl ?_
                    refine E_op0 (v' := (.sl false 12 (List.map Node.av c_g_00.Nodes))) rfl rfl ?_
                    refine E_gh rfl ?_
                    refine E_len rfl ?_
                    refine E_gh rfl ?_
                    refine E_op0 (v' := (.bool (decide (c_g_00.Entry < (List.length c_g_00.Nodes : Int))))) rfl rfl ?_
                    refine E_pt rfl rfl ?_
                    refine E_mv (v' := (.bool (decide (c_g_00.Entry < (List.length c_g_00.Nodes : Int))))) rfl ?_
                    refine E_nil ?_
                    exact E_jx _ h (wk_rn [some (0, 0)] rfl (Nat.le_of_ble_eq_true rfl) ⟨(rn_obS rfl rfl (.cons (rn_b (Graph.enc.blws 0)) (.cons (rn_b (cp_blw (Graph.enc.blw _ 0))) (.cons (rn_b rfl) (.nil (Nat.zero_le _))))) rfl), trivial⟩ ⟨(rn_b rfl), trivial⟩)
                  · rw [ite_f hb] at h
                    refine E_gm rfl ?_
                    refine E_gm rfl ?_
                    refine E_gm rfl ?_
                    refine E_gm rfl ?_
                    refine E_gm rfl ?_
                    refine E_gm rfl ?_
                    refine E_gm rfl ?_
                    refine E_gm rfl ?_
                    refine E_gm rfl ?_
                    refine E_pf rfl rfl ?_
                    refine E_mv (v' := (.bool false)) rfl ?_
                    refine E_nil ?_
                    exact E_jx _ h (wk_rn [some (0, 0)] rfl (Nat.le_of_ble_eq_true rfl) ⟨(rn_obS rfl rfl (.cons (rn_b (Graph.enc.blws 0)) (.cons (rn_b (cp_blw (Graph.enc.blw _ 0))) (.cons (rn_b rfl) (.nil (Nat.zero_le _))))) rfl), trivial⟩ ⟨(rn_b rfl), trivial⟩)
                · rw [ite_f hb] at h
                  refine E_gm rfl ?_
                  refine E_gm rfl ?_
                  refine E_gm rfl ?_
                  refine E_gm rfl ?_
                  refine E_pf rfl rfl ?_
                  refine E_mv (v' := (.bool false)) rfl ?_
                  refine E_gm rfl ?_
                  refine E_gm rfl ?_
                  refine E_gm rfl ?_
                  refine E_gm rfl ?_
                  refine E_gm rfl ?_
                  refine E_gm rfl ?_
                  refine E_gm rfl ?_
                  refine E_gm rfl ?_
                  refine E_gm rfl ?_
                  refine E_gm rfl ?_
                  refine E_pf rfl rfl ?_
                  refine E_mv (v' := (.bool false)) rfl ?_
                  refine E_nil ?_
                  exact E_jx _ h (wk_rn [some (0, 0)] rfl (Nat.le_of_ble_eq_true rfl) ⟨(rn_obS rfl rfl (.cons (rn_b (Graph.enc.blws 0)) (.cons (rn_b (cp_blw (Graph.enc.blw _ 0))) (.cons (rn_b rfl) (.nil (Nat.zero_le _))))) rfl), trivial⟩ ⟨(rn_b rfl), trivial⟩)
              · rw [ite_f hb] at h
                refine E_gm rfl ?_
                refine E_gm rfl ?_
                refine E_gm rfl ?_
                refine E_gm rfl ?_
                refine E_gm rfl ?_
                refine E_pf rfl rfl ?_
                refine E_mv (v' := (.bool false)) rfl ?_
                refine E_gm rfl ?_
                refine E_gm rfl ?_
                refine E_gm rfl ?_
                refine E_gm rfl ?_
                refine E_gm rfl ?_
                refine E_pf rfl rfl ?_
                refine E_mv (v' := (.bool false)) rfl ?_
                refine E_gm rfl ?_
                refine E_gm rfl ?_
                refine E_gm rfl ?_
                refine E_gm rfl ?_
                refine E_gm rfl ?_
                refine E_gm rfl ?_
                refine E_gm rfl ?_
                refine E_gm rfl ?_
                refine E_gm rfl ?_
                refine E_gm rfl ?_
                refine E_pf rfl rfl ?_
                refine E_mv (v' := (.bool false)) rfl ?_
                refine E_nil ?_
                exact E_jx _ h (wk_rn [some (0, 0)] rfl (Nat.le_of_ble_eq_true rfl) ⟨(rn_obS rfl rfl (.cons (rn_b (Graph.enc.blws 0)) (.cons (rn_b (cp_blw (Graph.enc.blw _ 0))) (.cons (rn_b rfl) (.nil (Nat.zero_le _))))) rfl), trivial⟩ ⟨(rn_b rfl), trivial⟩)
            · refine E_ret ?_
              cases h
              exact ⟨trivial, _, _, rfl, gwk_rn [some (0, 0)] rfl (Nat.le_of_ble_eq_true rfl) ⟨(rn_obS rfl rfl (.cons (rn_b (Graph.enc.blws 0)) (.cons (rn_b (cp_blw (Graph.enc.blw _ 0))) (.cons (rn_b rfl) (.nil (Nat.zero_le _))))) rfl), trivial⟩, (rn_b rfl)⟩
/- windlass/ir.Next -/
def fc55 : FC := (.seq (.reg [⟨(some 1), none, .op (.box (.t 0))⟩,
  ⟨(some 2), none, .op (.mv (.v .nils))⟩] [])
  (.seq (.seq (.reg [⟨(some 3), none, .op (.fad 0 (.t 1))⟩,
  ⟨(some 4), none, .op (.load none (.t 3))⟩] [])
  (.block 0 (.seq (.seq (.reg [⟨(some 6), none, .op (.bin .none .eql (.t 4) (.v (.int .u8 12)))⟩,
  ⟨(some 5), none, .op (.mv (.t 6))⟩] [])
  (.cond (.t 5)
  .skip
  (.seq (.reg [⟨(some 7), none, .op (.bin .none .eql (.t 4) (.v (.int .u8 14)))⟩,
  ⟨(some 5), none, .op (.mv (.t 7))⟩] [])
  (.cond (.t 5)
  .skip
  (.reg [⟨(some 8), none, .op (.bin .none .eql (.t 4) (.v (.int .u8 18)))⟩,
  ⟨(some 5), none, .op (.mv (.t 8))⟩] [])))))
  (.cond (.t 5)
  (.seq (.reg [⟨(some 2), none, .op (.mv (.v .nils))⟩] [])
  .ret)
  (.seq (.reg [⟨(some 10), none, .op (.bin .none .eql (.t 4) (.v (.int .u8 9)))⟩,
  ⟨(some 9), none, .op (.mv (.t 10))⟩] [])
  (.cond (.t 9)
  (.seq (.reg [⟨(some 11), none, .op (.fad 11 (.t 1))⟩,
  ⟨(some 12), none, .op (.load none (.t 11))⟩,
  ⟨(some 13), none, .op (.fad 10 (.t 1))⟩,
  ⟨(some 14), none, .op (.load none (.t 13))⟩,
  ⟨(some 15), none, .op (.bin .none .neq (.t 12) (.t 14))⟩] [])
  (.cond (.t 15)
  (.seq (.reg [⟨(some 16), none, .op (.fad 10 (.t 1))⟩,
  ⟨(some 17), none, .op (.load none (.t 16))⟩,
  ⟨(some 18), none, .op (.fad 11 (.t 1))⟩,
  ⟨(some 19), none, .op (.load none (.t 18))⟩,
  ⟨(some 20), none, .op (.bsl none [(.int .i64 0)] 2 [(0, 1, (.t 17)), (1, 1, (.t 19))])⟩,
  ⟨(some 2), none, .op (.mv (.t 20))⟩] [])
  .ret)
  .skip))
  .skip))))))
  (.seq (.seq (.reg [⟨(some 21), none, .op (.fad 0 (.t 1))⟩,
  ⟨(some 22), none, .op (.load none (.t 21))⟩,
  ⟨(some 23), none, .op (.bin .none .lss (.t 22) (.v (.int .u8 1)))⟩,
  ⟨(some 24), none, .op (.mv (.t 23))⟩,
  ⟨(some 25), some (24, false), .op (.fad 0 (.t 1))⟩,
  ⟨(some 26), some (24, false), .op (.load none (.t 25))⟩,
  ⟨(some 27), some (24, false), .op (.bin .none .gtr (.t 26) (.v (.int .u8 18)))⟩,
  ⟨(some 28), none, .op (.pick (.t 24) (.v (.bool true)) (.t 27))⟩] [])
  (.cond (.t 28)
  (.seq (.reg [⟨(some 2), none, .op (.mv (.v .nils))⟩] [])
  .ret)
  .skip))
  (.seq (.reg [⟨(some 29), none, .op (.fad 10 (.t 1))⟩,
  ⟨(some 30), none, .op (.load none (.t 29))⟩,
  ⟨(some 31), none, .op (.bsl none [(.int .i64 0)] 1 [(0, 1, (.t 30))])⟩,
  ⟨(some 2), none, .op (.mv (.t 31))⟩] [])
  .ret))))
theorem fn55 : Fn3 Tryd.prog 55 32 [(2, none)] fc55 := ⟨_, _, Tryd.func55, rfl, rfl, rfl, by kernel_rfl⟩
def ir_Next_s (n_00 : Node) : Option (List Int) :=
  (jp (fun (s_2 : Unit) => (jp (fun (s_6 : Bool) => (if s_6 then (some []) else (some [n_00.Next]))) (fun k_5 => (if (decide (n_00.Op < 1)) then (k_5 true) else (k_5 (decide (n_00.Op > 18))))))) (fun k_1 => (jp (fun (s_4 : Bool) => (if s_4 then (some []) else (if (n_00.Op == 9) then (if (n_00.Else != n_00.Next) then (some [n_00.Next, n_00.Else]) else (k_1 ())) else (k_1 ())))) (fun k_3 => (if (n_00.Op == 12) then (k_3 (n_00.Op == 12)) else (if (n_00.Op == 14) then (k_3 (n_00.Op == 14)) else (k_3 (n_00.Op == 18))))))))
theorem ir_Next_ev {n_00 : Node} {r : (List Int)} (h : ir_Next_s n_00 = some r) : PureEv Tryd.prog 55 [(Node.av n_00)] (.sl false 1 (List.map (avI .i64) r)) := by
  unfold ir_Next_s at h
  refine PureEv_end mixed fn55 (by simp) [] 6 ?_
  unfold fc55
  refine E_sq ?_
  refine E_reg ?_
  refine E_op0 (v' := (.cptr (Node.av n_00).cells 0)) rfl rfl ?_
  refine E_mv (v' := .nils) rfl ?_
  refine E_nil ?_
  refine E_nx ?_
  refine E_as ?_
  refine E_sq ?_
  refine E_reg ?_
  refine E_op0 (v' := (.cptr (Node.av n_00).cells 0)) rfl rfl ?_
  refine E_op0 (v' := (.int .u8 n_00.Op)) rfl rfl ?_
  refine E_nil ?_
  refine E_nx ?_
  refine E_jp h (fun s_2 => [(1, (.cptr (Node.av n_00).cells 0))]) (fun s_2 => []) (fun k_1 h => ?_) (fun s_2 h => ?_)
  · refine E_block ?_
    refine E_as ?_
    refine E_sq ?_
    refine E_reg ?_
    refine E_op0 (v' := (.bool (n_00.Op == 12))) rfl rfl ?_
    refine E_mv (v' := (.bool (n_00.Op == 12))) rfl ?_
    refine E_nil ?_
    refine E_nx ?_
    refine E_jp h (fun s_4 => [(1, (.cptr (Node.av n_00).cells 0)), (4, (.int .u8 n_00.Op)), (5, (.bool s_4))]) (fun s_4 => []) (fun k_3 h => ?_) (fun s_4 h => ?_)
    · refine E_cs (t := (n_00.Op == 12)) rfl (fun hb => ?_) (fun hb => ?_)
      · rw [ite_t hb] at h
        refine E_skip ?_
        exact E_jx _ h (wk_aw ⟨(.refl _), (.refl _), (.refl _), trivial⟩)
      · rw [ite_f hb] at h
        refine E_sq ?_
        refine E_reg ?_
        refine E_op0 (v' := (.bool (n_00.Op == 14))) rfl rfl ?_
        refine E_mv (v' := (.bool (n_00.Op == 14))) rfl ?_
        refine E_nil ?_
        refine E_nx ?_
        refine E_cs (t := (n_00.Op == 14)) rfl (fun hb => ?_) (fun hb => ?_)
        · rw [ite_t hb] at h
          refine E_skip ?_
          exact E_jx _ h (wk_aw ⟨(.refl _), (.refl _), (.refl _), trivial⟩)
        · rw [ite_f hb] at h
          refine E_reg ?_
          refine E_op0 (v' := (.bool (n_00.Op == 18))) rfl rfl ?_
          refine E_mv (v' := (.bool (n_00.Op == 18))) rfl ?_
          refine E_nil ?_
          exact E_jx _ h (wk_aw ⟨(.refl _), (.refl _), (.refl _), trivial⟩)
    · refine E_cs (t := s_4) rfl (fun hb => ?_) (fun hb => ?_)
      · rw [ite_t hb] at h
        refine E_sq ?_
        refine E_reg ?_
        refine E_mv (v' := .nils) rfl ?_
        refine E_nil ?_
        refine E_nx ?_
        refine E_ret ?_
        refine E_blr ?_
        refine E_thr ?_
        cases h
        exact ⟨trivial, _, rfl, (fz_b rfl .nil)⟩
      · rw [ite_f hb] at h
        refine E_sq ?_
        refine E_reg ?_
        refine E_op0 (v' := (.bool (n_00.Op == 9))) rfl rfl ?_
        refine E_mv (v' := (.bool (n_00.Op == 9))) rfl ?_
        refine E_nil ?_
        refine E_nx ?_
        refine E_cs (t := (n_00.Op == 9)) rfl (fun hb => ?_) (fun hb => ?_)
        · rw [ite_t hb] at h
          refine E_sq ?_
          refine E_reg ?_
          refine E_op0 (v' := (.cptr (Node.av n_00).cells 11)) rfl rfl ?_
          refine E_op0 (v' := (.int .i64 n_00.Else)) rfl rfl ?_
          refine E_op0 (v' := (.cptr (Node.av n_00).cells 10)) rfl rfl ?_
          refine E_op0 (v' := (.int .i64 n_00.Next)) rfl rfl ?_
          refine E_op0 (v' := (.bool (n_00.Else != n_00.Next))) rfl rfl ?_
          refine E_nil ?_
          refine E_nx ?_
          refine E_cs (t := (n_00.Else != n_00.Next)) rfl (fun hb => ?_) (fun hb => ?_)
          · rw [ite_t hb] at h
            refine E_sq ?_
            refine E_reg ?_
            refine E_op0 (v' := (.cptr (Node.av n_00).cells 10)) rfl rfl ?_
            refine E_op0 (v' := (.int .i64 n_00.Next)) rfl rfl ?_
            refine E_op0 (v' := (.cptr (Node.av n_00).cells 11)) rfl rfl ?_
            refine E_op0 (v' := (.int .i64 n_00.Else)) rfl rfl ?_
            refine E_opw (v' := (.sl true 1 (List.map (avI .i64) [n_00.Next, n_00.Else]))) rfl (.refl _) rfl ?_
            refine E_mv (v' := (.sl true 1 (List.map (avI .i64) [n_00.Next, n_00.Else]))) rfl ?_
            refine E_nil ?_
            refine E_nx ?_
            refine E_ret ?_
            refine E_blr ?_
            refine E_thr ?_
            cases h
            exact ⟨trivial, _, rfl, (fz_b ((encI .i64).blws 0) .ex)⟩
          · rw [ite_f hb] at h
            refine E_skip ?_
            refine E_bln ?_
            exact E_jx _ h (wk_aw ⟨(.refl _), trivial⟩)
        · rw [ite_f hb] at h
          refine E_skip ?_
          refine E_bln ?_
          exact E_jx _ h (wk_aw ⟨(.refl _), trivial⟩)
  · refine E_as ?_
    refine E_jp h (fun s_6 => [(1, (.cptr (Node.av n_00).cells 0)), (28, (.bool s_6))]) (fun s_6 => []) (fun k_5 h => ?_) (fun s_6 h => ?_)
    · refine E_reg ?_
      refine E_op0 (v' := (.cptr (Node.av n_00).cells 0)) rfl rfl ?_
      refine E_op0 (v' := (.int .u8 n_00.Op)) rfl rfl ?_
      refine E_op0 (v' := (.bool (decide (n_00.Op < 1)))) rfl rfl ?_
      refine E_mv (v' := (.bool (decide (n_00.Op < 1)))) rfl ?_
      refine E_gsT (b := (decide (n_00.Op < 1))) rfl rfl rfl (fun hb => ?_) (fun hb => ?_)
      · rw [ite_f hb] at h
        refine E_op0 (v' := (.cptr (Node.av n_00).cells 0)) rfl rfl ?_
        refine E_gh rfl ?_
        refine E_op0 (v' := (.int .u8 n_00.Op)) rfl rfl ?_
        refine E_gh rfl ?_
        refine E_op0 (v' := (.bool (decide (n_00.Op > 18)))) rfl rfl ?_
        refine E_pf rfl rfl ?_
        refine E_nil ?_
        exact E_jx _ h (wk_aw ⟨(.refl _), (.refl _), trivial⟩)
      · rw [ite_t hb] at h
        refine E_gm rfl ?_
        refine E_gm rfl ?_
        refine E_pt rfl rfl ?_
        refine E_nil ?_
        exact E_jx _ h (wk_aw ⟨(.refl _), (.refl _), trivial⟩)
    · refine E_sq ?_
      refine E_cs (t := s_6) rfl (fun hb => ?_) (fun hb => ?_)
      · rw [ite_t hb] at h
        refine E_sq ?_
        refine E_reg ?_
        refine E_mv (v' := .nils) rfl ?_
        refine E_nil ?_
        refine E_nx ?_
        refine E_ret ?_
        refine E_thr ?_
        cases h
        exact ⟨trivial, _, rfl, (fz_b rfl .nil)⟩
      · rw [ite_f hb] at h
        refine E_skip ?_
        refine E_nx ?_
        refine E_sq ?_
        refine E_reg ?_
        refine E_op0 (v' := (.cptr (Node.av n_00).cells 10)) rfl rfl ?_
        refine E_op0 (v' := (.int .i64 n_00.Next)) rfl rfl ?_
        refine E_opw (v' := (.sl true 1 (List.map (avI .i64) [n_00.Next]))) rfl (.refl _) rfl ?_
        refine E_mv (v' := (.sl true 1 (List.map (avI .i64) [n_00.Next]))) rfl ?_
        refine E_nil ?_
        refine E_nx ?_
        refine E_ret ?_
        cases h
        exact ⟨trivial, _, rfl, (fz_b ((encI .i64).blws 0) .ex)⟩
/- (*windlass/ir.checker).args -/
def fc86 : FC := (.seq (.reg [⟨(some 3), none, .op (.box (.t 1))⟩,
  ⟨(some 4), none, .op (.mv (.v (.bool false)))⟩] [])
  (.seq (.seq (.reg [⟨(some 8), none, .op (.fad 6 (.t 3))⟩,
  ⟨(some 9), none, .op (.load none (.t 8))⟩,
  ⟨(some 10), none, .op (.bin .none .lss (.t 9) (.v (.int .i64 0)))⟩,
  ⟨(some 11), none, .op (.mv (.t 10))⟩,
  ⟨(some 12), some (11, false), .op (.fad 6 (.t 3))⟩,
  ⟨(some 13), some (11, false), .op (.load none (.t 12))⟩,
  ⟨(some 14), some (11, false), .op (.mv (.t 0))⟩,
  ⟨(some 15), some (11, false), .op (.nchk (.t 14))⟩,
  ⟨(some 16), some (11, false), .op (.fad 0 (.t 15))⟩,
  ⟨(some 17), some (11, false), .op (.load none (.t 16))⟩,
  ⟨(some 18), some (11, false), .op (.len .sl (.t 17))⟩,
  ⟨(some 19), some (11, false), .op (.bin .none .geq (.t 13) (.t 18))⟩,
  ⟨(some 20), none, .op (.pick (.t 11) (.v (.bool true)) (.t 19))⟩] [])
  (.cond (.t 20)
  (.seq (.reg [⟨(some 4), none, .op (.mv (.v (.bool false)))⟩] [])
  .ret)
  .skip))
  (.seq (.reg [⟨(some 21), none, .op (.mv (.t 0))⟩,
  ⟨(some 22), none, .op (.nchk (.t 21))⟩,
  ⟨(some 23), none, .op (.fad 0 (.t 22))⟩,
  ⟨(some 24), none, .op (.load none (.t 23))⟩,
  ⟨(some 25), none, .op (.fad 6 (.t 3))⟩,
  ⟨(some 26), none, .op (.load none (.t 25))⟩,
  ⟨(some 27), none, .op (.iad none (some 8) (.t 24) (.t 26))⟩,
  ⟨(some 5), none, .op (.mv (.t 27))⟩] [])
  (.seq (.seq (.reg [⟨(some 28), none, .op (.fad 9 (.t 3))⟩,
  ⟨(some 29), none, .op (.load none (.t 28))⟩,
  ⟨(some 30), none, .op (.len .sl (.t 29))⟩,
  ⟨(some 31), none, .op (.mv (.t 5))⟩,
  ⟨(some 32), none, .op (.nchk (.t 31))⟩,
  ⟨(some 33), none, .op (.fad 0 (.t 32))⟩,
  ⟨(some 34), none, .op (.load none (.t 33))⟩,
  ⟨(some 35), none, .op (.len .sl (.t 34))⟩,
  ⟨(some 36), none, .op (.bin .none .neq (.t 30) (.t 35))⟩] [])
  (.cond (.t 36)
  (.seq (.reg [⟨(some 4), none, .op (.mv (.v (.bool false)))⟩] [])
  .ret)
  .skip))
  (.seq (.seq (.reg [⟨(some 37), none, .op (.fad 9 (.t 3))⟩,
  ⟨(some 38), none, .op (.load none (.t 37))⟩,
  ⟨(some 39), none, .op (.len .sl (.t 38))⟩,
  ⟨(some 40), none, .op (.mv (.v (.int .i64 0)))⟩] [])
  (.block 0 (.loop (.seq (.reg [⟨(some 41), none, .op (.bin .none .lss (.t 40) (.t 39))⟩] [])
  (.seq (.cond (.t 41)
  .skip
  (.exit 0))
  (.seq (.block 1 (.seq (.reg [⟨(some 42), none, .op (.mv (.t 40))⟩,
  ⟨(some 43), none, .op (.iad none none (.t 38) (.t 40))⟩,
  ⟨(some 44), none, .op (.load none (.t 43))⟩,
  ⟨(some 6), none, .op (.mv (.t 42))⟩,
  ⟨(some 7), none, .op (.mv (.t 44))⟩] [])
  (.seq (.reg [⟨(some 45), none, .op (.mv (.t 0))⟩,
  ⟨(some 46), none, .op (.nchk (.t 45))⟩,
  ⟨(some 47), none, .op (.fad 2 (.t 46))⟩,
  ⟨(some 48), none, .op (.load none (.t 47))⟩,
  ⟨(some 49), none, .op (.mv (.t 48))⟩,
  ⟨(some 50), some (49, true), .op (.mv (.t 7))⟩,
  ⟨(some 51), some (49, true), .op (.mv (.t 6))⟩,
  ⟨(some 52), some (49, true), .op (.bin .none .neq (.t 50) (.t 51))⟩,
  ⟨(some 53), none, .op (.pick (.t 49) (.t 52) (.v (.bool false)))⟩,
  ⟨(some 54), none, .op (.mv (.t 53))⟩,
  ⟨(some 55), some (54, false), .op (.mv (.t 0))⟩,
  ⟨(some 56), some (54, false), .op (.nchk (.t 55))⟩,
  ⟨(some 57), some (54, false), .op (.fad 2 (.t 56))⟩,
  ⟨(some 58), some (54, false), .op (.load none (.t 57))⟩,
  ⟨(some 59), some (54, false), .op (.un .not (.t 58))⟩,
  ⟨(some 60), some (54, false), .op (.mv (.t 59))⟩,
  ⟨(some 61), some (60, true), .op (.mv (.t 0))⟩,
  ⟨(some 62), some (60, true), .op (.mv (.t 5))⟩,
  ⟨(some 63), some (60, true), .op (.nchk (.t 62))⟩,
  ⟨(some 64), some (60, true), .op (.fad 1 (.t 63))⟩,
  ⟨(some 65), some (60, true), .op (.load none (.t 64))⟩,
  ⟨(some 66), some (60, true), .op (.mv (.t 5))⟩,
  ⟨(some 67), some (60, true), .op (.nchk (.t 66))⟩,
  ⟨(some 68), some (60, true), .op (.fad 0 (.t 67))⟩,
  ⟨(some 69), some (60, true), .op (.load none (.t 68))⟩,
  ⟨(some 70), some (60, true), .op (.mv (.t 6))⟩,
  ⟨(some 71), some (60, true), .op (.iad none none (.t 69) (.t 70))⟩,
  ⟨(some 72), some (60, true), .op (.load none (.t 71))⟩,
  ⟨(some 73), some (60, true), .op (.iad none none (.t 65) (.t 72))⟩,
  ⟨(some 74), some (60, true), .op (.load none (.t 73))⟩,
  ⟨(some 75), some (60, true), .op (.mv (.t 7))⟩,
  ⟨(some 76), some (60, true), .op (.bsl none [(.int .i64 0)] 1 [(0, 1, (.t 75))])⟩,
  ⟨(some 77), some (60, true), .call 85 [(.t 61), (.t 74), (.t 76)]⟩,
  ⟨(some 78), some (60, true), .op (.un .not (.t 77))⟩,
  ⟨(some 79), some (54, false), .op (.pick (.t 60) (.t 78) (.v (.bool false)))⟩,
  ⟨(some 80), none, .op (.pick (.t 54) (.v (.bool true)) (.t 79))⟩] [(20, 31), (24, 31), (27, 31), (29, 31)])
  (.cond (.t 80)
  (.seq (.reg [⟨(some 4), none, .op (.mv (.v (.bool false)))⟩] [])
  .ret)
  .skip))))
  (.reg [⟨(some 81), none, .op (.bin .none .add (.t 40) (.v (.int .i64 1)))⟩,
  ⟨(some 40), none, .op (.mv (.t 81))⟩] [])))))))
  (.seq (.reg [⟨(some 4), none, .op (.mv (.v (.bool true)))⟩] [])
  .ret))))))
theorem fn86 : Fn3 Tryd.prog 86 82 [(4, none)] fc86 := ⟨_, _, Tryd.func86, rfl, rfl, rfl, by kernel_rfl⟩
def ir_checker_args_pNCN_s (c_all_00 : (List Graph)) (c_g_00 : Graph) (c_bound_00 : Bool) (n_01 : Node) : Option (Bool × (List Graph) × Graph × Bool) :=
  (jp (fun (s_2 : (Node × Bool)) => (if s_2.2 then (some (false, c_all_00, c_g_00, c_bound_00)) else ((getI c_all_00 s_2.1.F).bind fun y_3 => (if ((List.length s_2.1.Args : Int) != (List.length y_3.Params : Int)) then (some (false, c_all_00, c_g_00, c_bound_00)) else ((rng (fun (i_5 : Nat) (p_6 : Int) (s_4 : ((List Graph) × Graph × Bool)) => ((jp (fun (s_9 : (Bool × (List Graph) × Graph × Bool)) => (if s_9.1 then (some (.ret (some (false, s_9.2.1, s_9.2.2.1, s_9.2.2.2)))) else (some (.nxt (s_9.2.1, s_9.2.2.1, s_9.2.2.2))))) (fun k_8 => (if s_4.2.2 then (if (p_6 != (i_5 : Int)) then (k_8 (true, s_4.1, s_4.2.1, s_4.2.2)) else (if (!s_4.2.2) then ((getI y_3.Params (i_5 : Int)).bind fun y_10 => ((getI y_3.Kinds y_10).bind fun y_11 => ((ir_checker_is_pNCN_s s_4.1 s_4.2.1 s_4.2.2 y_11 ([p_6])).bind fun (vis_12 : (Bool × (List Graph) × Graph × Bool)) => (k_8 ((!vis_12.1), vis_12.2.1, vis_12.2.2.1, vis_12.2.2.2))))) else (k_8 (false, s_4.1, s_4.2.1, s_4.2.2)))) else (if (!s_4.2.2) then ((getI y_3.Params (i_5 : Int)).bind fun y_13 => ((getI y_3.Kinds y_13).bind fun y_14 => ((ir_checker_is_pNCN_s s_4.1 s_4.2.1 s_4.2.2 y_14 ([p_6])).bind fun (vis_15 : (Bool × (List Graph) × Graph × Bool)) => (k_8 ((!vis_15.1), vis_15.2.1, vis_15.2.2.1, vis_15.2.2.2))))) else (k_8 (false, s_4.1, s_4.2.1, s_4.2.2)))))) : Option (Stp ((List Graph) × Graph × Bool) (Option (Bool × (List Graph) × Graph × Bool))))) s_2.1.Args (c_all_00, c_g_00, c_bound_00)).bind (oc (fun (s_4 : ((List Graph) × Graph × Bool)) => (some (true, s_4.1, s_4.2.1, s_4.2.2))))))))) (fun k_1 => (if (decide (n_01.F < 0)) then (k_1 (n_01, true)) else (k_1 (n_01, (decide (n_01.F ≥ (List.length c_all_00 : Int))))))))
theorem ir_checker_args_pNCN_ev {c_all_00 : (List Graph)} {c_g_00 : Graph} {c_bound_00 : Bool} {n_01 : Node} {r : (Bool × (List Graph) × Graph × Bool)} (h : ir_checker_args_pNCN_s c_all_00 c_g_00 c_bound_00 n_01 = some r) : Ev Tryd.prog 86 [(.ptr 0 0 0), (Node.av n_01)] (hp [.arr 0 [(.sl false 8 (List.map Graph.av c_all_00)), (.cptr (Graph.av c_g_00).cells 0), (.bool c_bound_00)]]) (.bool r.1) (hp [.arr 0 [(.sl false 8 (List.map Graph.av r.2.1)), (.cptr (Graph.av r.2.2.1).cells 0), (.bool r.2.2.2)]]) := by
  unfold ir_checker_args_pNCN_s at h
  refine Ev_end mixed fn86 (by simp) [] ?_
  unfold fc86
  refine E_sq ?_
  refine E_reg ?_
  refine E_op0 (v' := (.cptr (Node.av n_01).cells 0)) rfl rfl ?_
  refine E_mv (v' := (.bool false)) rfl ?_
  refine E_nil ?_
  refine E_nx ?_
  refine E_as ?_
  refine E_jp h (fun s_2 => [(0, (.ptr 0 0 0)), (3, (.cptr (Node.av s_2.1).cells 0)), (20, (.bool s_2.2))]) (fun s_2 => [.arr 0 [(.sl false 8 (List.map Graph.av c_all_00)), (.cptr (Graph.av c_g_00).cells 0), (.bool c_bound_00)]]) (fun k_1 h => ?_) (fun s_2 h => ?_)
  · refine E_reg ?_
    refine E_op0 (v' := (.cptr (Node.av n_01).cells 6)) rfl rfl ?_
    refine E_op0 (v' := (.int .i64 n_01.F)) rfl rfl ?_
    refine E_op0 (v' := (.bool (decide (n_01.F < 0)))) rfl rfl ?_
    refine E_mv (v' := (.bool (decide (n_01.F < 0)))) rfl ?_
    refine E_gsT (b := (decide (n_01.F < 0))) rfl rfl rfl (fun hb => ?_) (fun hb => ?_)
    · rw [ite_f hb] at h
      refine E_op0 (v' := (.cptr (Node.av n_01).cells 6)) rfl rfl ?_
      refine E_gh rfl ?_
      refine E_op0 (v' := (.int .i64 n_01.F)) rfl rfl ?_
      refine E_gh rfl ?_
      refine E_mv (v' := (.ptr 0 0 0)) rfl ?_
      refine E_gh rfl ?_
      refine E_op0 (v' := (.ptr 0 0 0)) rfl rfl ?_
      refine E_gh rfl ?_
      refine E_op0 (v' := (.ptr 0 0 0)) rfl rfl ?_
      refine E_gh rfl ?_
      refine E_op (v' := (.sl false 8 (List.map Graph.av c_all_00))) (S' := [.arr 0 [(.sl false 8 (List.map Graph.av c_all_00)), (.cptr (Graph.av c_g_00).cells 0), (.bool c_bound_00)]]) rfl rfl rfl ?_
      refine E_gh rfl ?_
      refine E_len rfl ?_
      refine E_gh rfl ?_
      refine E_op0 (v' := (.bool (decide (n_01.F ≥ (List.length c_all_00 : Int))))) rfl rfl ?_
      refine E_pf rfl rfl ?_
      refine E_nil ?_
      exact E_jx _ h (wk_rn [some (0, 0)] rfl (Nat.le_of_ble_eq_true rfl) ⟨(rn_obS rfl rfl (.cons (rn_b (Graph.enc.blws 0)) (.cons (rn_b (cp_blw (Graph.enc.blw _ 0))) (.cons (rn_b rfl) (.nil (Nat.zero_le _))))) rfl), trivial⟩ ⟨(rn_ptr rfl rfl rfl rfl), (rn_b (cp_blw (Node.enc.blw _ 0))), (rn_b rfl), trivial⟩)
    · rw [ite_t hb] at h
      refine E_gm rfl ?_
      refine E_gm rfl ?_
      refine E_gm rfl ?_
      refine E_gm rfl ?_
      refine E_gm rfl ?_
      refine E_gm rfl ?_
      refine E_gm rfl ?_
      refine E_pt rfl rfl ?_
      refine E_nil ?_
      exact E_jx _ h (wk_rn [some (0, 0)] rfl (Nat.le_of_ble_eq_true rfl) ⟨(rn_obS rfl rfl (.cons (rn_b (Graph.enc.blws 0)) (.cons (rn_b (cp_blw (Graph.enc.blw _ 0))) (.cons (rn_b rfl) (.nil (Nat.zero_le _))))) rfl), trivial⟩ ⟨(rn_ptr rfl rfl rfl rfl), (rn_b (cp_blw (Node.enc.blw _ 0))), (rn_b rfl), trivial⟩)
  · refine E_sq ?_
    refine E_cs (t := s_2.2) rfl (fun hb => ?_) (fun hb => ?_)
    · rw [ite_t hb] at h
      refine E_sq ?_
      refine E_reg ?_
      refine E_mv (v' := (.bool false)) rfl ?_
      refine E_nil ?_
      refine E_nx ?_
      refine E_ret ?_
      refine E_thr ?_
      cases h
      exact ⟨trivial, _, _, rfl, gwk_rn [some (0, 0)] rfl (Nat.le_of_ble_eq_true rfl) ⟨(rn_obS rfl rfl (.cons (rn_b (Graph.enc.blws 0)) (.cons (rn_b (cp_blw (Graph.enc.blw _ 0))) (.cons (rn_b rfl) (.nil (Nat.zero_le _))))) rfl), trivial⟩, (rn_b rfl)⟩
    · rw [ite_f hb] at h
      refine E_skip ?_
      refine E_nx ?_
      refine E_sq ?_
      refine E_reg ?_
      refine E_mv (v' := (.ptr 0 0 0)) rfl ?_
      refine E_op0 (v' := (.ptr 0 0 0)) rfl rfl ?_
      refine E_op0 (v' := (.ptr 0 0 0)) rfl rfl ?_
      refine E_op (v' := (.sl false 8 (List.map Graph.av c_all_00))) (S' := [.arr 0 [(.sl false 8 (List.map Graph.av c_all_00)), (.cptr (Graph.av c_g_00).cells 0), (.bool c_bound_00)]]) rfl rfl rfl ?_
      refine E_op0 (v' := (.cptr (Node.av s_2.1).cells 6)) rfl rfl ?_
      refine E_op0 (v' := (.int .i64 s_2.1.F)) rfl rfl ?_
      obtain ⟨y_3, hy_3, h⟩ := bd_some h
      refine E_iadF rfl rfl hy_3 ?_
      refine E_mv (v' := (.cptr (Graph.av y_3).cells 0)) rfl ?_
      refine E_nil ?_
      refine E_nx ?_
      refine E_as ?_
      refine E_sq ?_
      refine E_reg ?_
      refine E_op0 (v' := (.cptr (Node.av s_2.1).cells 9)) rfl rfl ?_
      refine E_op0 (v' := (.sl false 1 (List.map (avI .i64) s_2.1.Args))) rfl rfl ?_
      refine E_len rfl ?_
      refine E_mv (v' := (.cptr (Graph.av y_3).cells 0)) rfl ?_
      refine E_op0 (v' := (.cptr (Graph.av y_3).cells 0)) rfl rfl ?_
      refine E_op0 (v' := (.cptr (Graph.av y_3).cells 0)) rfl rfl ?_
      refine E_op0 (v' := (.sl false 1 (List.map (avI .i64) y_3.Params))) rfl rfl ?_
      refine E_len rfl ?_
      refine E_op0 (v' := (.bool ((List.length s_2.1.Args : Int) != (List.length y_3.Params : Int)))) rfl rfl ?_
      refine E_nil ?_
      refine E_nx ?_
      refine E_sq ?_
      refine E_cs (t := ((List.length s_2.1.Args : Int) != (List.length y_3.Params : Int))) rfl (fun hb => ?_) (fun hb => ?_)
      · rw [ite_t hb] at h
        refine E_sq ?_
        refine E_reg ?_
        refine E_mv (v' := (.bool false)) rfl ?_
        refine E_nil ?_
        refine E_nx ?_
        refine E_ret ?_
        refine E_thr ?_
        cases h
        exact ⟨trivial, _, _, rfl, gwk_rn [some (0, 0)] rfl (Nat.le_of_ble_eq_true rfl) ⟨(rn_obS rfl rfl (.cons (rn_b (Graph.enc.blws 0)) (.cons (rn_b (cp_blw (Graph.enc.blw _ 0))) (.cons (rn_b rfl) (.nil (Nat.zero_le _))))) rfl), trivial⟩, (rn_b rfl)⟩
      · rw [ite_f hb] at h
        refine E_skip ?_
        refine E_nx ?_
        refine E_as ?_
        refine E_sq ?_
        refine E_reg ?_
        refine E_op0 (v' := (.cptr (Node.av s_2.1).cells 9)) rfl rfl ?_
        refine E_op0 (v' := (.sl false 1 (List.map (avI .i64) s_2.1.Args))) rfl rfl ?_
        refine E_len rfl ?_
        refine E_mv (v' := (.int .i64 0)) rfl ?_
        refine E_nil ?_
        refine E_nx ?_
        refine E_sq ?_
        refine E_rngO (fun s_4 => [(0, (.ptr 0 0 0)), (5, (.cptr (Graph.av y_3).cells 0)), (38, (.sl false 1 (List.map (avI .i64) s_2.1.Args)))]) (fun s_4 => [.arr 0 [(.sl false 8 (List.map Graph.av s_4.1)), (.cptr (Graph.av s_4.2.1).cells 0), (.bool s_4.2.2)]]) h (by decide) (by decide) (fun _ => ⟨rfl, rfl, rfl, rfl⟩) (wk_rn [some (0, 0)] rfl (Nat.le_of_ble_eq_true rfl) ⟨(rn_obS rfl rfl (.cons (rn_b (Graph.enc.blws 0)) (.cons (rn_b (cp_blw (Graph.enc.blw _ 0))) (.cons (rn_b rfl) (.nil (Nat.zero_le _))))) rfl), trivial⟩ ⟨(rn_b rfl), (rn_b rfl), (rn_ptr rfl rfl rfl rfl), (rn_b (cp_blw (Graph.enc.blw _ 0))), (rn_b ((encI .i64).blws 0)), trivial⟩) (fun i_5 p_6 s_4 c hx_7 hlt h => ?_) (fun s_4 fr' S' h hw => ?_)
        · refine E_sq ?_
          refine E_reg ?_
          refine E_mv (v' := (.int .i64 (i_5 : Int))) rfl ?_
          refine E_iadF rfl rfl (getI_of hx_7) ?_
          refine E_op0 (v' := (.int .i64 p_6)) rfl rfl ?_
          refine E_mv (v' := (.int .i64 (i_5 : Int))) rfl ?_
          refine E_mv (v' := (.int .i64 p_6)) rfl ?_
          refine E_nil ?_
          refine E_nx ?_
          refine E_jp h (fun s_9 => [(0, (.ptr 0 0 0)), (5, (.cptr (Graph.av y_3).cells 0)), (38, (.sl false 1 (List.map (avI .i64) s_2.1.Args))), (39, (.int .i64 (List.length s_2.1.Args : Int))), (40, (.int .i64 (i_5 : Int))), (80, (.bool s_9.1))]) (fun s_9 => [.arr 0 [(.sl false 8 (List.map Graph.av s_9.2.1)), (.cptr (Graph.av s_9.2.2.1).cells 0), (.bool s_9.2.2.2)]]) (fun k_8 h => ?_) (fun s_9 h => ?_)
          · refine E_regp ?_
            refine E_mv (v' := (.ptr 0 0 0)) rfl ?_
            refine E_op0 (v' := (.ptr 0 0 0)) rfl rfl ?_
            refine E_op0 (v' := (.ptr 0 0 2)) rfl rfl ?_
            refine E_op (v' := (.bool s_4.2.2)) (S' := [.arr 0 [(.sl false 8 (List.map Graph.av s_4.1)), (.cptr (Graph.av s_4.2.1).cells 0), (.bool s_4.2.2)]]) rfl rfl rfl ?_
            refine E_mv (v' := (.bool s_4.2.2)) rfl ?_
            refine E_gsT (b := s_4.2.2) rfl rfl rfl (fun hb => ?_) (fun hb => ?_)
            · rw [ite_t hb] at h
              refine E_mv (v' := (.int .i64 p_6)) rfl ?_
              refine E_gh rfl ?_
              refine E_mv (v' := (.int .i64 (i_5 : Int))) rfl ?_
              refine E_gh rfl ?_
              refine E_op0 (v' := (.bool (p_6 != (i_5 : Int)))) rfl rfl ?_
              refine E_pt rfl rfl ?_
              refine E_mv (v' := (.bool (p_6 != (i_5 : Int)))) rfl ?_
              refine E_gsT (b := (p_6 != (i_5 : Int))) rfl rfl rfl (fun hb => ?_) (fun hb => ?_)
              · rw [ite_f hb] at h
                refine E_mv (v' := (.ptr 0 0 0)) rfl ?_
                refine E_gh rfl ?_
                refine E_op0 (v' := (.ptr 0 0 0)) rfl rfl ?_
                refine E_gh rfl ?_
                refine E_op0 (v' := (.ptr 0 0 2)) rfl rfl ?_
                refine E_gh rfl ?_
                refine E_op (v' := (.bool s_4.2.2)) (S' := [.arr 0 [(.sl false 8 (List.map Graph.av s_4.1)), (.cptr (Graph.av s_4.2.1).cells 0), (.bool s_4.2.2)]]) rfl rfl rfl ?_
                refine E_gh rfl ?_
                refine E_op0 (v' := (.bool (!s_4.2.2))) rfl rfl ?_
                refine E_gh rfl ?_
                refine E_mv (v' := (.bool (!s_4.2.2))) rfl ?_
                refine E_gsT (b := (!s_4.2.2)) rfl rfl rfl (fun hb => ?_) (fun hb => ?_)
                · rw [ite_t hb] at h
                  refine E_mv (v' := (.ptr 0 0 0)) rfl ?_
                  refine E_gh rfl ?_
                  refine E_mv (v' := (.cptr (Graph.av y_3).cells 0)) rfl ?_
                  refine E_gh rfl ?_
                  refine E_op0 (v' := (.cptr (Graph.av y_3).cells 0)) rfl rfl ?_
                  refine E_gh rfl ?_
                  refine E_op0 (v' := (.cptr (Graph.av y_3).cells 1)) rfl rfl ?_
                  refine E_gh rfl ?_
                  refine E_op0 (v' := (.sl false 1 (List.map (avI .u8) y_3.Kinds))) rfl rfl ?_
                  refine E_gh rfl ?_
                  refine E_mv (v' := (.cptr (Graph.av y_3).cells 0)) rfl ?_
                  refine E_gh rfl ?_
                  refine E_op0 (v' := (.cptr (Graph.av y_3).cells 0)) rfl rfl ?_
                  refine E_gh rfl ?_
                  refine E_op0 (v' := (.cptr (Graph.av y_3).cells 0)) rfl rfl ?_
                  refine E_gh rfl ?_
                  refine E_op0 (v' := (.sl false 1 (List.map (avI .i64) y_3.Params))) rfl rfl ?_
                  refine E_gh rfl ?_
                  refine E_mv (v' := (.int .i64 (i_5 : Int))) rfl ?_
                  refine E_gh rfl ?_
                  obtain ⟨y_10, hy_10, h⟩ := bd_some h
                  refine E_iadF rfl rfl hy_10 ?_
                  refine E_gh rfl ?_
                  refine E_op0 (v' := (.int .i64 y_10)) rfl rfl ?_
                  refine E_gh rfl ?_
                  obtain ⟨y_11, hy_11, h⟩ := bd_some h
                  refine E_iadF rfl rfl hy_11 ?_
                  refine E_gh rfl ?_
                  refine E_op0 (v' := (.int .u8 y_11)) rfl rfl ?_
                  refine E_gh rfl ?_
                  refine E_mv (v' := (.int .i64 p_6)) rfl ?_
                  refine E_gh rfl ?_
                  refine E_opw (v' := (.sl true 1 (List.map (avI .i64) [p_6]))) rfl (.refl _) rfl ?_
                  refine E_gh rfl ?_
                  obtain ⟨vis_12, hvis_12, h⟩ := bd_some h
                  refine E_callF (S' := [.arr 0 [(.sl false 8 (List.map Graph.av vis_12.2.1)), (.cptr (Graph.av vis_12.2.2.1).cells 0), (.bool vis_12.2.2.2)]]) (r' := (.bool vis_12.1)) (ir_checker_is_pNCN_ev hvis_12) [0] rfl rfl (by decide) rfl rfl ⟨(fr_in rfl rfl (.cons (.base (Graph.enc.blws 0) (.refl _)) (.cons (rn_b (cp_blw (Graph.enc.blw _ 0))) (.cons (.base rfl (.refl _)) (.nil (Nat.zero_le _)))))), trivial⟩ ⟨(fr_outS rfl rfl (.cons (rn_b (Graph.enc.blws 0)) (.cons (rn_b (cp_blw (Graph.enc.blw _ 0))) (.cons (rn_b rfl) (.nil (Nat.zero_le _))))) rfl rfl), trivial⟩ ⟨.inl rfl, trivial⟩ rfl (.cons (fi_ptr rfl rfl rfl rfl) (.cons (.base rfl (.refl _)) (.cons (.base ((encI .i64).blws 0) .ex) (.nil (Nat.zero_le _))))) (rn_b rfl) ?_
                  refine E_gh rfl ?_
                  refine E_op0 (v' := (.bool (!vis_12.1))) rfl rfl ?_
                  refine E_gh rfl ?_
                  refine E_pt rfl rfl ?_
                  refine E_pf rfl rfl ?_
                  refine E_nil ?_
                  refine And.intro (by simp [okLog, nthL, okPair, hp, fpOf]) ?_
                  exact E_jx _ h (wk_rn [some (0, 0)] rfl (Nat.le_of_ble_eq_true rfl) ⟨(rn_obS rfl rfl (.cons (rn_b (Graph.enc.blws 0)) (.cons (rn_b (cp_blw (Graph.enc.blw _ 0))) (.cons (rn_b rfl) (.nil (Nat.zero_le _))))) rfl), trivial⟩ ⟨(rn_ptr rfl rfl rfl rfl), (rn_b (cp_blw (Graph.enc.blw _ 0))), (rn_b ((encI .i64).blws 0)), (rn_b rfl), (rn_b rfl), (rn_b rfl), trivial⟩)
                · rw [ite_f hb] at h
                  refine E_gm rfl ?_
                  refine E_gm rfl ?_
                  refine E_gm rfl ?_
                  refine E_gm rfl ?_
                  refine E_gm rfl ?_
                  refine E_gm rfl ?_
                  refine E_gm rfl ?_
                  refine E_gm rfl ?_
                  refine E_gm rfl ?_
                  refine E_gm rfl ?_
                  refine E_gm rfl ?_
                  refine E_gm rfl ?_
                  refine E_gm rfl ?_
                  refine E_gm rfl ?_
                  refine E_gm rfl ?_
                  refine E_gm rfl ?_
                  refine E_gm rfl ?_
                  refine E_gh rfl ?_
                  refine E_pf rfl rfl ?_
                  refine E_pf rfl rfl ?_
                  refine E_nil ?_
                  refine And.intro (by simp [okLog, nthL, okPair, hp, fpOf]) ?_
                  exact E_jx _ h (wk_rn [some (0, 0)] rfl (Nat.le_of_ble_eq_true rfl) ⟨(rn_obS rfl rfl (.cons (rn_b (Graph.enc.blws 0)) (.cons (rn_b (cp_blw (Graph.enc.blw _ 0))) (.cons (rn_b rfl) (.nil (Nat.zero_le _))))) rfl), trivial⟩ ⟨(rn_ptr rfl rfl rfl rfl), (rn_b (cp_blw (Graph.enc.blw _ 0))), (rn_b ((encI .i64).blws 0)), (rn_b rfl), (rn_b rfl), (rn_b rfl), trivial⟩)
              · rw [ite_t hb] at h
                refine E_gm rfl ?_
                refine E_gm rfl ?_
                refine E_gm rfl ?_
                refine E_gm rfl ?_
                refine E_gm rfl ?_
                refine E_gz rfl ?_
                refine E_gz rfl ?_
                refine E_gz rfl ?_
                refine E_gz rfl ?_
                refine E_gz rfl ?_
                refine E_gz rfl ?_
                refine E_gz rfl ?_
                refine E_gz rfl ?_
                refine E_gz rfl ?_
                refine E_gz rfl ?_
                refine E_gz rfl ?_
                refine E_gz rfl ?_
                refine E_gz rfl ?_
                refine E_gz rfl ?_
                refine E_gz rfl ?_
                refine E_gz rfl ?_
                refine E_gz rfl ?_
                refine E_gz rfl ?_
                refine E_gm rfl ?_
                refine E_pt rfl rfl ?_
                refine E_nil ?_
                refine And.intro (by simp [okLog, nthL, okPair, hp, fpOf]) ?_
                exact E_jx _ h (wk_rn [some (0, 0)] rfl (Nat.le_of_ble_eq_true rfl) ⟨(rn_obS rfl rfl (.cons (rn_b (Graph.enc.blws 0)) (.cons (rn_b (cp_blw (Graph.enc.blw _ 0))) (.cons (rn_b rfl) (.nil (Nat.zero_le _))))) rfl), trivial⟩ ⟨(rn_ptr rfl rfl rfl rfl), (rn_b (cp_blw (Graph.enc.blw _ 0))), (rn_b ((encI .i64).blws 0)), (rn_b rfl), (rn_b rfl), (rn_b rfl), trivial⟩)
            · rw [ite_f hb] at h
              refine E_gm rfl ?_
              refine E_gm rfl ?_
              refine E_pf rfl rfl ?_
              refine E_mv (v' := (.bool false)) rfl ?_
              refine E_gh rfl ?_
              refine E_mv (v' := (.ptr 0 0 0)) rfl ?_
              refine E_gh rfl ?_
              refine E_op0 (v' := (.ptr 0 0 0)) rfl rfl ?_
              refine E_gh rfl ?_
              refine E_op0 (v' := (.ptr 0 0 2)) rfl rfl ?_
              refine E_gh rfl ?_
              refine E_op (v' := (.bool s_4.2.2)) (S' := [.arr 0 [(.sl false 8 (List.map Graph.av s_4.1)), (.cptr (Graph.av s_4.2.1).cells 0), (.bool s_4.2.2)]]) rfl rfl rfl ?_
              refine E_gh rfl ?_
              refine E_op0 (v' := (.bool (!s_4.2.2))) rfl rfl ?_
              refine E_gh rfl ?_
              refine E_mv (v' := (.bool (!s_4.2.2))) rfl ?_
              refine E_gsT (b := (!s_4.2.2)) rfl rfl rfl (fun hb => ?_) (fun hb => ?_)
              · rw [ite_t hb] at h
                refine E_mv (v' := (.ptr 0 0 0)) rfl ?_
                refine E_gh rfl ?_
                refine E_mv (v' := (.cptr (Graph.av y_3).cells 0)) rfl ?_
                refine E_gh rfl ?_
                refine E_op0 (v' := (.cptr (Graph.av y_3).cells 0)) rfl rfl ?_
                refine E_gh rfl ?_
                refine E_op0 (v' := (.cptr (Graph.av y_3).cells 1)) rfl rfl ?_
                refine E_gh rfl ?_
                refine E_op0 (v' := (.sl false 1 (List.map (avI .u8) y_3.Kinds))) rfl rfl ?_
                refine E_gh rfl ?_
                refine E_mv (v' := (.cptr (Graph.av y_3).cells 0)) rfl ?_
                refine E_gh rfl ?_
                refine E_op0 (v' := (.cptr (Graph.av y_3).cells 0)) rfl rfl ?_
                refine E_gh rfl ?_
                refine E_op0 (v' := (.cptr (Graph.av y_3).cells 0)) rfl rfl ?_
                refine E_gh rfl ?_
                refine E_op0 (v' := (.sl false 1 (List.map (avI .i64) y_3.Params))) rfl rfl ?_
                refine E_gh rfl ?_
                refine E_mv (v' := (.int .i64 (i_5 : Int))) rfl ?_
                refine E_gh rfl ?_
                obtain ⟨y_13, hy_13, h⟩ := bd_some h
                refine E_iadF rfl rfl hy_13 ?_
                refine E_gh rfl ?_
                refine E_op0 (v' := (.int .i64 y_13)) rfl rfl ?_
                refine E_gh rfl ?_
                obtain ⟨y_14, hy_14, h⟩ := bd_some h
                refine E_iadF rfl rfl hy_14 ?_
                refine E_gh rfl ?_
                refine E_op0 (v' := (.int .u8 y_14)) rfl rfl ?_
                refine E_gh rfl ?_
                refine E_mv (v' := (.int .i64 p_6)) rfl ?_
                refine E_gh rfl ?_
                refine E_opw (v' := (.sl true 1 (List.map (avI .i64) [p_6]))) rfl (.refl _) rfl ?_
                refine E_gh rfl ?_
                obtain ⟨vis_15, hvis_15, h⟩ := bd_some h
                refine E_callF (S' := [.arr 0 [(.sl false 8 (List.map Graph.av vis_15.2.1)), (.cptr (Graph.av vis_15.2.2.1).cells 0), (.bool vis_15.2.2.2)]]) (r' := (.bool vis_15.1)) (ir_checker_is_pNCN_ev hvis_15) [0] rfl rfl (by decide) rfl rfl ⟨(fr_in rfl rfl (.cons (.base (Graph.enc.blws 0) (.refl _)) (.cons (rn_b (cp_blw (Graph.enc.blw _ 0))) (.cons (.base rfl (.refl _)) (.nil (Nat.zero_le _)))))), trivial⟩ ⟨(fr_outS rfl rfl (.cons (rn_b (Graph.enc.blws 0)) (.cons (rn_b (cp_blw (Graph.enc.blw _ 0))) (.cons (rn_b rfl) (.nil (Nat.zero_le _))))) rfl rfl), trivial⟩ ⟨.inl rfl, trivial⟩ rfl (.cons (fi_ptr rfl rfl rfl rfl) (.cons (.base rfl (.refl _)) (.cons (.base ((encI .i64).blws 0) .ex) (.nil (Nat.zero_le _))))) (rn_b rfl) ?_
                refine E_gh rfl ?_
                refine E_op0 (v' := (.bool (!vis_15.1))) rfl rfl ?_
                refine E_gh rfl ?_
                refine E_pt rfl rfl ?_
                refine E_pf rfl rfl ?_
                refine E_nil ?_
                refine And.intro (by simp [okLog, nthL, okPair, hp, fpOf]) ?_
                exact E_jx _ h (wk_rn [some (0, 0)] rfl (Nat.le_of_ble_eq_true rfl) ⟨(rn_obS rfl rfl (.cons (rn_b (Graph.enc.blws 0)) (.cons (rn_b (cp_blw (Graph.enc.blw _ 0))) (.cons (rn_b rfl) (.nil (Nat.zero_le _))))) rfl), trivial⟩ ⟨(rn_ptr rfl rfl rfl rfl), (rn_b (cp_blw (Graph.enc.blw _ 0))), (rn_b ((encI .i64).blws 0)), (rn_b rfl), (rn_b rfl), (rn_b rfl), trivial⟩)
              · rw [ite_f hb] at h
                refine E_gm rfl ?_
                refine E_gm rfl ?_
                refine E_gm rfl ?_
                refine E_gm rfl ?_
                refine E_gm rfl ?_
                refine E_gm rfl ?_
                refine E_gm rfl ?_
                refine E_gm rfl ?_
                refine E_gm rfl ?_
                refine E_gm rfl ?_
                refine E_gm rfl ?_
                refine E_gm rfl ?_
                refine E_gm rfl ?_
                refine E_gm rfl ?_
                refine E_gm rfl ?_
                refine E_gm rfl ?_
                refine E_gm rfl ?_
                refine E_gh rfl ?_
                refine E_pf rfl rfl ?_
                refine E_pf rfl rfl ?_
                refine E_nil ?_
                refine And.intro (by simp [okLog, nthL, okPair, hp, fpOf]) ?_
                exact E_jx _ h (wk_rn [some (0, 0)] rfl (Nat.le_of_ble_eq_true rfl) ⟨(rn_obS rfl rfl (.cons (rn_b (Graph.enc.blws 0)) (.cons (rn_b (cp_blw (Graph.enc.blw _ 0))) (.cons (rn_b rfl) (.nil (Nat.zero_le _))))) rfl), trivial⟩ ⟨(rn_ptr rfl rfl rfl rfl), (rn_b (cp_blw (Graph.enc.blw _ 0))), (rn_b ((encI .i64).blws 0)), (rn_b rfl), (rn_b rfl), (rn_b rfl), trivial⟩)
          · refine E_cs (t := s_9.1) rfl (fun hb => ?_) (fun hb => ?_)
            · rw [ite_t hb] at h
              refine E_sq ?_
              refine E_reg ?_
              refine E_mv (v' := (.bool false)) rfl ?_
              refine E_nil ?_
              refine E_nx ?_
              refine E_ret ?_
              cases h
              refine L_rrO rfl (fun h => ?_)
              refine E_thr ?_
              cases h
              exact ⟨trivial, _, _, rfl, gwk_rn [some (0, 0)] rfl (Nat.le_of_ble_eq_true rfl) ⟨(rn_obS rfl rfl (.cons (rn_b (Graph.enc.blws 0)) (.cons (rn_b (cp_blw (Graph.enc.blw _ 0))) (.cons (rn_b rfl) (.nil (Nat.zero_le _))))) rfl), trivial⟩, (rn_b rfl)⟩
            · rw [ite_f hb] at h
              refine E_skip ?_
              cases h
              exact L_nn rfl (wk_rn [some (0, 0)] rfl (Nat.le_of_ble_eq_true rfl) ⟨(rn_obS rfl rfl (.cons (rn_b (Graph.enc.blws 0)) (.cons (rn_b (cp_blw (Graph.enc.blw _ 0))) (.cons (rn_b rfl) (.nil (Nat.zero_le _))))) rfl), trivial⟩ ⟨(rn_b rfl), (rn_b rfl), (rn_ptr rfl rfl rfl rfl), (rn_b (cp_blw (Graph.enc.blw _ 0))), (rn_b ((encI .i64).blws 0)), trivial⟩)
        · refine X_nx hw ?_
          refine E_sq ?_
          refine E_reg ?_
          refine E_mv (v' := (.bool true)) rfl ?_
          refine E_nil ?_
          refine E_nx ?_
          refine E_ret ?_
          cases h
          exact ⟨trivial, _, _, rfl, gwk_rn [some (0, 0)] rfl (Nat.le_of_ble_eq_true rfl) ⟨(rn_obS rfl rfl (.cons (rn_b (Graph.enc.blws 0)) (.cons (rn_b (cp_blw (Graph.enc.blw _ 0))) (.cons (rn_b rfl) (.nil (Nat.zero_le _))))) rfl), trivial⟩, (rn_b rfl)⟩
/- (*windlass/ir.checker).node -/
def fc77 : FC := (.seq (.reg [⟨(some 3), none, .op (.box (.t 1))⟩,
  ⟨(some 4), none, .op (.mv (.v (.bool false)))⟩] [])
  (.seq (.seq (.reg [⟨(some 7), none, .op (.load (some 12) (.t 3))⟩,
  ⟨(some 8), none, .call 55 [(.t 7)]⟩,
  ⟨(some 9), none, .op (.len .sl (.t 8))⟩,
  ⟨(some 10), none, .op (.mv (.v (.int .i64 0)))⟩] [])
  (.block 0 (.loop (.seq (.reg [⟨(some 11), none, .op (.bin .none .lss (.t 10) (.t 9))⟩] [])
  (.seq (.cond (.t 11)
  .skip
  (.exit 0))
  (.seq (.block 1 (.seq (.reg [⟨(some 12), none, .op (.iad none none (.t 8) (.t 10))⟩,
  ⟨(some 13), none, .op (.load none (.t 12))⟩,
  ⟨(some 6), none, .op (.mv (.t 13))⟩] [])
  (.seq (.reg [⟨(some 14), none, .op (.mv (.t 6))⟩,
  ⟨(some 15), none, .op (.bin .none .lss (.t 14) (.v (.int .i64 0)))⟩,
  ⟨(some 16), none, .op (.mv (.t 15))⟩,
  ⟨(some 17), some (16, false), .op (.mv (.t 6))⟩,
  ⟨(some 18), some (16, false), .op (.mv (.t 0))⟩,
  ⟨(some 19), some (16, false), .op (.nchk (.t 18))⟩,
  ⟨(some 20), some (16, false), .op (.fad 1 (.t 19))⟩,
  ⟨(some 21), some (16, false), .op (.load none (.t 20))⟩,
  ⟨(some 22), some (16, false), .op (.nchk (.t 21))⟩,
  ⟨(some 23), some (16, false), .op (.fad 6 (.t 22))⟩,
  ⟨(some 24), some (16, false), .op (.load none (.t 23))⟩,
  ⟨(some 25), some (16, false), .op (.len .sl (.t 24))⟩,
  ⟨(some 26), some (16, false), .op (.bin .none .geq (.t 17) (.t 25))⟩,
  ⟨(some 27), none, .op (.pick (.t 16) (.v (.bool true)) (.t 26))⟩] [])
  (.cond (.t 27)
  (.seq (.reg [⟨(some 4), none, .op (.mv (.v (.bool false)))⟩] [])
  .ret)
  .skip))))
  (.reg [⟨(some 28), none, .op (.bin .none .add (.t 10) (.v (.int .i64 1)))⟩,
  ⟨(some 10), none, .op (.mv (.t 28))⟩] [])))))))
  (.seq (.seq (.reg [⟨(some 29), none, .op (.fad 0 (.t 3))⟩,
  ⟨(some 30), none, .op (.load none (.t 29))⟩] [])
  (.block 2 (.seq (.seq (.reg [⟨(some 32), none, .op (.bin .none .eql (.t 30) (.v (.int .u8 1)))⟩,
  ⟨(some 31), none, .op (.mv (.t 32))⟩] [])
  (.cond (.t 31)
  .skip
  (.reg [⟨(some 33), none, .op (.bin .none .eql (.t 30) (.v (.int .u8 16)))⟩,
  ⟨(some 31), none, .op (.mv (.t 33))⟩] [])))
  (.cond (.t 31)
  (.seq (.reg [⟨(some 34), none, .op (.mv (.t 0))⟩,
  ⟨(some 35), none, .op (.fad 2 (.t 3))⟩,
  ⟨(some 36), none, .op (.load none (.t 35))⟩,
  ⟨(some 37), none, .op (.bsl none [(.int .i64 0)] 1 [(0, 1, (.t 36))])⟩,
  ⟨(some 38), none, .call 85 [(.t 34), (.v (.int .u8 0)), (.t 37)]⟩,
  ⟨(some 4), none, .op (.mv (.t 38))⟩] [])
  .ret)
  (.seq (.reg [⟨(some 40), none, .op (.bin .none .eql (.t 30) (.v (.int .u8 2)))⟩,
  ⟨(some 39), none, .op (.mv (.t 40))⟩] [])
  (.cond (.t 39)
  (.seq (.reg [⟨(some 41), none, .op (.mv (.t 0))⟩,
  ⟨(some 42), none, .op (.fad 2 (.t 3))⟩,
  ⟨(some 43), none, .op (.load none (.t 42))⟩,
  ⟨(some 44), none, .op (.fad 4 (.t 3))⟩,
  ⟨(some 45), none, .op (.load none (.t 44))⟩,
  ⟨(some 46), none, .op (.bsl none [(.int .i64 0)] 2 [(0, 1, (.t 43)), (1, 1, (.t 45))])⟩,
  ⟨(some 47), none, .call 85 [(.t 41), (.v (.int .u8 0)), (.t 46)]⟩,
  ⟨(some 48), none, .op (.mv (.t 47))⟩,
  ⟨(some 49), some (48, false), .op (.mv (.t 0))⟩,
  ⟨(some 50), some (48, false), .op (.fad 2 (.t 3))⟩,
  ⟨(some 51), some (48, false), .op (.load none (.t 50))⟩,
  ⟨(some 52), some (48, false), .op (.fad 4 (.t 3))⟩,
  ⟨(some 53), some (48, false), .op (.load none (.t 52))⟩,
  ⟨(some 54), some (48, false), .op (.bsl none [(.int .i64 0)] 2 [(0, 1, (.t 51)), (1, 1, (.t 53))])⟩,
  ⟨(some 55), some (48, false), .call 85 [(.t 49), (.v (.int .u8 1)), (.t 54)]⟩,
  ⟨(some 56), none, .op (.pick (.t 48) (.v (.bool true)) (.t 55))⟩,
  ⟨(some 4), none, .op (.mv (.t 56))⟩] [])
  .ret)
  (.seq (.reg [⟨(some 58), none, .op (.bin .none .eql (.t 30) (.v (.int .u8 3)))⟩,
  ⟨(some 57), none, .op (.mv (.t 58))⟩] [])
  (.cond (.t 57)
  (.seq (.reg [⟨(some 59), none, .op (.fad 1 (.t 3))⟩,
  ⟨(some 60), none, .op (.load none (.t 59))⟩,
  ⟨(some 61), none, .op (.bin .none .geq (.t 60) (.v (.int .u8 7)))⟩,
  ⟨(some 62), none, .op (.mv (.t 61))⟩,
  ⟨(some 63), some (62, true), .op (.fad 1 (.t 3))⟩,
  ⟨(some 64), some (62, true), .op (.load none (.t 63))⟩,
  ⟨(some 65), some (62, true), .op (.bin .none .leq (.t 64) (.v (.int .u8 20)))⟩,
  ⟨(some 66), none, .op (.pick (.t 62) (.t 65) (.v (.bool false)))⟩,
  ⟨(some 67), none, .op (.mv (.t 66))⟩,
  ⟨(some 68), some (67, true), .op (.mv (.t 0))⟩,
  ⟨(some 69), some (67, true), .op (.fad 2 (.t 3))⟩,
  ⟨(some 70), some (67, true), .op (.load none (.t 69))⟩,
  ⟨(some 71), some (67, true), .op (.fad 4 (.t 3))⟩,
  ⟨(some 72), some (67, true), .op (.load none (.t 71))⟩,
  ⟨(some 73), some (67, true), .op (.fad 5 (.t 3))⟩,
  ⟨(some 74), some (67, true), .op (.load none (.t 73))⟩,
  ⟨(some 75), some (67, true), .op (.bsl none [(.int .i64 0)] 3 [(0, 1, (.t 70)), (1, 1, (.t 72)), (2, 1, (.t 74))])⟩,
  ⟨(some 76), some (67, true), .call 85 [(.t 68), (.v (.int .u8 0)), (.t 75)]⟩,
  ⟨(some 77), none, .op (.pick (.t 67) (.t 76) (.v (.bool false)))⟩,
  ⟨(some 4), none, .op (.mv (.t 77))⟩] [])
  .ret)
  (.seq (.reg [⟨(some 79), none, .op (.bin .none .eql (.t 30) (.v (.int .u8 4)))⟩,
  ⟨(some 78), none, .op (.mv (.t 79))⟩] [])
  (.cond (.t 78)
  (.seq (.reg [⟨(some 80), none, .op (.mv (.t 0))⟩,
  ⟨(some 81), none, .op (.fad 7 (.t 3))⟩,
  ⟨(some 82), none, .op (.load none (.t 81))⟩,
  ⟨(some 83), none, .call 84 [(.t 80), (.t 82)]⟩,
  ⟨(some 84), none, .op (.mv (.t 83))⟩,
  ⟨(some 85), some (84, true), .op (.mv (.t 0))⟩,
  ⟨(some 86), some (84, true), .op (.fad 2 (.t 3))⟩,
  ⟨(some 87), some (84, true), .op (.load none (.t 86))⟩,
  ⟨(some 88), some (84, true), .op (.bsl none [(.int .i64 0)] 1 [(0, 1, (.t 87))])⟩,
  ⟨(some 89), some (84, true), .call 85 [(.t 85), (.v (.int .u8 0)), (.t 88)]⟩,
  ⟨(some 90), none, .op (.pick (.t 84) (.t 89) (.v (.bool false)))⟩,
  ⟨(some 4), none, .op (.mv (.t 90))⟩] [])
  .ret)
  (.seq (.reg [⟨(some 92), none, .op (.bin .none .eql (.t 30) (.v (.int .u8 5)))⟩,
  ⟨(some 91), none, .op (.mv (.t 92))⟩] [])
  (.cond (.t 91)
  (.seq (.reg [⟨(some 93), none, .op (.mv (.t 0))⟩,
  ⟨(some 94), none, .op (.fad 7 (.t 3))⟩,
  ⟨(some 95), none, .op (.load none (.t 94))⟩,
  ⟨(some 96), none, .call 84 [(.t 93), (.t 95)]⟩,
  ⟨(some 97), none, .op (.mv (.t 96))⟩,
  ⟨(some 98), some (97, true), .op (.mv (.t 0))⟩,
  ⟨(some 99), some (97, true), .op (.fad 4 (.t 3))⟩,
  ⟨(some 100), some (97, true), .op (.load none (.t 99))⟩,
  ⟨(some 101), some (97, true), .op (.bsl none [(.int .i64 0)] 1 [(0, 1, (.t 100))])⟩,
  ⟨(some 102), some (97, true), .call 85 [(.t 98), (.v (.int .u8 0)), (.t 101)]⟩,
  ⟨(some 103), none, .op (.pick (.t 97) (.t 102) (.v (.bool false)))⟩,
  ⟨(some 4), none, .op (.mv (.t 103))⟩] [])
  .ret)
  (.seq (.reg [⟨(some 105), none, .op (.bin .none .eql (.t 30) (.v (.int .u8 6)))⟩,
  ⟨(some 104), none, .op (.mv (.t 105))⟩] [])
  (.cond (.t 104)
  (.seq (.reg [⟨(some 106), none, .op (.mv (.t 0))⟩,
  ⟨(some 107), none, .op (.fad 7 (.t 3))⟩,
  ⟨(some 108), none, .op (.load none (.t 107))⟩,
  ⟨(some 109), none, .call 84 [(.t 106), (.t 108)]⟩,
  ⟨(some 110), none, .op (.mv (.t 109))⟩,
  ⟨(some 111), some (110, true), .op (.mv (.t 0))⟩,
  ⟨(some 112), some (110, true), .op (.fad 2 (.t 3))⟩,
  ⟨(some 113), some (110, true), .op (.load none (.t 112))⟩,
  ⟨(some 114), some (110, true), .op (.bsl none [(.int .i64 0)] 1 [(0, 1, (.t 113))])⟩,
  ⟨(some 115), some (110, true), .call 85 [(.t 111), (.v (.int .u8 1)), (.t 114)]⟩,
  ⟨(some 116), none, .op (.pick (.t 110) (.t 115) (.v (.bool false)))⟩,
  ⟨(some 4), none, .op (.mv (.t 116))⟩] [])
  .ret)
  (.seq (.reg [⟨(some 118), none, .op (.bin .none .eql (.t 30) (.v (.int .u8 7)))⟩,
  ⟨(some 117), none, .op (.mv (.t 118))⟩] [])
  (.cond (.t 117)
  (.seq (.reg [⟨(some 119), none, .op (.mv (.t 0))⟩,
  ⟨(some 120), none, .op (.fad 2 (.t 3))⟩,
  ⟨(some 121), none, .op (.load none (.t 120))⟩,
  ⟨(some 122), none, .op (.bsl none [(.int .i64 0)] 1 [(0, 1, (.t 121))])⟩,
  ⟨(some 123), none, .call 85 [(.t 119), (.v (.int .u8 0)), (.t 122)]⟩,
  ⟨(some 124), none, .op (.mv (.t 123))⟩,
  ⟨(some 125), some (124, true), .op (.mv (.t 0))⟩,
  ⟨(some 126), some (124, true), .op (.fad 4 (.t 3))⟩,
  ⟨(some 127), some (124, true), .op (.load none (.t 126))⟩,
  ⟨(some 128), some (124, true), .op (.bsl none [(.int .i64 0)] 1 [(0, 1, (.t 127))])⟩,
  ⟨(some 129), some (124, true), .call 85 [(.t 125), (.v (.int .u8 1)), (.t 128)]⟩,
  ⟨(some 130), none, .op (.pick (.t 124) (.t 129) (.v (.bool false)))⟩,
  ⟨(some 4), none, .op (.mv (.t 130))⟩] [])
  .ret)
  (.seq (.reg [⟨(some 132), none, .op (.bin .none .eql (.t 30) (.v (.int .u8 8)))⟩,
  ⟨(some 131), none, .op (.mv (.t 132))⟩] [])
  (.cond (.t 131)
  (.seq (.reg [⟨(some 133), none, .op (.mv (.t 0))⟩,
  ⟨(some 134), none, .op (.fad 4 (.t 3))⟩,
  ⟨(some 135), none, .op (.load none (.t 134))⟩,
  ⟨(some 136), none, .op (.bsl none [(.int .i64 0)] 1 [(0, 1, (.t 135))])⟩,
  ⟨(some 137), none, .call 85 [(.t 133), (.v (.int .u8 1)), (.t 136)]⟩,
  ⟨(some 138), none, .op (.mv (.t 137))⟩,
  ⟨(some 139), some (138, true), .op (.mv (.t 0))⟩,
  ⟨(some 140), some (138, true), .op (.fad 5 (.t 3))⟩,
  ⟨(some 141), some (138, true), .op (.load none (.t 140))⟩,
  ⟨(some 142), some (138, true), .op (.bsl none [(.int .i64 0)] 1 [(0, 1, (.t 141))])⟩,
  ⟨(some 143), some (138, true), .call 85 [(.t 139), (.v (.int .u8 0)), (.t 142)]⟩,
  ⟨(some 144), none, .op (.pick (.t 138) (.t 143) (.v (.bool false)))⟩,
  ⟨(some 4), none, .op (.mv (.t 144))⟩] [])
  .ret)
  (.seq (.reg [⟨(some 146), none, .op (.bin .none .eql (.t 30) (.v (.int .u8 10)))⟩,
  ⟨(some 145), none, .op (.mv (.t 146))⟩] [])
  (.cond (.t 145)
  (.seq (.reg [⟨(some 4), none, .op (.mv (.v (.bool true)))⟩] [])
  .ret)
  (.seq (.seq (.reg [⟨(some 148), none, .op (.bin .none .eql (.t 30) (.v (.int .u8 9)))⟩,
  ⟨(some 147), none, .op (.mv (.t 148))⟩] [])
  (.cond (.t 147)
  .skip
  (.seq (.reg [⟨(some 149), none, .op (.bin .none .eql (.t 30) (.v (.int .u8 14)))⟩,
  ⟨(some 147), none, .op (.mv (.t 149))⟩] [])
  (.cond (.t 147)
  .skip
  (.seq (.reg [⟨(some 150), none, .op (.bin .none .eql (.t 30) (.v (.int .u8 18)))⟩,
  ⟨(some 147), none, .op (.mv (.t 150))⟩] [])
  (.cond (.t 147)
  .skip
  (.reg [⟨(some 151), none, .op (.bin .none .eql (.t 30) (.v (.int .u8 17)))⟩,
  ⟨(some 147), none, .op (.mv (.t 151))⟩] [])))))))
  (.cond (.t 147)
  (.seq (.reg [⟨(some 152), none, .op (.mv (.t 0))⟩,
  ⟨(some 153), none, .op (.fad 4 (.t 3))⟩,
  ⟨(some 154), none, .op (.load none (.t 153))⟩,
  ⟨(some 155), none, .op (.bsl none [(.int .i64 0)] 1 [(0, 1, (.t 154))])⟩,
  ⟨(some 156), none, .call 85 [(.t 152), (.v (.int .u8 0)), (.t 155)]⟩,
  ⟨(some 4), none, .op (.mv (.t 156))⟩] [])
  .ret)
  (.seq (.reg [⟨(some 158), none, .op (.bin .none .eql (.t 30) (.v (.int .u8 15)))⟩,
  ⟨(some 157), none, .op (.mv (.t 158))⟩] [])
  (.cond (.t 157)
  (.seq (.reg [⟨(some 159), none, .op (.fad 2 (.t 3))⟩,
  ⟨(some 160), none, .op (.load none (.t 159))⟩,
  ⟨(some 161), none, .op (.fad 3 (.t 3))⟩,
  ⟨(some 162), none, .op (.load none (.t 161))⟩,
  ⟨(some 163), none, .op (.bin .none .neq (.t 160) (.t 162))⟩,
  ⟨(some 164), none, .op (.mv (.t 163))⟩,
  ⟨(some 165), some (164, true), .op (.mv (.t 0))⟩,
  ⟨(some 166), some (164, true), .op (.fad 2 (.t 3))⟩,
  ⟨(some 167), some (164, true), .op (.load none (.t 166))⟩,
  ⟨(some 168), some (164, true), .op (.fad 3 (.t 3))⟩,
  ⟨(some 169), some (164, true), .op (.load none (.t 168))⟩,
  ⟨(some 170), some (164, true), .op (.bsl none [(.int .i64 0)] 2 [(0, 1, (.t 167)), (1, 1, (.t 169))])⟩,
  ⟨(some 171), some (164, true), .call 85 [(.t 165), (.v (.int .u8 0)), (.t 170)]⟩,
  ⟨(some 172), none, .op (.pick (.t 164) (.t 171) (.v (.bool false)))⟩,
  ⟨(some 4), none, .op (.mv (.t 172))⟩] [])
  .ret)
  (.seq (.reg [⟨(some 174), none, .op (.bin .none .eql (.t 30) (.v (.int .u8 13)))⟩,
  ⟨(some 173), none, .op (.mv (.t 174))⟩] [])
  (.cond (.t 173)
  (.seq (.reg [⟨(some 175), none, .op (.mv (.t 0))⟩,
  ⟨(some 176), none, .op (.load (some 12) (.t 3))⟩,
  ⟨(some 177), none, .call 86 [(.t 175), (.t 176)]⟩,
  ⟨(some 4), none, .op (.mv (.t 177))⟩] [])
  .ret)
  (.seq (.reg [⟨(some 179), none, .op (.bin .none .eql (.t 30) (.v (.int .u8 11)))⟩,
  ⟨(some 178), none, .op (.mv (.t 179))⟩] [])
  (.cond (.t 178)
  (.seq (.reg [⟨(some 180), none, .op (.mv (.t 0))⟩,
  ⟨(some 181), none, .op (.load (some 12) (.t 3))⟩,
  ⟨(some 182), none, .call 86 [(.t 180), (.t 181)]⟩,
  ⟨(some 183), none, .op (.mv (.t 182))⟩,
  ⟨(some 184), some (183, true), .op (.fad 2 (.t 3))⟩,
  ⟨(some 185), some (183, true), .op (.load none (.t 184))⟩,
  ⟨(some 186), some (183, true), .op (.bin .none .eql (.t 185) (.v (.int .i64 (-1))))⟩,
  ⟨(some 187), some (183, true), .op (.mv (.t 186))⟩,
  ⟨(some 188), some (187, false), .op (.mv (.t 0))⟩,
  ⟨(some 189), some (187, false), .op (.fad 2 (.t 3))⟩,
  ⟨(some 190), some (187, false), .op (.load none (.t 189))⟩,
  ⟨(some 191), some (187, false), .op (.bsl none [(.int .i64 0)] 1 [(0, 1, (.t 190))])⟩,
  ⟨(some 192), some (187, false), .call 85 [(.t 188), (.v (.int .u8 0)), (.t 191)]⟩,
  ⟨(some 193), some (187, false), .op (.mv (.t 192))⟩,
  ⟨(some 194), some (193, true), .op (.mv (.t 0))⟩,
  ⟨(some 195), some (193, true), .op (.nchk (.t 194))⟩,
  ⟨(some 196), some (193, true), .op (.fad 0 (.t 195))⟩,
  ⟨(some 197), some (193, true), .op (.load none (.t 196))⟩,
  ⟨(some 198), some (193, true), .op (.fad 6 (.t 3))⟩,
  ⟨(some 199), some (193, true), .op (.load none (.t 198))⟩,
  ⟨(some 200), some (193, true), .op (.iad none (some 8) (.t 197) (.t 199))⟩,
  ⟨(some 201), some (193, true), .op (.fad 4 (.t 200))⟩,
  ⟨(some 202), some (193, true), .op (.load none (.t 201))⟩,
  ⟨(some 203), some (187, false), .op (.pick (.t 193) (.t 202) (.v (.bool false)))⟩,
  ⟨(some 204), some (187, false), .op (.mv (.t 203))⟩,
  ⟨(some 205), some (204, true), .op (.mv (.t 0))⟩,
  ⟨(some 206), some (204, true), .op (.nchk (.t 205))⟩,
  ⟨(some 207), some (204, true), .op (.fad 2 (.t 206))⟩,
  ⟨(some 208), some (204, true), .op (.load none (.t 207))⟩,
  ⟨(some 209), some (204, true), .op (.un .not (.t 208))⟩,
  ⟨(some 210), some (204, true), .op (.mv (.t 209))⟩,
  ⟨(some 211), some (210, false), .op (.fad 2 (.t 3))⟩,
  ⟨(some 212), some (210, false), .op (.load none (.t 211))⟩,
  ⟨(some 213), some (210, false), .op (.bin .none .eql (.t 212) (.v (.int .i64 0)))⟩,
  ⟨(some 214), some (204, true), .op (.pick (.t 210) (.v (.bool true)) (.t 213))⟩,
  ⟨(some 215), some (187, false), .op (.pick (.t 204) (.t 214) (.v (.bool false)))⟩,
  ⟨(some 216), some (183, true), .op (.pick (.t 187) (.v (.bool true)) (.t 215))⟩,
  ⟨(some 217), none, .op (.pick (.t 183) (.t 216) (.v (.bool false)))⟩,
  ⟨(some 4), none, .op (.mv (.t 217))⟩] [])
  .ret)
  (.seq (.reg [⟨(some 219), none, .op (.bin .none .eql (.t 30) (.v (.int .u8 12)))⟩,
  ⟨(some 218), none, .op (.mv (.t 219))⟩] [])
  (.cond (.t 218)
  (.seq (.reg [⟨(some 220), none, .op (.fad 4 (.t 3))⟩,
  ⟨(some 221), none, .op (.load none (.t 220))⟩,
  ⟨(some 222), none, .op (.bin .none .eql (.t 221) (.v (.int .i64 (-1))))⟩,
  ⟨(some 223), none, .op (.mv (.t 222))⟩,
  ⟨(some 224), some (223, true), .op (.mv (.t 0))⟩,
  ⟨(some 225), some (223, true), .op (.nchk (.t 224))⟩,
  ⟨(some 226), some (223, true), .op (.fad 1 (.t 225))⟩,
  ⟨(some 227), some (223, true), .op (.load none (.t 226))⟩,
  ⟨(some 228), some (223, true), .op (.nchk (.t 227))⟩,
  ⟨(some 229), some (223, true), .op (.fad 4 (.t 228))⟩,
  ⟨(some 230), some (223, true), .op (.load none (.t 229))⟩,
  ⟨(some 231), some (223, true), .op (.un .not (.t 230))⟩,
  ⟨(some 232), none, .op (.pick (.t 223) (.t 231) (.v (.bool false)))⟩,
  ⟨(some 233), none, .op (.mv (.t 232))⟩,
  ⟨(some 234), some (233, false), .op (.fad 4 (.t 3))⟩,
  ⟨(some 235), some (233, false), .op (.load none (.t 234))⟩,
  ⟨(some 236), some (233, false), .op (.bin .none .neq (.t 235) (.v (.int .i64 (-1))))⟩,
  ⟨(some 237), some (233, false), .op (.mv (.t 236))⟩,
  ⟨(some 238), some (237, true), .op (.mv (.t 0))⟩,
  ⟨(some 239), some (237, true), .op (.nchk (.t 238))⟩,
  ⟨(some 240), some (237, true), .op (.fad 1 (.t 239))⟩,
  ⟨(some 241), some (237, true), .op (.load none (.t 240))⟩,
  ⟨(some 242), some (237, true), .op (.nchk (.t 241))⟩,
  ⟨(some 243), some (237, true), .op (.fad 4 (.t 242))⟩,
  ⟨(some 244), some (237, true), .op (.load none (.t 243))⟩,
  ⟨(some 245), some (233, false), .op (.pick (.t 237) (.t 244) (.v (.bool false)))⟩,
  ⟨(some 246), some (233, false), .op (.mv (.t 245))⟩,
  ⟨(some 247), some (246, true), .op (.mv (.t 0))⟩,
  ⟨(some 248), some (246, true), .op (.fad 4 (.t 3))⟩,
  ⟨(some 249), some (246, true), .op (.load none (.t 248))⟩,
  ⟨(some 250), some (246, true), .op (.bsl none [(.int .i64 0)] 1 [(0, 1, (.t 249))])⟩,
  ⟨(some 251), some (246, true), .call 85 [(.t 247), (.v (.int .u8 0)), (.t 250)]⟩,
  ⟨(some 252), some (233, false), .op (.pick (.t 246) (.t 251) (.v (.bool false)))⟩,
  ⟨(some 253), none, .op (.pick (.t 233) (.v (.bool true)) (.t 252))⟩,
  ⟨(some 4), none, .op (.mv (.t 253))⟩] [])
  .ret)
  .skip))))))))))))))))))))))))))))))
  (.seq (.reg [⟨(some 4), none, .op (.mv (.v (.bool false)))⟩] [])
  .ret))))
theorem fn77 : Fn3 Tryd.prog 77 254 [(4, none)] fc77 := ⟨_, _, Tryd.func77, rfl, rfl, rfl, by kernel_rfl⟩
end Go.Proofs.YtgoejecjmodjiaaDoor
