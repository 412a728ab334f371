/- KindsAhead: the functions that write a list within a list. (Printed by mkA.py.) -/
import Derived.Test.YtiocagilhbomgaaGenK
import Derived.Test.YtiocagilhbomgaaWlH2
import Derived.WalkKit
import Derived.ProofKit
import Derived.OpenShut
import Derived.JoinedCond
namespace Go.Proofs.Ytiocagilhbomgaa
open Go Go.Ab
set_option maxRecDepth 20000
set_option maxHeartbeats 2000000
set_option linter.unusedVariables false
set_option linter.unusedSimpArgs false
/-- The cell of the code that is an object: number 3, 1, 2. -/
def rK (x : Func) : AV := .ref 3 1 0 x.Code.length (some 3)
def rK1 (x : Func) : AV := .ref 1 1 0 x.Code.length (some 3)
def rK2 (x : Func) : AV := .ref 2 1 0 x.Code.length (some 3)
/-- The function with other code. -/
def yC (y : Func) (c : List Instr) : Func := Func.mk y.Params y.Locals y.Result y.Keep c
theorem set_same {l : List Func} {k : Nat} {y : Func} (h : l[k]? = some y) : l.set k (yC y y.Code) = l := by
  obtain ⟨h1, h2⟩ := List.getElem?_eq_some_iff.1 h
  subst h2
  show l.set k l[k] = l
  exact List.set_getElem_self h1
/-- The element's list is another one now. -/
theorem rnl_setC {R : Rn} {l : List Func} {K : Nat} {a b : Func} {u : AV} {r' : Func → AV} {q : List Func} (h : (l.set K a)[K]? = some a) (hq : q = l.set K b) (hs : ∀ v, (Func.av a).cells.set 4 v = (Func.av b).cells.set 4 v) (hu : RnV R u (r' b)) :
    RnL R 0 (flat Func.av ((l.set K a).take K) ++ ((Func.av a).cells.set 4 u ++ flat Func.av ((l.set K a).drop (K + 1)))) (fki Func.av 4 r' K q) := by
  subst hq
  have e : l.set K b = (l.set K a).set K b := (List.set_set ..).symm
  rw [e]
  exact rnl_writei Func.enc h hs hu
theorem windlassref03_Copy_foc_ev {k : Nat} {p_00 : Program} {r : Program} (h : windlassref03_Copy_s p_00 = some r) : Ev Try.prog 9 [(Program.av p_00)] (hp []) (.agg [(.ref 0 1 0 r.Funcs.length (some 5))]) (hp [.arr 1 (fki Func.av 4 rK1 k r.Funcs), .arr 1 (flat Instr.av (kidI Func.Code k r.Funcs))]) := by
  unfold windlassref03_Copy_s at h
  refine Ev_endS mixed gn_windlassref03_Copy (by simp) [2, 3, 5, 13, 18, 27] ?_
  unfold gc_windlassref03_Copy
  refine E_sq ?_
  refine E_reg ?_
  refine E_op0 (v' := (.cptr (Program.av p_00).cells 0)) rfl rfl ?_
  refine E_op (v' := .ptr 0 0 0) (S' := [.arr 0 [.nils]]) rfl rfl rfl ?_
  refine E_nil ?_
  refine E_nx ?_
  refine E_sq ?_
  refine E_reg ?_
  refine E_op (v' := .ptr 1 0 0) (S' := [.arr 0 [.nils], .arr 0 [.nils]]) rfl rfl rfl ?_
  refine E_nil ?_
  refine E_nx ?_
  refine E_as ?_
  refine E_sq ?_
  refine E_reg ?_
  refine E_op0 (v' := (.cptr (Program.av p_00).cells 0)) rfl rfl ?_
  refine E_op0 (v' := (.sl false 5 (List.map Func.av p_00.Funcs))) rfl rfl ?_
  refine E_len rfl ?_
  refine E_mv (v' := (.int .i64 0)) rfl ?_
  refine E_nil ?_
  refine E_nx ?_
  refine E_sq ?_
  refine E_rngO (fun s_1 => [(2, (.ptr 0 0 0)), (3, (.ptr 1 0 0)), (7, (.sl false 5 (List.map Func.av p_00.Funcs)))]) (fun s_1 => [.arr 0 [.nils], .arr 0 [(.ref 2 1 0 (List.length s_1) (some 5))], .arr 1 (fki Func.av 4 rK k s_1), .arr 1 (flat Instr.av (kidI Func.Code k s_1))]) h (by decide) (by decide) (fun _ => ⟨rfl, rfl, rfl, rfl⟩) (wk_rn [some (0, 0), some (1, 0), none, none] rfl (Nat.le_of_ble_eq_true rfl) ⟨(rn_ob rfl rfl (.cons (rn_b rfl) (.nil (Nat.zero_le _))) rfl), (rn_ob rfl rfl (.cons (rn_nil rfl) (.nil (Nat.zero_le _))) rfl), (rn_obN rfl (by cases k <;> rfl) rfl), (rn_obN rfl rfl rfl), trivial⟩ ⟨(rn_b rfl), (rn_b rfl), (rn_ptr rfl rfl rfl rfl), (rn_ptr rfl rfl rfl rfl), (rn_b (Func.enc.blws 0)), trivial⟩) (fun i_2 f_3 s_1 c hx_4 hlt h => ?_) (fun s_1 fr' S' h hw => ?_)
  · refine E_sq ?_
    refine E_reg ?_
    refine E_iadF rfl rfl (getI_of hx_4) ?_
    refine E_op0 (v' := (Func.av f_3)) rfl rfl ?_
    refine E_op (v' := .ptr 4 0 0) (S' := [.arr 0 [.nils], .arr 0 [(.ref 2 1 0 (List.length s_1) (some 5))], .arr 1 (fki Func.av 4 rK k s_1), .arr 1 (flat Instr.av (kidI Func.Code k s_1)), .arr 0 [(.int .i64 0), .nils, (.bool false), (.int .i64 0), .nils]]) rfl rfl rfl ?_
    refine E_do (S' := [.arr 0 [.nils], .arr 0 [(.ref 2 1 0 (List.length s_1) (some 5))], .arr 1 (fki Func.av 4 rK k s_1), .arr 1 (flat Instr.av (kidI Func.Code k s_1)), .arr 0 [(.int .i64 f_3.Params), (.sl false 1 (List.map (avI .u8) f_3.Locals)), (.bool f_3.Result), (.int .i64 f_3.Keep), (.sl false 3 (List.map Instr.av f_3.Code))]]) rfl rfl ?_
    refine E_nil ?_
    refine E_nx ?_
    refine E_sq ?_
    refine E_reg ?_
    refine E_op (v' := (.ref 5 0 0 (List.length ([] : List Int)) none)) (S' := [.arr 0 [.nils], .arr 0 [(.ref 2 1 0 (List.length s_1) (some 5))], .arr 1 (fki Func.av 4 rK k s_1), .arr 1 (flat Instr.av (kidI Func.Code k s_1)), .arr 0 [(.int .i64 f_3.Params), (.sl false 1 (List.map (avI .u8) f_3.Locals)), (.bool f_3.Result), (.int .i64 f_3.Keep), (.sl false 3 (List.map Instr.av f_3.Code))], .arr 0 (flat (avI .u8) ([] : List Int))]) rfl rfl rfl ?_
    refine E_op0 (v' := (.ptr 4 0 1)) rfl rfl ?_
    refine E_op (v' := (.sl false 1 (List.map (avI .u8) f_3.Locals))) (S' := [.arr 0 [.nils], .arr 0 [(.ref 2 1 0 (List.length s_1) (some 5))], .arr 1 (fki Func.av 4 rK k s_1), .arr 1 (flat Instr.av (kidI Func.Code k s_1)), .arr 0 [(.int .i64 f_3.Params), (.sl false 1 (List.map (avI .u8) f_3.Locals)), (.bool f_3.Result), (.int .i64 f_3.Keep), (.sl false 3 (List.map Instr.av f_3.Code))], .arr 0 (flat (avI .u8) ([] : List Int))]) rfl rfl rfl ?_
    obtain ⟨l_5, hl_5, h⟩ := bd_some h
    refine E_apL (S' := [.arr 0 [.nils], .arr 0 [(.ref 2 1 0 (List.length s_1) (some 5))], .arr 1 (fki Func.av 4 rK k s_1), .arr 1 (flat Instr.av (kidI Func.Code k s_1)), .arr 0 [(.int .i64 f_3.Params), (.sl false 1 (List.map (avI .u8) f_3.Locals)), (.bool f_3.Result), (.int .i64 f_3.Keep), (.sl false 3 (List.map Instr.av f_3.Code))], .arr 1 (flat (avI .u8) l_5)]) (encI .u8) rfl (src_sl f_3.Locals) rfl hl_5 rfl ?_
    refine E_op0 (v' := (.ptr 4 0 1)) rfl rfl ?_
    refine E_do (S' := [.arr 0 [.nils], .arr 0 [(.ref 2 1 0 (List.length s_1) (some 5))], .arr 1 (fki Func.av 4 rK k s_1), .arr 1 (flat Instr.av (kidI Func.Code k s_1)), .arr 0 [(.int .i64 f_3.Params), (.ref 5 1 0 (List.length l_5) none), (.bool f_3.Result), (.int .i64 f_3.Keep), (.sl false 3 (List.map Instr.av f_3.Code))], .arr 1 (flat (avI .u8) l_5)]) rfl rfl ?_
    refine E_nil ?_
    refine E_nx ?_
    refine E_sq ?_
    refine E_reg ?_
    refine E_op (v' := (.ref 6 0 0 (List.length ([] : List Instr)) (some 3))) (S' := [.arr 0 [.nils], .arr 0 [(.ref 2 1 0 (List.length s_1) (some 5))], .arr 1 (fki Func.av 4 rK k s_1), .arr 1 (flat Instr.av (kidI Func.Code k s_1)), .arr 0 [(.int .i64 f_3.Params), (.ref 5 1 0 (List.length l_5) none), (.bool f_3.Result), (.int .i64 f_3.Keep), (.sl false 3 (List.map Instr.av f_3.Code))], .arr 1 (flat (avI .u8) l_5), .arr 0 (flat Instr.av ([] : List Instr))]) rfl rfl rfl ?_
    refine E_op0 (v' := (.ptr 4 0 4)) rfl rfl ?_
    refine E_op (v' := (.sl false 3 (List.map Instr.av f_3.Code))) (S' := [.arr 0 [.nils], .arr 0 [(.ref 2 1 0 (List.length s_1) (some 5))], .arr 1 (fki Func.av 4 rK k s_1), .arr 1 (flat Instr.av (kidI Func.Code k s_1)), .arr 0 [(.int .i64 f_3.Params), (.ref 5 1 0 (List.length l_5) none), (.bool f_3.Result), (.int .i64 f_3.Keep), (.sl false 3 (List.map Instr.av f_3.Code))], .arr 1 (flat (avI .u8) l_5), .arr 0 (flat Instr.av ([] : List Instr))]) rfl rfl rfl ?_
    obtain ⟨l_6, hl_6, h⟩ := bd_some h
    refine E_apL (S' := [.arr 0 [.nils], .arr 0 [(.ref 2 1 0 (List.length s_1) (some 5))], .arr 1 (fki Func.av 4 rK k s_1), .arr 1 (flat Instr.av (kidI Func.Code k s_1)), .arr 0 [(.int .i64 f_3.Params), (.ref 5 1 0 (List.length l_5) none), (.bool f_3.Result), (.int .i64 f_3.Keep), (.sl false 3 (List.map Instr.av f_3.Code))], .arr 1 (flat (avI .u8) l_5), .arr 1 (flat Instr.av l_6)]) Instr.enc rfl (src_sl f_3.Code) rfl hl_6 rfl ?_
    refine E_op0 (v' := (.ptr 4 0 4)) rfl rfl ?_
    refine E_do (S' := [.arr 0 [.nils], .arr 0 [(.ref 2 1 0 (List.length s_1) (some 5))], .arr 1 (fki Func.av 4 rK k s_1), .arr 1 (flat Instr.av (kidI Func.Code k s_1)), .arr 0 [(.int .i64 f_3.Params), (.ref 5 1 0 (List.length l_5) none), (.bool f_3.Result), (.int .i64 f_3.Keep), (.ref 6 1 0 (List.length l_6) (some 3))], .arr 1 (flat (avI .u8) l_5), .arr 1 (flat Instr.av l_6)]) rfl rfl ?_
    refine E_nil ?_
    refine E_nx ?_
    refine E_block ?_
    refine E_sq ?_
    refine E_reg ?_
    refine E_op0 (v' := (.ptr 1 0 0)) rfl rfl ?_
    refine E_op (v' := (.ref 2 1 0 (List.length s_1) (some 5))) (S' := [.arr 0 [.nils], .arr 0 [(.ref 2 1 0 (List.length s_1) (some 5))], .arr 1 (fki Func.av 4 rK k s_1), .arr 1 (flat Instr.av (kidI Func.Code k s_1)), .arr 0 [(.int .i64 f_3.Params), (.ref 5 1 0 (List.length l_5) none), (.bool f_3.Result), (.int .i64 f_3.Keep), (.ref 6 1 0 (List.length l_6) (some 3))], .arr 1 (flat (avI .u8) l_5), .arr 1 (flat Instr.av l_6)]) rfl rfl rfl ?_
    refine E_op (v' := (.agg [(.int .i64 f_3.Params), (.ref 5 1 0 (List.length l_5) none), (.bool f_3.Result), (.int .i64 f_3.Keep), (.ref 6 1 0 (List.length l_6) (some 3))])) (S' := [.arr 0 [.nils], .arr 0 [(.ref 2 1 0 (List.length s_1) (some 5))], .arr 1 (fki Func.av 4 rK k s_1), .arr 1 (flat Instr.av (kidI Func.Code k s_1)), .arr 0 [(.int .i64 f_3.Params), (.ref 5 1 0 (List.length l_5) none), (.bool f_3.Result), (.int .i64 f_3.Keep), (.ref 6 1 0 (List.length l_6) (some 3))], .arr 1 (flat (avI .u8) l_5), .arr 1 (flat Instr.av l_6)]) rfl rfl rfl ?_
    refine E_nil ?_
    obtain ⟨l_7, hl_7, h⟩ := bd_some h
    obtain ⟨hbd, rfl⟩ := appL_some hl_7
    cases h
    by_cases hk : s_1.length = k
    · subst hk
      refine E_nxw (F := [(2, (.ptr 0 0 0)), (3, (.ptr 1 0 0)), (7, (.sl false 5 (List.map Func.av p_00.Funcs))), (8, (.int .i64 (List.length p_00.Funcs : Int))), (9, (.int .i64 (i_2 : Int))), (24, (.ref 2 1 0 (List.length s_1) (some 5))), (25, (.agg [(.int .i64 f_3.Params), (.sl false 1 (List.map (avI .u8) l_5)), (.bool f_3.Result), (.int .i64 f_3.Keep), (.ref 3 1 0 (List.length l_6) (some 3))]))]) (T := [.arr 0 [.nils], .arr 0 [(.ref 2 1 0 (List.length s_1) (some 5))], .arr 1 (fki Func.av 4 rK s_1.length s_1), .arr 1 (flat Instr.av l_6)]) (wk_trans (fr'' := [(2, (.ptr 0 0 0)), (3, (.ptr 1 0 0)), (7, (.sl false 5 (List.map Func.av p_00.Funcs))), (8, (.int .i64 (List.length p_00.Funcs : Int))), (9, (.int .i64 (i_2 : Int))), (24, (.ref 2 1 0 (List.length s_1) (some 5))), (25, (.agg [(.int .i64 f_3.Params), (.sl false 1 (List.map (avI .u8) l_5)), (.bool f_3.Result), (.int .i64 f_3.Keep), (.ref 3 1 0 (List.length l_6) (some 3))]))]) (S'' := [.arr 0 [.nils], .arr 0 [(.ref 2 1 0 (List.length s_1) (some 5))], .arr 1 (fki Func.av 4 rK s_1.length s_1), .arr 1 (flat Instr.av l_6)]) (wk_rn (fr' := [(2, (.ptr 0 0 0)), (3, (.ptr 1 0 0)), (7, (.sl false 5 (List.map Func.av p_00.Funcs))), (8, (.int .i64 (List.length p_00.Funcs : Int))), (9, (.int .i64 (i_2 : Int))), (24, (.ref 2 1 0 (List.length s_1) (some 5))), (25, (.agg [(.int .i64 f_3.Params), (.ref 4 1 0 (List.length l_5) none), (.bool f_3.Result), (.int .i64 f_3.Keep), (.ref 3 1 0 (List.length l_6) (some 3))]))]) (S' := [.arr 0 [.nils], .arr 0 [(.ref 2 1 0 (List.length s_1) (some 5))], .arr 1 (fki Func.av 4 rK s_1.length s_1), .arr 1 (flat Instr.av l_6), .arr 1 (flat (avI .u8) l_5)]) [some (0, 0), some (1, 0), some (2, 0), some (6, 0), some (5, 0)] rfl (Nat.le_of_ble_eq_true rfl) ⟨(rn_ob rfl rfl (.cons (rn_b rfl) (.nil (Nat.zero_le _))) rfl), (rn_ob rfl rfl (.cons (rn_refKi Func.enc rfl rfl rfl rfl rfl) (.nil (Nat.zero_le _))) rfl), (rn_ob rfl rfl (rnl_fki Func.enc (fun x hx => by rw [List.getElem?_eq_none (Nat.le_refl _)] at hx; cases hx)) rfl), (rn_ob rfl rfl (.refl (Instr.enc.blwf 0 _)) rfl), (rn_ob rfl rfl (.refl ((encI .u8).blwf 0 _)) rfl), trivial⟩ ⟨(rn_ptr rfl rfl rfl rfl), (rn_ptr rfl rfl rfl rfl), (rn_b (Func.enc.blws 0)), (rn_b rfl), (rn_b rfl), (rn_refKi Func.enc rfl rfl rfl rfl rfl), (rn_agg ⟨(rn_b rfl), (rn_refL (encI .u8) rfl rfl rfl), (rn_b rfl), (rn_b rfl), (rn_refL Instr.enc rfl rfl rfl), trivial⟩), trivial⟩) (wk_fz 4 6 rfl ⟨⟨rfl, fzL_id rfl⟩, ⟨rfl, fzL_id rfl⟩, ⟨rfl, fzL_id (fki_blw Func.enc (fun _ => rfl) _ _)⟩, ⟨rfl, fzL_id (Instr.enc.blwf 4 _)⟩, trivial⟩ ⟨(fz_b rfl (.refl _)), (fz_b rfl (.refl _)), (fz_b (Func.enc.blws 4) (.refl _)), (fz_b rfl (.refl _)), (fz_b rfl (.refl _)), (fz_b rfl (.refl _)), (fz_agg ⟨(fz_b rfl (.refl _)), (fz_ref (encI .u8) (Nat.le_of_ble_eq_true rfl) rfl), (fz_b rfl (.refl _)), (fz_b rfl (.refl _)), (fz_b rfl (.refl _)), trivial⟩), trivial⟩)) ?_
      refine E_reg ?_
      refine E_opw (v' := (.sl true 5 [(.agg [(.int .i64 f_3.Params), (.sl false 1 (List.map (avI .u8) l_5)), (.bool f_3.Result), (.int .i64 f_3.Keep), (.ref 3 1 0 (List.length l_6) (some 3))])])) rfl (.refl _) rfl ?_
      refine E_apV (m := 1) (cs := fki Func.av 4 rK s_1.length s_1) (ys := [(.int .i64 f_3.Params), (.sl false 1 (List.map (avI .u8) l_5)), (.bool f_3.Result), (.int .i64 f_3.Keep), (.ref 3 1 0 (List.length l_6) (some 3))]) (S' := [.arr 0 [.nils], .arr 0 [(.ref 2 1 0 (List.length s_1) (some 5))], .arr 2 (fki Func.av 4 rK s_1.length s_1 ++ [(.int .i64 f_3.Params), (.sl false 1 (List.map (avI .u8) l_5)), (.bool f_3.Result), (.int .i64 f_3.Keep), (.ref 3 1 0 (List.length l_6) (some 3))]), .arr 1 (flat Instr.av l_6)]) rfl rfl rfl (fki_len Func.enc _ _) rfl hbd rfl ?_
      refine E_op0 (v' := (.ptr 1 0 0)) rfl rfl ?_
      refine E_do (S' := [.arr 0 [.nils], .arr 0 [(.ref 2 2 0 (List.length s_1 + 1) (some 5))], .arr 2 (fki Func.av 4 rK s_1.length s_1 ++ [(.int .i64 f_3.Params), (.sl false 1 (List.map (avI .u8) l_5)), (.bool f_3.Result), (.int .i64 f_3.Keep), (.ref 3 1 0 (List.length l_6) (some 3))]), .arr 1 (flat Instr.av l_6)]) rfl rfl ?_
      refine E_nil ?_
      refine E_bln ?_
      exact L_nn rfl (wk_rn [some (0, 0), some (1, 0), some (2, 0), some (3, 0)] rfl (Nat.le_of_ble_eq_true rfl) ⟨(rn_ob rfl rfl (.cons (rn_b rfl) (.nil (Nat.zero_le _))) rfl), (rn_ob rfl rfl (.cons (rn_refKi Func.enc rfl rfl rfl rfl (by simp)) (.nil (Nat.zero_le _))) rfl), (rn_ob rfl rfl (by rw [fki_push', fki_none _ _ (List.getElem?_eq_none (Nat.le_refl _))]; exact .app rfl (.refl (Func.enc.blwf 0 _)) (RnL.set (cs := (Func.av (Func.mk f_3.Params l_5 f_3.Result f_3.Keep l_6)).cells) (j := 4) (cells_below (Func.enc.blw _ 0)) (rn_refL Instr.enc rfl rfl (congrArg (fun c => Ob.arr 1 (flat Instr.av c)) kidI_push')))) rfl), (rn_ob rfl rfl (rnl_eq Instr.enc (kidI_push' (L := Func.Code) (xs := s_1) (y := (Func.mk f_3.Params l_5 f_3.Result f_3.Keep l_6))).symm) rfl), trivial⟩ ⟨(rn_b rfl), (rn_b rfl), (rn_ptr rfl rfl rfl rfl), (rn_ptr rfl rfl rfl rfl), (rn_b (Func.enc.blws 0)), trivial⟩)
    · refine E_nxw (F := [(2, (.ptr 0 0 0)), (3, (.ptr 1 0 0)), (7, (.sl false 5 (List.map Func.av p_00.Funcs))), (8, (.int .i64 (List.length p_00.Funcs : Int))), (9, (.int .i64 (i_2 : Int))), (24, (.ref 2 1 0 (List.length s_1) (some 5))), (25, (.agg [(.int .i64 f_3.Params), (.sl false 1 (List.map (avI .u8) l_5)), (.bool f_3.Result), (.int .i64 f_3.Keep), (.sl false 3 (List.map Instr.av l_6))]))]) (T := [.arr 0 [.nils], .arr 0 [(.ref 2 1 0 (List.length s_1) (some 5))], .arr 1 (fki Func.av 4 rK k s_1), .arr 1 (flat Instr.av (kidI Func.Code k s_1))]) (wk_fz 4 6 rfl ⟨⟨rfl, fzL_id rfl⟩, ⟨rfl, fzL_id rfl⟩, ⟨rfl, fzL_id (fki_blw Func.enc (fun _ => rfl) _ _)⟩, ⟨rfl, fzL_id (Instr.enc.blwf 4 _)⟩, trivial⟩ ⟨(fz_b rfl (.refl _)), (fz_b rfl (.refl _)), (fz_b (Func.enc.blws 4) (.refl _)), (fz_b rfl (.refl _)), (fz_b rfl (.refl _)), (fz_b rfl (.refl _)), (fz_agg ⟨(fz_b rfl (.refl _)), (fz_ref (encI .u8) (Nat.le_of_ble_eq_true rfl) rfl), (fz_b rfl (.refl _)), (fz_b rfl (.refl _)), (fz_ref Instr.enc (Nat.le_of_ble_eq_true rfl) rfl), trivial⟩), trivial⟩) ?_
      refine E_reg ?_
      refine E_opw (v' := (.sl true 5 [(.agg [(.int .i64 f_3.Params), (.sl false 1 (List.map (avI .u8) l_5)), (.bool f_3.Result), (.int .i64 f_3.Keep), (.sl false 3 (List.map Instr.av l_6))])])) rfl (.refl _) rfl ?_
      refine E_apV (m := 1) (cs := fki Func.av 4 rK k s_1) (ys := [(.int .i64 f_3.Params), (.sl false 1 (List.map (avI .u8) l_5)), (.bool f_3.Result), (.int .i64 f_3.Keep), (.sl false 3 (List.map Instr.av l_6))]) (S' := [.arr 0 [.nils], .arr 0 [(.ref 2 1 0 (List.length s_1) (some 5))], .arr 2 (fki Func.av 4 rK k s_1 ++ [(.int .i64 f_3.Params), (.sl false 1 (List.map (avI .u8) l_5)), (.bool f_3.Result), (.int .i64 f_3.Keep), (.sl false 3 (List.map Instr.av l_6))]), .arr 1 (flat Instr.av (kidI Func.Code k s_1))]) rfl rfl rfl (fki_len Func.enc _ _) rfl hbd rfl ?_
      refine E_op0 (v' := (.ptr 1 0 0)) rfl rfl ?_
      refine E_do (S' := [.arr 0 [.nils], .arr 0 [(.ref 2 2 0 (List.length s_1 + 1) (some 5))], .arr 2 (fki Func.av 4 rK k s_1 ++ [(.int .i64 f_3.Params), (.sl false 1 (List.map (avI .u8) l_5)), (.bool f_3.Result), (.int .i64 f_3.Keep), (.sl false 3 (List.map Instr.av l_6))]), .arr 1 (flat Instr.av (kidI Func.Code k s_1))]) rfl rfl ?_
      refine E_nil ?_
      refine E_bln ?_
      exact L_nn rfl (wk_rn [some (0, 0), some (1, 0), some (2, 0), some (3, 0)] rfl (Nat.le_of_ble_eq_true rfl) ⟨(rn_ob rfl rfl (.cons (rn_b rfl) (.nil (Nat.zero_le _))) rfl), (rn_ob rfl rfl (.cons (rn_refKi Func.enc rfl rfl rfl rfl (by simp)) (.nil (Nat.zero_le _))) rfl), (rn_ob rfl rfl (by rw [fki_push _ _ _ hk]; exact .app rfl (rnl_fki Func.enc (fun x hx => rn_kidI (L := Func.Code) Instr.enc hx rfl rfl (congrArg (fun c => Ob.arr 1 (flat Instr.av c)) (kidI_push hk)))) (.refl (cells_below (Func.enc.blw (Func.mk f_3.Params l_5 f_3.Result f_3.Keep l_6) 0)))) rfl), (rn_ob rfl rfl (rnl_eq Instr.enc (kidI_push hk).symm) rfl), trivial⟩ ⟨(rn_b rfl), (rn_b rfl), (rn_ptr rfl rfl rfl rfl), (rn_ptr rfl rfl rfl rfl), (rn_b (Func.enc.blws 0)), trivial⟩)
  · refine X_nx hw ?_
    refine E_sq ?_
    refine E_reg ?_
    refine E_op (v' := (.agg [(.ref 2 1 0 (List.length s_1) (some 5))])) (S' := [.arr 0 [.nils], .arr 0 [(.ref 2 1 0 (List.length s_1) (some 5))], .arr 1 (fki Func.av 4 rK k s_1), .arr 1 (flat Instr.av (kidI Func.Code k s_1))]) rfl rfl rfl ?_
    refine E_do (S' := [.arr 0 [(.ref 2 1 0 (List.length s_1) (some 5))], .arr 0 [(.ref 2 1 0 (List.length s_1) (some 5))], .arr 1 (fki Func.av 4 rK k s_1), .arr 1 (flat Instr.av (kidI Func.Code k s_1))]) rfl rfl ?_
    refine E_nil ?_
    refine E_nx ?_
    refine E_ret ?_
    cases h
    exact ⟨trivial, _, _, rfl, gwk_rn [some (2, 0), some (3, 0)] rfl (Nat.le_of_ble_eq_true rfl) ⟨(rn_ob rfl rfl (rnl_fki Func.enc (fun x hx => rn_kidI (L := Func.Code) Instr.enc hx rfl rfl rfl)) rfl), (rn_ob rfl rfl (.refl (Instr.enc.blwf 0 _)) rfl), trivial⟩, rn_agg ⟨(rn_refKi Func.enc rfl rfl rfl rfl rfl), trivial⟩⟩
/- windlass/windlasslaw05.KindsAhead -/
def fc5 : FC := (.seq (.reg [⟨(some 2), none, .op (.box (.t 0))⟩,
  ⟨(some 4), none, .op (.mv (.v (.bool false)))⟩] [])
  (.seq (.seq (.reg [⟨(some 12), none, .call 8 []⟩,
  ⟨(some 13), none, .op (.un .not (.t 12))⟩] [])
  (.cond (.t 13)
  (.seq (.reg [⟨(some 4), none, .op (.mv (.v (.bool false)))⟩] [])
  .ret)
  .skip))
  (.seq (.seq (.reg [⟨(some 14), none, .op (.fad 0 (.t 2))⟩,
  ⟨(some 15), none, .op (.load none (.t 14))⟩,
  ⟨(some 16), none, .op (.len .sl (.t 15))⟩,
  ⟨(some 17), none, .op (.bin .none .eql (.t 16) (.v (.int .i64 0)))⟩] [])
  (.cond (.t 17)
  (.seq (.reg [⟨(some 4), none, .op (.mv (.v (.bool true)))⟩] [])
  .ret)
  .skip))
  (.seq (.reg [⟨(some 18), none, .op (.load (some 1) (.t 2))⟩,
  ⟨(some 19), none, .call 9 [(.t 18)]⟩,
  ⟨(some 5), none, .op (.new [.nils])⟩,
  ⟨none, none, .op (.store 1 (.t 5) (.t 19))⟩] [])
  (.seq (.reg [⟨(some 20), none, .op (.fad 0 (.t 5))⟩,
  ⟨(some 21), none, .op (.load none (.t 20))⟩,
  ⟨(some 22), none, .op (.mv (.t 1))⟩,
  ⟨(some 23), none, .op (.cint .u64 (.t 22))⟩,
  ⟨(some 24), none, .op (.fad 0 (.t 5))⟩,
  ⟨(some 25), none, .op (.load none (.t 24))⟩,
  ⟨(some 26), none, .op (.len .sl (.t 25))⟩,
  ⟨(some 27), none, .op (.cint .u64 (.t 26))⟩,
  ⟨(some 28), none, .op (.bin .none .rem (.t 23) (.t 27))⟩,
  ⟨(some 29), none, .op (.cint .i64 (.t 28))⟩,
  ⟨(some 30), none, .op (.iad none (some 5) (.t 21) (.t 29))⟩,
  ⟨(some 6), none, .op (.mv (.t 30))⟩] [])
  (.seq (.seq (.reg [⟨(some 31), none, .op (.mv (.t 6))⟩,
  ⟨(some 32), none, .op (.nchk (.t 31))⟩,
  ⟨(some 33), none, .op (.fad 4 (.t 32))⟩,
  ⟨(some 34), none, .op (.load none (.t 33))⟩,
  ⟨(some 35), none, .op (.len .sl (.t 34))⟩,
  ⟨(some 36), none, .op (.bin .none .eql (.t 35) (.v (.int .i64 0)))⟩,
  ⟨(some 37), none, .op (.mv (.t 36))⟩,
  ⟨(some 38), some (37, false), .op (.mv (.t 6))⟩,
  ⟨(some 39), some (37, false), .op (.nchk (.t 38))⟩,
  ⟨(some 40), some (37, false), .op (.fad 4 (.t 39))⟩,
  ⟨(some 41), some (37, false), .op (.load none (.t 40))⟩,
  ⟨(some 42), some (37, false), .op (.len .sl (.t 41))⟩,
  ⟨(some 43), some (37, false), .op (.bin .none .gtr (.t 42) (.v (.int .i64 254)))⟩,
  ⟨(some 44), none, .op (.pick (.t 37) (.v (.bool true)) (.t 43))⟩] [])
  (.cond (.t 44)
  (.seq (.reg [⟨(some 4), none, .op (.mv (.v (.bool true)))⟩] [])
  .ret)
  .skip))
  (.seq (.seq (.reg [⟨(some 45), none, .op (.mv (.t 6))⟩,
  ⟨(some 46), none, .op (.nchk (.t 45))⟩,
  ⟨(some 47), none, .op (.fad 4 (.t 46))⟩,
  ⟨(some 48), none, .op (.load none (.t 47))⟩,
  ⟨(some 49), none, .op (.len .sl (.t 48))⟩,
  ⟨(some 50), none, .op (.mv (.v (.int .i64 0)))⟩] [])
  (.block 0 (.loop (.seq (.reg [⟨(some 51), none, .op (.bin .none .lss (.t 50) (.t 49))⟩] [])
  (.seq (.cond (.t 51)
  .skip
  (.exit 0))
  (.seq (.block 1 (.seq (.reg [⟨(some 52), none, .op (.mv (.t 50))⟩,
  ⟨(some 7), none, .op (.mv (.t 52))⟩] [])
  (.seq (.reg [⟨(some 53), none, .op (.mv (.t 6))⟩,
  ⟨(some 54), none, .op (.nchk (.t 53))⟩,
  ⟨(some 55), none, .op (.fad 4 (.t 54))⟩,
  ⟨(some 56), none, .op (.load none (.t 55))⟩,
  ⟨(some 57), none, .op (.mv (.t 7))⟩,
  ⟨(some 58), none, .op (.iad none (some 3) (.t 56) (.t 57))⟩,
  ⟨(some 59), none, .op (.fad 0 (.t 58))⟩,
  ⟨(some 60), none, .op (.load none (.t 59))⟩,
  ⟨(some 61), none, .op (.bin .none .eql (.t 60) (.v (.int .u8 21)))⟩,
  ⟨(some 62), none, .op (.mv (.t 61))⟩,
  ⟨(some 63), some (62, false), .op (.mv (.t 6))⟩,
  ⟨(some 64), some (62, false), .op (.nchk (.t 63))⟩,
  ⟨(some 65), some (62, false), .op (.fad 4 (.t 64))⟩,
  ⟨(some 66), some (62, false), .op (.load none (.t 65))⟩,
  ⟨(some 67), some (62, false), .op (.mv (.t 7))⟩,
  ⟨(some 68), some (62, false), .op (.iad none (some 3) (.t 66) (.t 67))⟩,
  ⟨(some 69), some (62, false), .op (.fad 0 (.t 68))⟩,
  ⟨(some 70), some (62, false), .op (.load none (.t 69))⟩,
  ⟨(some 71), some (62, false), .op (.bin .none .eql (.t 70) (.v (.int .u8 22)))⟩,
  ⟨(some 72), none, .op (.pick (.t 62) (.v (.bool true)) (.t 71))⟩] [])
  (.cond (.t 72)
  (.seq (.seq (.reg [⟨(some 73), none, .op (.mv (.t 6))⟩,
  ⟨(some 74), none, .op (.nchk (.t 73))⟩,
  ⟨(some 75), none, .op (.fad 4 (.t 74))⟩,
  ⟨(some 76), none, .op (.load none (.t 75))⟩,
  ⟨(some 77), none, .op (.mv (.t 7))⟩,
  ⟨(some 78), none, .op (.iad none (some 3) (.t 76) (.t 77))⟩,
  ⟨(some 79), none, .op (.fad 1 (.t 78))⟩,
  ⟨(some 80), none, .op (.load none (.t 79))⟩,
  ⟨(some 81), none, .op (.bin .none .lss (.t 80) (.v (.int .i64 0)))⟩,
  ⟨(some 82), none, .op (.mv (.t 81))⟩,
  ⟨(some 83), some (82, false), .op (.mv (.t 6))⟩,
  ⟨(some 84), some (82, false), .op (.nchk (.t 83))⟩,
  ⟨(some 85), some (82, false), .op (.fad 4 (.t 84))⟩,
  ⟨(some 86), some (82, false), .op (.load none (.t 85))⟩,
  ⟨(some 87), some (82, false), .op (.mv (.t 7))⟩,
  ⟨(some 88), some (82, false), .op (.iad none (some 3) (.t 86) (.t 87))⟩,
  ⟨(some 89), some (82, false), .op (.fad 1 (.t 88))⟩,
  ⟨(some 90), some (82, false), .op (.load none (.t 89))⟩,
  ⟨(some 91), some (82, false), .op (.bin .none .gtr (.t 90) (.v (.int .i64 65533)))⟩,
  ⟨(some 92), none, .op (.pick (.t 82) (.v (.bool true)) (.t 91))⟩] [])
  (.cond (.t 92)
  (.seq (.reg [⟨(some 4), none, .op (.mv (.v (.bool true)))⟩] [])
  .ret)
  .skip))
  (.reg [⟨(some 93), none, .op (.mv (.t 6))⟩,
  ⟨(some 94), none, .op (.nchk (.t 93))⟩,
  ⟨(some 95), none, .op (.fad 4 (.t 94))⟩,
  ⟨(some 96), none, .op (.load none (.t 95))⟩,
  ⟨(some 97), none, .op (.mv (.t 7))⟩,
  ⟨(some 98), none, .op (.iad none (some 3) (.t 96) (.t 97))⟩,
  ⟨(some 99), none, .op (.fad 1 (.t 98))⟩,
  ⟨(some 100), none, .op (.load none (.t 99))⟩,
  ⟨(some 101), none, .op (.bin .none .add (.t 100) (.v (.int .i64 2)))⟩,
  ⟨(some 102), none, .op (.iad none (some 3) (.t 96) (.t 97))⟩,
  ⟨(some 103), none, .op (.fad 1 (.t 102))⟩,
  ⟨none, none, .op (.store 1 (.t 103) (.t 101))⟩] []))
  .skip))))
  (.reg [⟨(some 104), none, .op (.bin .none .add (.t 50) (.v (.int .i64 1)))⟩,
  ⟨(some 50), none, .op (.mv (.t 104))⟩] [])))))))
  (.seq (.reg [⟨(some 105), none, .op (.mv (.t 6))⟩,
  ⟨(some 106), none, .op (.build [(.int .u8 0), (.int .i64 0), (.int .u64 0)] [(0, 1, (.v (.int .u8 1)))])⟩,
  ⟨(some 107), none, .op (.build [(.int .u8 0), (.int .i64 0), (.int .u64 0)] [(0, 1, (.v (.int .u8 31)))])⟩,
  ⟨(some 108), none, .op (.bsl (some 3) [(.int .u8 0), (.int .i64 0), (.int .u64 0)] 2 [(0, 3, (.t 106)), (3, 3, (.t 107))])⟩,
  ⟨(some 109), none, .op (.mv (.t 6))⟩,
  ⟨(some 110), none, .op (.nchk (.t 109))⟩,
  ⟨(some 111), none, .op (.fad 4 (.t 110))⟩,
  ⟨(some 112), none, .op (.load none (.t 111))⟩,
  ⟨(some 113), none, .op (.app (some 3) 24 (.t 108) (.t 112))⟩,
  ⟨(some 114), none, .op (.nchk (.t 105))⟩,
  ⟨(some 115), none, .op (.fad 4 (.t 114))⟩,
  ⟨none, none, .op (.store 1 (.t 115) (.t 113))⟩] [])
  (.seq (.reg [⟨(some 117), none, .op (.load (some 1) (.t 2))⟩,
  ⟨(some 118), none, .call 10 [(.t 117)]⟩,
  ⟨(some 116), none, .op (.mv (.t 118))⟩,
  ⟨(some 119), none, .op (.ext 0 (.t 116))⟩,
  ⟨(some 120), none, .op (.ext 1 (.t 116))⟩,
  ⟨(some 8), none, .op (.mv (.t 119))⟩,
  ⟨(some 9), none, .op (.mv (.t 120))⟩] [])
  (.seq (.reg [⟨(some 122), none, .op (.load (some 1) (.t 5))⟩,
  ⟨(some 123), none, .call 10 [(.t 122)]⟩,
  ⟨(some 121), none, .op (.mv (.t 123))⟩,
  ⟨(some 124), none, .op (.ext 0 (.t 121))⟩,
  ⟨(some 125), none, .op (.ext 1 (.t 121))⟩,
  ⟨(some 10), none, .op (.mv (.t 124))⟩,
  ⟨(some 11), none, .op (.mv (.t 125))⟩] [])
  (.seq (.reg [⟨(some 126), none, .op (.mv (.t 9))⟩,
  ⟨(some 127), none, .op (.mv (.t 11))⟩,
  ⟨(some 128), none, .op (.bin .none .eql (.t 126) (.t 127))⟩,
  ⟨(some 4), none, .op (.mv (.t 128))⟩] [])
  .ret)))))))))))
theorem fn5 : Fn3 Try.prog 5 129 [(4, none)] fc5 := ⟨_, _, Try.func5, rfl, rfl, rfl, by kernel_rfl⟩
def windlasslaw05_KindsAhead_s (fuel : Nat) (p_00 : Program) (f_01 : Int) : Option Bool :=
  ((windlasslaw05_first_s fuel).bind fun fir_1 => (if (!fir_1) then (some false) else (if ((List.length p_00.Funcs : Int) == 0) then (some true) else ((windlassref03_Copy_s p_00).bind fun cop_2 => (gd ((U64 (List.length cop_2.Funcs : Int)) ≠ 0) ((getI cop_2.Funcs (I64 (Int.tmod (U64 f_01) (U64 (List.length cop_2.Funcs : Int))))).bind fun y_4 => (jp (fun (s_6 : Bool) => (if s_6 then (some true) else ((rni (fun (i_8 : Nat) (s_7 : List Instr) => ((jp (fun (s_10 : Bool) => (if s_10 then (jp (fun (s_13 : Bool) => (if s_13 then (some (.ret (some true))) else ((getI s_7 (i_8 : Int)).bind fun y_17 => (some (.nxt (List.set s_7 (Int.toNat (i_8 : Int)) ⟨y_17.Op, I64 (y_17.Arg + 2), y_17.Imm⟩)))))) (fun k_12 => ((getI s_7 (i_8 : Int)).bind fun y_14 => (if (decide (y_14.Arg < 0)) then (k_12 true) else (k_12 (decide (y_14.Arg > 65533))))))) else (some (.nxt s_7)))) (fun k_9 => ((getI s_7 (i_8 : Int)).bind fun y_11 => (if (y_11.Op == 21) then (k_9 true) else (k_9 (y_11.Op == 22)))))) : Option (Stp (List Instr) (Option Bool)))) (List.length y_4.Code : Int) y_4.Code).bind (oc (fun (s_7 : List Instr) => ((appL 24 [⟨1, 0, 0⟩, ⟨31, 0, 0⟩] s_7).bind fun l_18 => ((kinds_Check_s fuel p_00).bind fun che_15 => ((kinds_Check_s fuel (Program.mk (cop_2.Funcs.set (Int.toNat (I64 (Int.tmod (U64 f_01) (U64 (List.length cop_2.Funcs : Int))))) (yC y_4 l_18)))).bind fun che_16 => (some (che_15.2 == che_16.2)))))))))) (fun k_5 => (if ((List.length y_4.Code : Int) == 0) then (k_5 true) else (k_5 (decide ((List.length y_4.Code : Int) > 254))))))))))))
theorem windlasslaw05_KindsAhead_ev {fuel : Nat} {p_00 : Program} {f_01 : Int} {r : Bool} (h : windlasslaw05_KindsAhead_s fuel p_00 f_01 = some r) : PureEv Try.prog 5 [(Program.av p_00), (.int .i64 f_01)] (.bool r) := by
  unfold windlasslaw05_KindsAhead_s at h
  refine PureEv_end mixed fn5 (by simp) [5, 108] 6 ?_
  unfold fc5
  refine E_sq ?_
  refine E_reg ?_
  refine E_op0 (v' := (.cptr (Program.av p_00).cells 0)) rfl rfl ?_
  refine E_mv (v' := (.bool false)) rfl ?_
  refine E_nil ?_
  refine E_nx ?_
  refine E_as ?_
  refine E_sq ?_
  refine E_reg ?_
  obtain ⟨fir_1, hfir_1, h⟩ := bd_some h
  refine E_callW (windlasslaw05_first_ev (fuel := fuel)  hfir_1) rfl trivial (blwL_of trivial) rfl ?_
  refine E_op0 (v' := (.bool (!fir_1))) rfl rfl ?_
  refine E_nil ?_
  refine E_nx ?_
  refine E_sq ?_
  refine E_cs (t := (!fir_1)) rfl (fun hb => ?_) (fun hb => ?_)
  · rw [ite_t hb] at h
    refine E_sq ?_
    refine E_reg ?_
    refine E_mv (v' := (.bool false)) rfl ?_
    refine E_nil ?_
    refine E_nx ?_
    refine E_ret ?_
    refine E_thr ?_
    cases h
    exact ⟨trivial, _, rfl, (fz_b rfl (.refl _))⟩
  · rw [ite_f hb] at h
    refine E_skip ?_
    refine E_nx ?_
    refine E_as ?_
    refine E_sq ?_
    refine E_reg ?_
    refine E_op0 (v' := (.cptr (Program.av p_00).cells 0)) rfl rfl ?_
    refine E_op0 (v' := (.sl false 5 (List.map Func.av p_00.Funcs))) rfl rfl ?_
    refine E_len rfl ?_
    refine E_op0 (v' := (.bool ((List.length p_00.Funcs : Int) == 0))) rfl rfl ?_
    refine E_nil ?_
    refine E_nx ?_
    refine E_sq ?_
    refine E_cs (t := ((List.length p_00.Funcs : Int) == 0)) rfl (fun hb => ?_) (fun hb => ?_)
    · rw [ite_t hb] at h
      refine E_sq ?_
      refine E_reg ?_
      refine E_mv (v' := (.bool true)) rfl ?_
      refine E_nil ?_
      refine E_nx ?_
      refine E_ret ?_
      refine E_thr ?_
      cases h
      exact ⟨trivial, _, rfl, (fz_b rfl (.refl _))⟩
    · rw [ite_f hb] at h
      refine E_skip ?_
      refine E_nx ?_
      refine E_sq ?_
      refine E_reg ?_
      refine E_op0 (v' := (Program.av p_00)) rfl rfl ?_
      obtain ⟨cop_2, hcop_2, h⟩ := bd_some h
      obtain ⟨hg_3, h⟩ := gd_some h
      obtain ⟨y_4, hy_4, h⟩ := bd_some h
      obtain ⟨hN0, hN1, hN2⟩ := getI_some hy_4
      generalize hK : Int.toNat (I64 (Int.tmod (U64 f_01) (U64 (List.length cop_2.Funcs : Int)))) = K at h hN2
      have hK1 : K < cop_2.Funcs.length := by rw [← hK]; omega
      have hset : ∀ z, (cop_2.Funcs.set K z)[K]? = some z := fun z => List.getElem?_set_self hK1
      have hcv := windlassref03_Copy_foc_ev (k := K) hcop_2
      rw [kidI_some hN2, show fki Func.av 4 rK1 K cop_2.Funcs = fki Func.av 4 rK1 K (cop_2.Funcs.set K (yC y_4 y_4.Code)) from by rw [set_same hN2]] at hcv
      refine E_callF (S' := [.arr 1 (fki Func.av 4 rK1 K (cop_2.Funcs.set K (yC y_4 y_4.Code))), .arr 1 (flat Instr.av y_4.Code)]) (r' := .agg [.ref 0 1 0 (List.length cop_2.Funcs) (some 5)]) hcv [] rfl rfl (by decide) rfl rfl trivial ⟨(fr_outN rfl rfl (rnl_fkiC Func.enc hK1 (fun _ => rfl) (fo_ref rfl rfl rfl rfl)) rfl), (fr_outN rfl rfl (.refl (Instr.enc.blwf 0 _)) rfl), trivial⟩ trivial rfl (.cons (rn_b (Program.enc.blw _ 0)) (.nil (Nat.zero_le _))) (rn_agg ⟨(fo_ref rfl rfl rfl rfl), trivial⟩) ?_
      refine E_op (v' := .ptr 2 0 0) (S' := [.arr 1 (fki Func.av 4 rK1 K (cop_2.Funcs.set K (yC y_4 y_4.Code))), .arr 1 (flat Instr.av y_4.Code), .arr 0 [.nils]]) rfl rfl rfl ?_
      refine E_do (S' := [.arr 1 (fki Func.av 4 rK1 K (cop_2.Funcs.set K (yC y_4 y_4.Code))), .arr 1 (flat Instr.av y_4.Code), .arr 0 [(.ref 0 1 0 (List.length cop_2.Funcs) (some 5))]]) rfl rfl ?_
      refine E_nil ?_
      refine E_nx ?_
      refine E_sq ?_
      refine E_reg ?_
      refine E_op0 (v' := (.ptr 2 0 0)) rfl rfl ?_
      refine E_op (v' := (.ref 0 1 0 (List.length cop_2.Funcs) (some 5))) (S' := [.arr 1 (fki Func.av 4 rK1 K (cop_2.Funcs.set K (yC y_4 y_4.Code))), .arr 1 (flat Instr.av y_4.Code), .arr 0 [(.ref 0 1 0 (List.length cop_2.Funcs) (some 5))]]) rfl rfl rfl ?_
      refine E_mv (v' := (.int .i64 f_01)) rfl ?_
      refine E_op0 (v' := (.int .u64 (U64 f_01))) rfl rfl ?_
      refine E_op0 (v' := (.ptr 2 0 0)) rfl rfl ?_
      refine E_op (v' := (.ref 0 1 0 (List.length cop_2.Funcs) (some 5))) (S' := [.arr 1 (fki Func.av 4 rK1 K (cop_2.Funcs.set K (yC y_4 y_4.Code))), .arr 1 (flat Instr.av y_4.Code), .arr 0 [(.ref 0 1 0 (List.length cop_2.Funcs) (some 5))]]) rfl rfl rfl ?_
      refine E_lenR rfl ?_
      refine E_op0 (v' := (.int .u64 (U64 (List.length cop_2.Funcs : Int)))) rfl rfl ?_
      refine E_rem rfl rfl hg_3 ?_
      refine E_op0 (v' := (.int .i64 (I64 (Int.tmod (U64 f_01) (U64 (List.length cop_2.Funcs : Int)))))) rfl rfl ?_
      refine E_iadR (n := (I64 (Int.tmod (U64 f_01) (U64 (List.length cop_2.Funcs : Int))))) rfl rfl ⟨hN0, hN1⟩ ?_
      refine E_mv (v' := (.ptr 0 1 (0 + K * szOf (some 5)))) (congrArg (fun q => AV.ptr 0 1 (0 + q * szOf (some 5))) hK) ?_
      refine E_nil ?_
      refine E_nx ?_
      refine E_as ?_
      refine E_jp h (fun s_6 => [(2, (.cptr (Program.av p_00).cells 0)), (5, (.ptr 2 0 0)), (6, (.ptr 0 1 (0 + K * szOf (some 5)))), (44, (.bool s_6))]) (fun s_6 => [.arr 1 (fki Func.av 4 rK1 K (cop_2.Funcs.set K (yC y_4 y_4.Code))), .arr 1 (flat Instr.av y_4.Code), .arr 0 [(.ref 0 1 0 (List.length cop_2.Funcs) (some 5))]]) (fun k_5 h => ?_) (fun s_6 h => ?_)
      · refine E_reg ?_
        refine E_mv (v' := (.ptr 0 1 (0 + K * szOf (some 5)))) rfl ?_
        refine E_op0 (v' := (.ptr 0 1 (0 + K * szOf (some 5)))) rfl rfl ?_
        refine E_op0 (v' := (.ptr 0 1 (0 + K * szOf (some 5) + 4))) rfl rfl ?_
        refine E_ldV rfl rfl (fki_part Func.enc (hset (yC y_4 y_4.Code)) (by decide) (Nat.zero_add _ ▸ rfl)) ?_
        refine E_lenR rfl ?_
        refine E_op0 (v' := (.bool ((List.length y_4.Code : Int) == 0))) rfl rfl ?_
        refine E_mv (v' := (.bool ((List.length y_4.Code : Int) == 0))) rfl ?_
        refine E_gsT (b := ((List.length y_4.Code : Int) == 0)) rfl rfl rfl (fun hb => ?_) (fun hb => ?_)
        · rw [ite_f hb] at h
          refine E_mv (v' := (.ptr 0 1 (0 + K * szOf (some 5)))) rfl ?_
          refine E_gh rfl ?_
          refine E_op0 (v' := (.ptr 0 1 (0 + K * szOf (some 5)))) rfl rfl ?_
          refine E_gh rfl ?_
          refine E_op0 (v' := (.ptr 0 1 (0 + K * szOf (some 5) + 4))) rfl rfl ?_
          refine E_gh rfl ?_
          refine E_ldV rfl rfl (fki_part Func.enc (hset (yC y_4 y_4.Code)) (by decide) (Nat.zero_add _ ▸ rfl)) ?_
          refine E_gh rfl ?_
          refine E_lenR rfl ?_
          refine E_gh rfl ?_
          refine E_op0 (v' := (.bool (decide ((List.length y_4.Code : Int) > 254)))) rfl rfl ?_
          refine E_pf rfl rfl ?_
          refine E_nil ?_
          exact E_jx _ h (wk_rn [some (0, 0), some (1, 0), some (2, 0)] rfl (Nat.le_of_ble_eq_true rfl) ⟨(rn_ob rfl rfl (rnl_fkiC Func.enc hK1 (fun _ => rfl) (rn_refE Instr.enc rfl rfl rfl rfl rfl)) rfl), (rn_ob rfl rfl (.refl (Instr.enc.blwf 0 _)) rfl), (rn_ob rfl rfl (.cons (rn_refKi Func.enc rfl rfl rfl (by simp) rfl) (.nil (Nat.zero_le _))) rfl), trivial⟩ ⟨(rn_b (cp_blw (Program.enc.blw _ 0))), (rn_ptr rfl rfl rfl rfl), (rn_ptr rfl rfl rfl (Nat.zero_add _).symm), (rn_b rfl), trivial⟩)
        · rw [ite_t hb] at h
          refine E_gm rfl ?_
          refine E_gm rfl ?_
          refine E_gm rfl ?_
          refine E_gm rfl ?_
          refine E_gm rfl ?_
          refine E_pt rfl rfl ?_
          refine E_nil ?_
          exact E_jx _ h (wk_rn [some (0, 0), some (1, 0), some (2, 0)] rfl (Nat.le_of_ble_eq_true rfl) ⟨(rn_ob rfl rfl (rnl_fkiC Func.enc hK1 (fun _ => rfl) (rn_refE Instr.enc rfl rfl rfl rfl rfl)) rfl), (rn_ob rfl rfl (.refl (Instr.enc.blwf 0 _)) rfl), (rn_ob rfl rfl (.cons (rn_refKi Func.enc rfl rfl rfl (by simp) rfl) (.nil (Nat.zero_le _))) rfl), trivial⟩ ⟨(rn_b (cp_blw (Program.enc.blw _ 0))), (rn_ptr rfl rfl rfl rfl), (rn_ptr rfl rfl rfl (Nat.zero_add _).symm), (rn_b rfl), trivial⟩)
      · refine E_sq ?_
        refine E_cs (t := s_6) rfl (fun hb => ?_) (fun hb => ?_)
        · rw [ite_t hb] at h
          refine E_sq ?_
          refine E_reg ?_
          refine E_mv (v' := (.bool true)) rfl ?_
          refine E_nil ?_
          refine E_nx ?_
          refine E_ret ?_
          refine E_thr ?_
          cases h
          exact ⟨trivial, _, rfl, (fz_b rfl (.refl _))⟩
        · rw [ite_f hb] at h
          refine E_skip ?_
          refine E_nx ?_
          refine E_as ?_
          refine E_sq ?_
          refine E_reg ?_
          refine E_mv (v' := (.ptr 0 1 (0 + K * szOf (some 5)))) rfl ?_
          refine E_op0 (v' := (.ptr 0 1 (0 + K * szOf (some 5)))) rfl rfl ?_
          refine E_op0 (v' := (.ptr 0 1 (0 + K * szOf (some 5) + 4))) rfl rfl ?_
          refine E_ldV rfl rfl (fki_part Func.enc (hset (yC y_4 y_4.Code)) (by decide) (Nat.zero_add _ ▸ rfl)) ?_
          refine E_lenR rfl ?_
          refine E_mv (v' := (.int .i64 0)) rfl ?_
          refine E_nil ?_
          refine E_nx ?_
          refine E_sq ?_
          refine E_rniO (fun s_7 => [(2, (.cptr (Program.av p_00).cells 0)), (5, (.ptr 2 0 0)), (6, (.ptr 0 1 (0 + K * szOf (some 5))))]) (fun s_7 => [.arr 1 (fki Func.av 4 rK1 K (cop_2.Funcs.set K (yC y_4 s_7))), .arr 1 (flat Instr.av s_7), .arr 0 [(.ref 0 1 0 (List.length cop_2.Funcs) (some 5))]]) h (by decide) (by decide) (fun _ => ⟨rfl, rfl, rfl, rfl⟩) (wk_rn [some (0, 0), some (1, 0), some (2, 0)] rfl (Nat.le_of_ble_eq_true rfl) ⟨(rn_ob rfl rfl (rnl_fkiC Func.enc hK1 (fun _ => rfl) (rn_refE Instr.enc rfl rfl rfl rfl rfl)) rfl), (rn_ob rfl rfl (.refl (Instr.enc.blwf 0 _)) rfl), (rn_ob rfl rfl (.cons (rn_refKi Func.enc rfl rfl rfl (by simp) rfl) (.nil (Nat.zero_le _))) rfl), trivial⟩ ⟨(rn_b rfl), (rn_b rfl), (rn_b (cp_blw (Program.enc.blw _ 0))), (rn_ptr rfl rfl rfl rfl), (rn_ptr rfl rfl rfl (Nat.zero_add _).symm), trivial⟩) (fun i_8 s_7 c hlt h => ?_) (fun s_7 fr' S' h hw => ?_)
          · refine E_sq ?_
            refine E_reg ?_
            refine E_mv (v' := (.int .i64 (i_8 : Int))) rfl ?_
            refine E_mv (v' := (.int .i64 (i_8 : Int))) rfl ?_
            refine E_nil ?_
            refine E_nx ?_
            refine E_jp h (fun s_10 => [(2, (.cptr (Program.av p_00).cells 0)), (5, (.ptr 2 0 0)), (6, (.ptr 0 1 (0 + K * szOf (some 5)))), (7, (.int .i64 (i_8 : Int))), (49, (.int .i64 (List.length y_4.Code : Int))), (50, (.int .i64 (i_8 : Int))), (72, (.bool s_10))]) (fun s_10 => [.arr 1 (fki Func.av 4 rK1 K (cop_2.Funcs.set K (yC y_4 s_7))), .arr 1 (flat Instr.av s_7), .arr 0 [(.ref 0 1 0 (List.length cop_2.Funcs) (some 5))]]) (fun k_9 h => ?_) (fun s_10 h => ?_)
            · refine E_reg ?_
              refine E_mv (v' := (.ptr 0 1 (0 + K * szOf (some 5)))) rfl ?_
              refine E_op0 (v' := (.ptr 0 1 (0 + K * szOf (some 5)))) rfl rfl ?_
              refine E_op0 (v' := (.ptr 0 1 (0 + K * szOf (some 5) + 4))) rfl rfl ?_
              refine E_ldV rfl rfl (fki_part Func.enc (hset (yC y_4 s_7)) (by decide) (Nat.zero_add _ ▸ rfl)) ?_
              refine E_mv (v' := (.int .i64 (i_8 : Int))) rfl ?_
              obtain ⟨y_11, hy_11, h⟩ := bd_some h
              refine E_iadR (n := (i_8 : Int)) rfl rfl ⟨(getI_some hy_11).1, (getI_some hy_11).2.1⟩ ?_
              refine E_op0 (v' := (.ptr 1 1 (0 + Int.toNat (i_8 : Int) * szOf (some 3) + 0))) rfl rfl ?_
              refine E_ldR (n := Int.toNat (i_8 : Int)) (fo := 0) (v' := (.int .u8 y_11.Op)) Instr.enc rfl rfl (congrArg (· + 0) (Nat.zero_add _)) (getI_some hy_11).2.2 rfl (.refl _) ?_
              refine E_op0 (v' := (.bool (y_11.Op == 21))) rfl rfl ?_
              refine E_mv (v' := (.bool (y_11.Op == 21))) rfl ?_
              refine E_gsT (b := (y_11.Op == 21)) rfl rfl rfl (fun hb => ?_) (fun hb => ?_)
              · rw [ite_f hb] at h
                refine E_mv (v' := (.ptr 0 1 (0 + K * szOf (some 5)))) rfl ?_
                refine E_gh rfl ?_
                refine E_op0 (v' := (.ptr 0 1 (0 + K * szOf (some 5)))) rfl rfl ?_
                refine E_gh rfl ?_
                refine E_op0 (v' := (.ptr 0 1 (0 + K * szOf (some 5) + 4))) rfl rfl ?_
                refine E_gh rfl ?_
                refine E_ldV rfl rfl (fki_part Func.enc (hset (yC y_4 s_7)) (by decide) (Nat.zero_add _ ▸ rfl)) ?_
                refine E_gh rfl ?_
                refine E_mv (v' := (.int .i64 (i_8 : Int))) rfl ?_
                refine E_gh rfl ?_
                refine E_iadR (n := (i_8 : Int)) rfl rfl ⟨(getI_some hy_11).1, (getI_some hy_11).2.1⟩ ?_
                refine E_gh rfl ?_
                refine E_op0 (v' := (.ptr 1 1 (0 + Int.toNat (i_8 : Int) * szOf (some 3) + 0))) rfl rfl ?_
                refine E_gh rfl ?_
                refine E_ldR (n := Int.toNat (i_8 : Int)) (fo := 0) (v' := (.int .u8 y_11.Op)) Instr.enc rfl rfl (congrArg (· + 0) (Nat.zero_add _)) (getI_some hy_11).2.2 rfl (.refl _) ?_
                refine E_gh rfl ?_
                refine E_op0 (v' := (.bool (y_11.Op == 22))) rfl rfl ?_
                refine E_pf rfl rfl ?_
                refine E_nil ?_
                exact E_jx _ h (wk_rn [some (0, 0), some (1, 0), some (2, 0)] rfl (Nat.le_of_ble_eq_true rfl) ⟨(rn_ob rfl rfl (rnl_fkiC Func.enc hK1 (fun _ => rfl) (rn_refE Instr.enc rfl rfl rfl rfl rfl)) rfl), (rn_ob rfl rfl (.refl (Instr.enc.blwf 0 _)) rfl), (rn_ob rfl rfl (.cons (rn_refKi Func.enc rfl rfl rfl (by simp) rfl) (.nil (Nat.zero_le _))) rfl), trivial⟩ ⟨(rn_b (cp_blw (Program.enc.blw _ 0))), (rn_ptr rfl rfl rfl rfl), (rn_ptr rfl rfl rfl (Nat.zero_add _).symm), (rn_b rfl), (rn_b rfl), (rn_b rfl), (rn_b rfl), trivial⟩)
              · rw [ite_t hb] at h
                refine E_gm rfl ?_
                refine E_gm rfl ?_
                refine E_gm rfl ?_
                refine E_gm rfl ?_
                refine E_gm rfl ?_
                refine E_gm rfl ?_
                refine E_gm rfl ?_
                refine E_gm rfl ?_
                refine E_pt rfl rfl ?_
                refine E_nil ?_
                exact E_jx _ h (wk_rn [some (0, 0), some (1, 0), some (2, 0)] rfl (Nat.le_of_ble_eq_true rfl) ⟨(rn_ob rfl rfl (rnl_fkiC Func.enc hK1 (fun _ => rfl) (rn_refE Instr.enc rfl rfl rfl rfl rfl)) rfl), (rn_ob rfl rfl (.refl (Instr.enc.blwf 0 _)) rfl), (rn_ob rfl rfl (.cons (rn_refKi Func.enc rfl rfl rfl (by simp) rfl) (.nil (Nat.zero_le _))) rfl), trivial⟩ ⟨(rn_b (cp_blw (Program.enc.blw _ 0))), (rn_ptr rfl rfl rfl rfl), (rn_ptr rfl rfl rfl (Nat.zero_add _).symm), (rn_b rfl), (rn_b rfl), (rn_b rfl), (rn_b rfl), trivial⟩)
            · refine E_cs (t := s_10) rfl (fun hb => ?_) (fun hb => ?_)
              · rw [ite_t hb] at h
                refine E_as ?_
                refine E_jp h (fun s_13 => [(2, (.cptr (Program.av p_00).cells 0)), (5, (.ptr 2 0 0)), (6, (.ptr 0 1 (0 + K * szOf (some 5)))), (7, (.int .i64 (i_8 : Int))), (49, (.int .i64 (List.length y_4.Code : Int))), (50, (.int .i64 (i_8 : Int))), (92, (.bool s_13))]) (fun s_13 => [.arr 1 (fki Func.av 4 rK1 K (cop_2.Funcs.set K (yC y_4 s_7))), .arr 1 (flat Instr.av s_7), .arr 0 [(.ref 0 1 0 (List.length cop_2.Funcs) (some 5))]]) (fun k_12 h => ?_) (fun s_13 h => ?_)
                · refine E_reg ?_
                  refine E_mv (v' := (.ptr 0 1 (0 + K * szOf (some 5)))) rfl ?_
                  refine E_op0 (v' := (.ptr 0 1 (0 + K * szOf (some 5)))) rfl rfl ?_
                  refine E_op0 (v' := (.ptr 0 1 (0 + K * szOf (some 5) + 4))) rfl rfl ?_
                  refine E_ldV rfl rfl (fki_part Func.enc (hset (yC y_4 s_7)) (by decide) (Nat.zero_add _ ▸ rfl)) ?_
                  refine E_mv (v' := (.int .i64 (i_8 : Int))) rfl ?_
                  obtain ⟨y_14, hy_14, h⟩ := bd_some h
                  refine E_iadR (n := (i_8 : Int)) rfl rfl ⟨(getI_some hy_14).1, (getI_some hy_14).2.1⟩ ?_
                  refine E_op0 (v' := (.ptr 1 1 (0 + Int.toNat (i_8 : Int) * szOf (some 3) + 1))) rfl rfl ?_
                  refine E_ldR (n := Int.toNat (i_8 : Int)) (fo := 1) (v' := (.int .i64 y_14.Arg)) Instr.enc rfl rfl (congrArg (· + 1) (Nat.zero_add _)) (getI_some hy_14).2.2 rfl (.refl _) ?_
                  refine E_op0 (v' := (.bool (decide (y_14.Arg < 0)))) rfl rfl ?_
                  refine E_mv (v' := (.bool (decide (y_14.Arg < 0)))) rfl ?_
                  refine E_gsT (b := (decide (y_14.Arg < 0))) rfl rfl rfl (fun hb => ?_) (fun hb => ?_)
                  · rw [ite_f hb] at h
                    refine E_mv (v' := (.ptr 0 1 (0 + K * szOf (some 5)))) rfl ?_
                    refine E_gh rfl ?_
                    refine E_op0 (v' := (.ptr 0 1 (0 + K * szOf (some 5)))) rfl rfl ?_
                    refine E_gh rfl ?_
                    refine E_op0 (v' := (.ptr 0 1 (0 + K * szOf (some 5) + 4))) rfl rfl ?_
                    refine E_gh rfl ?_
                    refine E_ldV rfl rfl (fki_part Func.enc (hset (yC y_4 s_7)) (by decide) (Nat.zero_add _ ▸ rfl)) ?_
                    refine E_gh rfl ?_
                    refine E_mv (v' := (.int .i64 (i_8 : Int))) rfl ?_
                    refine E_gh rfl ?_
                    refine E_iadR (n := (i_8 : Int)) rfl rfl ⟨(getI_some hy_14).1, (getI_some hy_14).2.1⟩ ?_
                    refine E_gh rfl ?_
                    refine E_op0 (v' := (.ptr 1 1 (0 + Int.toNat (i_8 : Int) * szOf (some 3) + 1))) rfl rfl ?_
                    refine E_gh rfl ?_
                    refine E_ldR (n := Int.toNat (i_8 : Int)) (fo := 1) (v' := (.int .i64 y_14.Arg)) Instr.enc rfl rfl (congrArg (· + 1) (Nat.zero_add _)) (getI_some hy_14).2.2 rfl (.refl _) ?_
                    refine E_gh rfl ?_
                    refine E_op0 (v' := (.bool (decide (y_14.Arg > 65533)))) rfl rfl ?_
                    refine E_pf rfl rfl ?_
                    refine E_nil ?_
                    exact E_jx _ h (wk_rn [some (0, 0), some (1, 0), some (2, 0)] rfl (Nat.le_of_ble_eq_true rfl) ⟨(rn_ob rfl rfl (rnl_fkiC Func.enc hK1 (fun _ => rfl) (rn_refE Instr.enc rfl rfl rfl rfl rfl)) rfl), (rn_ob rfl rfl (.refl (Instr.enc.blwf 0 _)) rfl), (rn_ob rfl rfl (.cons (rn_refKi Func.enc rfl rfl rfl (by simp) rfl) (.nil (Nat.zero_le _))) rfl), trivial⟩ ⟨(rn_b (cp_blw (Program.enc.blw _ 0))), (rn_ptr rfl rfl rfl rfl), (rn_ptr rfl rfl rfl (Nat.zero_add _).symm), (rn_b rfl), (rn_b rfl), (rn_b rfl), (rn_b rfl), trivial⟩)
                  · rw [ite_t hb] at h
                    refine E_gm rfl ?_
                    refine E_gm rfl ?_
                    refine E_gm rfl ?_
                    refine E_gm rfl ?_
                    refine E_gm rfl ?_
                    refine E_gm rfl ?_
                    refine E_gm rfl ?_
                    refine E_gm rfl ?_
                    refine E_pt rfl rfl ?_
                    refine E_nil ?_
                    exact E_jx _ h (wk_rn [some (0, 0), some (1, 0), some (2, 0)] rfl (Nat.le_of_ble_eq_true rfl) ⟨(rn_ob rfl rfl (rnl_fkiC Func.enc hK1 (fun _ => rfl) (rn_refE Instr.enc rfl rfl rfl rfl rfl)) rfl), (rn_ob rfl rfl (.refl (Instr.enc.blwf 0 _)) rfl), (rn_ob rfl rfl (.cons (rn_refKi Func.enc rfl rfl rfl (by simp) rfl) (.nil (Nat.zero_le _))) rfl), trivial⟩ ⟨(rn_b (cp_blw (Program.enc.blw _ 0))), (rn_ptr rfl rfl rfl rfl), (rn_ptr rfl rfl rfl (Nat.zero_add _).symm), (rn_b rfl), (rn_b rfl), (rn_b rfl), (rn_b rfl), trivial⟩)
                · refine E_sq ?_
                  refine E_cs (t := s_13) rfl (fun hb => ?_) (fun hb => ?_)
                  · rw [ite_t hb] at h
                    refine E_sq ?_
                    refine E_reg ?_
                    refine E_mv (v' := (.bool true)) rfl ?_
                    refine E_nil ?_
                    refine E_nx ?_
                    refine E_ret ?_
                    refine E_thr ?_
                    cases h
                    refine L_rrO rfl (fun h => ?_)
                    refine E_thr ?_
                    cases h
                    exact ⟨trivial, _, rfl, (fz_b rfl (.refl _))⟩
                  · rw [ite_f hb] at h
                    refine E_skip ?_
                    refine E_nx ?_
                    obtain ⟨y_17, hy_17, h⟩ := bd_some h
                    refine E_reg ?_
                    refine E_mv (v' := (.ptr 0 1 (0 + K * szOf (some 5)))) rfl ?_
                    refine E_op0 (v' := (.ptr 0 1 (0 + K * szOf (some 5)))) rfl rfl ?_
                    refine E_op0 (v' := (.ptr 0 1 (0 + K * szOf (some 5) + 4))) rfl rfl ?_
                    refine E_ldV rfl rfl (fki_part Func.enc (hset (yC y_4 s_7)) (by decide) (Nat.zero_add _ ▸ rfl)) ?_
                    refine E_mv (v' := (.int .i64 (i_8 : Int))) rfl ?_
                    refine E_iadR (n := (i_8 : Int)) rfl rfl ⟨(getI_some hy_17).1, (getI_some hy_17).2.1⟩ ?_
                    refine E_op0 (v' := (.ptr 1 1 (0 + Int.toNat (i_8 : Int) * szOf (some 3) + 1))) rfl rfl ?_
                    refine E_ldR (n := Int.toNat (i_8 : Int)) (fo := 1) (v' := (.int .i64 y_17.Arg)) Instr.enc rfl rfl (congrArg (· + 1) (Nat.zero_add _)) (getI_some hy_17).2.2 rfl (.refl _) ?_
                    refine E_op0 (v' := (.int .i64 (I64 (y_17.Arg + 2)))) rfl rfl ?_
                    refine E_iadR (n := (i_8 : Int)) rfl rfl ⟨(getI_some hy_17).1, (getI_some hy_17).2.1⟩ ?_
                    refine E_op0 (v' := (.ptr 1 1 (0 + Int.toNat (i_8 : Int) * szOf (some 3) + 1))) rfl rfl ?_
                    refine E_stR (n := Int.toNat (i_8 : Int)) (fo := 1) (y := y_17) (y' := (⟨y_17.Op, I64 (y_17.Arg + 2), y_17.Imm⟩ : Instr)) (S' := [.arr 1 (fki Func.av 4 rK1 K (cop_2.Funcs.set K (yC y_4 s_7))), .arr 1 (flat Instr.av (s_7.set (Int.toNat (i_8 : Int)) (⟨y_17.Op, I64 (y_17.Arg + 2), y_17.Imm⟩ : Instr))), .arr 0 [(.ref 0 1 0 (List.length cop_2.Funcs) (some 5))]]) Instr.enc rfl rfl rfl (congrArg (· + 1) (Nat.zero_add _)) (getI_some hy_17).2.2 rfl rfl (by decide) rfl rfl ?_
                    refine E_nil ?_
                    cases h
                    exact L_nn rfl (wk_rn [some (0, 0), some (1, 0), some (2, 0)] rfl (Nat.le_of_ble_eq_true rfl) ⟨(rn_ob rfl rfl (rnl_fkiC Func.enc hK1 (fun _ => rfl) (rn_refE Instr.enc rfl rfl rfl rfl (by simp [yC]))) rfl), (rn_ob rfl rfl (.refl (Instr.enc.blwf 0 _)) rfl), (rn_ob rfl rfl (.cons (rn_refKi Func.enc rfl rfl rfl (by simp) rfl) (.nil (Nat.zero_le _))) rfl), trivial⟩ ⟨(rn_b rfl), (rn_b rfl), (rn_b (cp_blw (Program.enc.blw _ 0))), (rn_ptr rfl rfl rfl rfl), (rn_ptr rfl rfl rfl (Nat.zero_add _).symm), trivial⟩)
              · rw [ite_f hb] at h
                refine E_skip ?_
                cases h
                exact L_nn rfl (wk_rn [some (0, 0), some (1, 0), some (2, 0)] rfl (Nat.le_of_ble_eq_true rfl) ⟨(rn_ob rfl rfl (rnl_fkiC Func.enc hK1 (fun _ => rfl) (rn_refE Instr.enc rfl rfl rfl rfl rfl)) rfl), (rn_ob rfl rfl (.refl (Instr.enc.blwf 0 _)) rfl), (rn_ob rfl rfl (.cons (rn_refKi Func.enc rfl rfl rfl (by simp) rfl) (.nil (Nat.zero_le _))) rfl), trivial⟩ ⟨(rn_b rfl), (rn_b rfl), (rn_b (cp_blw (Program.enc.blw _ 0))), (rn_ptr rfl rfl rfl rfl), (rn_ptr rfl rfl rfl (Nat.zero_add _).symm), trivial⟩)
          · refine X_nx hw ?_
            refine E_sq ?_
            obtain ⟨l_18, hl_18, h⟩ := bd_some h
            refine E_reg ?_
            refine E_mv (v' := (.ptr 0 1 (0 + K * szOf (some 5)))) rfl ?_
            refine E_opw (v' := (Instr.av ⟨1, 0, 0⟩)) rfl (.refl _) rfl ?_
            refine E_opw (v' := (Instr.av ⟨31, 0, 0⟩)) rfl (.refl _) rfl ?_
            refine E_op (v' := (.ref 3 0 0 2 (some 3))) (S' := [.arr 1 (fki Func.av 4 rK1 K (cop_2.Funcs.set K (yC y_4 s_7))), .arr 1 (flat Instr.av s_7), .arr 0 [(.ref 0 1 0 (List.length cop_2.Funcs) (some 5))], .arr 0 (flat Instr.av [⟨1, 0, 0⟩, ⟨31, 0, 0⟩])]) rfl rfl rfl ?_
            refine E_mv (v' := (.ptr 0 1 (0 + K * szOf (some 5)))) rfl ?_
            refine E_op0 (v' := (.ptr 0 1 (0 + K * szOf (some 5)))) rfl rfl ?_
            refine E_op0 (v' := (.ptr 0 1 (0 + K * szOf (some 5) + 4))) rfl rfl ?_
            refine E_ldV rfl rfl (fki_part Func.enc (hset (yC y_4 s_7)) (by decide) (Nat.zero_add _ ▸ rfl)) ?_
            refine E_apL (l := [⟨1, 0, 0⟩, ⟨31, 0, 0⟩]) (m := s_7) (S' := [.arr 1 (fki Func.av 4 rK1 K (cop_2.Funcs.set K (yC y_4 s_7))), .arr 1 (flat Instr.av s_7), .arr 0 [(.ref 0 1 0 (List.length cop_2.Funcs) (some 5))], .arr 1 (flat Instr.av l_18)]) Instr.enc rfl (src_ref Instr.enc rfl) rfl hl_18 rfl ?_
            refine E_op0 (v' := (.ptr 0 1 (0 + K * szOf (some 5)))) rfl rfl ?_
            refine E_op0 (v' := (.ptr 0 1 (0 + K * szOf (some 5) + 4))) rfl rfl ?_
            refine E_stV (S' := [.arr 1 (flat Func.av ((cop_2.Funcs.set K (yC y_4 s_7)).take K) ++ ((Func.av (yC y_4 s_7)).cells.set 4 (.ref 3 1 0 (List.length l_18) (some 3)) ++ flat Func.av ((cop_2.Funcs.set K (yC y_4 s_7)).drop (K + 1)))), .arr 1 (flat Instr.av s_7), .arr 0 [(.ref 0 1 0 (List.length cop_2.Funcs) (some 5))], .arr 1 (flat Instr.av l_18)]) rfl rfl rfl rfl rfl (by rw [fki_len Func.enc]; rw [List.length_set]; show 0 + K * 5 + 4 + 1 ≤ cop_2.Funcs.length * 5; omega) (congrArg (fun q => ([.arr 1 q, .arr 1 (flat Instr.av s_7), .arr 0 [(.ref 0 1 0 (List.length cop_2.Funcs) (some 5))], .arr 1 (flat Instr.av l_18)] : List Ob)) (fki_splice Func.enc (hset (yC y_4 s_7)) (by decide) (Nat.zero_add _ ▸ rfl))) ?_
            refine E_nil ?_
            refine E_nxw (F := [(2, (.cptr (Program.av p_00).cells 0)), (5, (.ptr 0 0 0))]) (T := [.arr 0 [(.sl false 5 (List.map Func.av (cop_2.Funcs.set K (yC y_4 l_18))))]]) (wk_trans (fr'' := [(2, (.cptr (Program.av p_00).cells 0)), (5, (.ptr 0 0 0))]) (S'' := [.arr 0 [(.sl false 5 (List.map Func.av (cop_2.Funcs.set K (yC y_4 l_18))))]]) (wk_rn (fr' := [(2, (.cptr (Program.av p_00).cells 0)), (5, (.ptr 0 0 0))]) (S' := [.arr 0 [(.ref 1 1 0 (List.length (cop_2.Funcs.set K (yC y_4 l_18))) (some 5))], .arr 1 (fki Func.av 4 rK2 K (cop_2.Funcs.set K (yC y_4 l_18))), .arr 1 (flat Instr.av l_18)]) [some (2, 0), some (0, 0), some (3, 0)] rfl (Nat.le_of_ble_eq_true rfl) ⟨(rn_ob rfl rfl (.cons (rn_refKi Func.enc rfl rfl rfl rfl (by simp)) (.nil (Nat.zero_le _))) rfl), (rn_ob rfl rfl (rnl_setC (hset (yC y_4 s_7)) rfl (fun _ => rfl) (rn_refE Instr.enc rfl rfl rfl rfl rfl)) rfl), (rn_ob rfl rfl (.refl (Instr.enc.blwf 0 _)) rfl), trivial⟩ ⟨(rn_b (cp_blw (Program.enc.blw _ 0))), (rn_ptr rfl rfl rfl rfl), trivial⟩) (wk_trans (fr'' := [(2, (.cptr (Program.av p_00).cells 0)), (5, (.ptr 0 0 0))]) (S'' := [.arr 0 [(.sl false 5 (List.map Func.av (cop_2.Funcs.set K (yC y_4 l_18))))]]) (wk_fz (fr' := [(2, (.cptr (Program.av p_00).cells 0)), (5, (.ptr 0 0 0))]) (S' := [.arr 0 [(.ref 1 1 0 (List.length (cop_2.Funcs.set K (yC y_4 l_18))) (some 5))], .arr 1 (flat Func.av (cop_2.Funcs.set K (yC y_4 l_18)))]) 2 6 rfl ⟨⟨rfl, fzL_id rfl⟩, ⟨rfl, fzL_fki Func.enc (fun x hx v hv => by rw [hset] at hx; cases hx; cases hv; exact fz_ref Instr.enc (Nat.le_of_ble_eq_true rfl) rfl)⟩, trivial⟩ ⟨(fz_b (cp_blw (Program.enc.blw _ 2)) (.refl _)), (fz_b rfl (.refl _)), trivial⟩) (wk_fz 1 6 rfl ⟨⟨rfl, (fz_ref Func.enc (Nat.le_of_ble_eq_true rfl) rfl), trivial⟩, trivial⟩ ⟨(fz_b (cp_blw (Program.enc.blw _ 1)) (.refl _)), (fz_b rfl (.refl _)), trivial⟩))) ?_
            refine E_sq ?_
            refine E_reg ?_
            refine E_op0 (v' := (Program.av p_00)) rfl rfl ?_
            obtain ⟨che_15, hche_15, h⟩ := bd_some h
            refine E_callW (kinds_Check_ev (fuel := fuel)  hche_15) rfl ⟨(.refl _), trivial⟩ (blwL_of ⟨(Program.enc.blw _ 0), trivial⟩) (tup_blw ⟨((encP Types.enc).blw _ 0), rfl, trivial⟩) ?_
            refine E_mv (v' := (.tup [(avP Types.av che_15.1), (.int .i64 che_15.2)])) rfl ?_
            refine E_op0 (v' := (avP Types.av che_15.1)) rfl rfl ?_
            refine E_op0 (v' := (.int .i64 che_15.2)) rfl rfl ?_
            refine E_mv (v' := (avP Types.av che_15.1)) rfl ?_
            refine E_mv (v' := (.int .i64 che_15.2)) rfl ?_
            refine E_nil ?_
            refine E_nx ?_
            refine E_sq ?_
            refine E_reg ?_
            refine E_opw (v' := (Program.av (Program.mk (cop_2.Funcs.set K (yC y_4 l_18))))) rfl (.aggL ⟨(.refl _), trivial⟩) rfl ?_
            obtain ⟨che_16, hche_16, h⟩ := bd_some h
            refine E_callW (kinds_Check_ev (fuel := fuel)  hche_16) rfl ⟨(.refl _), trivial⟩ (blwL_of ⟨(Program.enc.blw _ 0), trivial⟩) (tup_blw ⟨((encP Types.enc).blw _ 0), rfl, trivial⟩) ?_
            refine E_mv (v' := (.tup [(avP Types.av che_16.1), (.int .i64 che_16.2)])) rfl ?_
            refine E_op0 (v' := (avP Types.av che_16.1)) rfl rfl ?_
            refine E_op0 (v' := (.int .i64 che_16.2)) rfl rfl ?_
            refine E_mv (v' := (avP Types.av che_16.1)) rfl ?_
            refine E_mv (v' := (.int .i64 che_16.2)) rfl ?_
            refine E_nil ?_
            refine E_nx ?_
            refine E_sq ?_
            refine E_reg ?_
            refine E_mv (v' := (.int .i64 che_15.2)) rfl ?_
            refine E_mv (v' := (.int .i64 che_16.2)) rfl ?_
            refine E_op0 (v' := (.bool (che_15.2 == che_16.2))) rfl rfl ?_
            refine E_mv (v' := (.bool (che_15.2 == che_16.2))) rfl ?_
            refine E_nil ?_
            refine E_nx ?_
            refine E_ret ?_
            cases h
            exact ⟨trivial, _, rfl, (fz_b rfl (.refl _))⟩
end Go.Proofs.Ytiocagilhbomgaa
/- How arguments are read. -/
namespace Go.Proofs.Ytiocagilhbomgaa
open Go Go.Ab Go.RowKit
set_option maxRecDepth 20000
set_option linter.unusedVariables false
set_option linter.unusedSimpArgs false
theorem part_le {H : Type} {d : DataW H} {l : List (DataW H)} (h : d ∈ l) : Rows.uptoBulk d ≤ Rows.uptoBulkAll l := by
  induction l with
  | nil => cases h
  | cons x r ih =>
    simp only [Rows.uptoBulkAll]
    rcases List.mem_cons.1 h with e | e
    · subst e; omega
    · have := ih e; omega
theorem one_le {H : Type} (d : DataW H) : 1 ≤ Rows.uptoBulk d := by
  cases d with
  | lit l => cases l <;> simp [Rows.uptoBulk]
  | _ => simp [Rows.uptoBulk]
theorem length_le {H : Type} (l : List (DataW H)) : l.length ≤ Rows.uptoBulkAll l := by
  induction l with
  | nil => simp [Rows.uptoBulkAll]
  | cons x r ih => have := one_le x; simp only [Rows.uptoBulkAll, List.length_cons]; omega
theorem bulk {H : Type} : Bulk (H := H) Rows.uptoBulk :=
  ⟨fun bytes => by simp [Rows.uptoBulk], fun e s => by have := length_le e; simp only [Rows.uptoBulk]; omega, fun e s d h => by have := part_le h; simp only [Rows.uptoBulk]; omega, fun p d h => by have := part_le h; simp only [Rows.uptoBulk]; omega⟩

theorem cells57 : Try.prog.cellsOf 57 = 1 := by kernel_rfl
theorem cells48 : Try.prog.cellsOf 48 = 1 := by kernel_rfl
theorem cells3 : Try.prog.cellsOf 3 = 1 := by kernel_rfl
theorem cells49 : Try.prog.cellsOf 49 = 1 := by kernel_rfl
theorem cells51 : Try.prog.cellsOf 51 = 3 := by kernel_rfl
def Instr.Ok (N : Nat) (x : Instr) : Prop := (fun n => (Lit.int .u8 n).wf = true) x.Op ∧ (fun n => (Lit.int .i64 n).wf = true) x.Arg ∧ (fun n => (Lit.int .u64 n).wf = true) x.Imm
theorem Instr.rd {N : Nat} : Rd Try.prog N Instr.av (Instr.Ok N) 51 := by
  intro avs ht
  obtain ⟨hl, hf⟩ := ty_struct Try.underlying51 ht
  have e0 : Ty Try.prog N 48 ((avs.drop 0).take (Try.prog.cellsOf 48)) := hf 0 _ rfl
  rw [cells48] at e0
  obtain ⟨a0, h0, q0⟩ := (rdI Try.underlying48) _ e0
  have e1 : Ty Try.prog N 3 ((avs.drop 1).take (Try.prog.cellsOf 3)) := hf 1 _ rfl
  rw [cells3] at e1
  obtain ⟨a1, h1, q1⟩ := (rdI Try.underlying3) _ e1
  have e2 : Ty Try.prog N 49 ((avs.drop 2).take (Try.prog.cellsOf 49)) := hf 2 _ rfl
  rw [cells49] at e2
  obtain ⟨a2, h2, q2⟩ := (rdI Try.underlying49) _ e2
  refine ⟨⟨a0, a1, a2⟩, ?_, ⟨q0, q1, q2⟩⟩
  have := (st_cons h0 (st_cons h1 (st_cons h2 (st_nil (hl.trans cells51)))))
  exact this
theorem cells43 : Try.prog.cellsOf 43 = 1 := by kernel_rfl
theorem cells4 : Try.prog.cellsOf 4 = 1 := by kernel_rfl
theorem cells45 : Try.prog.cellsOf 45 = 1 := by kernel_rfl
theorem cells47 : Try.prog.cellsOf 47 = 5 := by kernel_rfl
def Func.Ok (N : Nat) (x : Func) : Prop := (fun n => (Lit.int .i64 n).wf = true) x.Params ∧ (fun l => List.length l ≤ N ∧ ∀ a ∈ l, (fun n => (Lit.int .u8 n).wf = true) a) x.Locals ∧ (fun _ => True) x.Result ∧ (fun n => (Lit.int .i64 n).wf = true) x.Keep ∧ (fun l => List.length l ≤ N ∧ ∀ a ∈ l, (Instr.Ok N) a) x.Code
theorem Func.rd {N : Nat} : Rd Try.prog N Func.av (Func.Ok N) 47 := by
  intro avs ht
  obtain ⟨hl, hf⟩ := ty_struct Try.underlying47 ht
  have e0 : Ty Try.prog N 3 ((avs.drop 0).take (Try.prog.cellsOf 3)) := hf 0 _ rfl
  rw [cells3] at e0
  obtain ⟨a0, h0, q0⟩ := (rdI Try.underlying3) _ e0
  have e1 : Ty Try.prog N 43 ((avs.drop 1).take (Try.prog.cellsOf 43)) := hf 1 _ rfl
  rw [cells43] at e1
  obtain ⟨a1, h1, q1⟩ := (rdL (encI .u8) (fun fs h => by rw [Try.underlying57] at h; cases h) Try.underlying43 cells57 (rdI Try.underlying57)) _ e1
  have e2 : Ty Try.prog N 4 ((avs.drop 2).take (Try.prog.cellsOf 4)) := hf 2 _ rfl
  rw [cells4] at e2
  obtain ⟨a2, h2, q2⟩ := (rdB Try.underlying4) _ e2
  have e3 : Ty Try.prog N 3 ((avs.drop 3).take (Try.prog.cellsOf 3)) := hf 3 _ rfl
  rw [cells3] at e3
  obtain ⟨a3, h3, q3⟩ := (rdI Try.underlying3) _ e3
  have e4 : Ty Try.prog N 45 ((avs.drop 4).take (Try.prog.cellsOf 45)) := hf 4 _ rfl
  rw [cells45] at e4
  obtain ⟨a4, h4, q4⟩ := (rdL Instr.enc ⟨_, Try.underlying51⟩ Try.underlying45 cells51 Instr.rd) _ e4
  refine ⟨⟨a0, a1, a2, a3, a4⟩, ?_, ⟨q0, q1, q2, q3, q4⟩⟩
  have := (st_cons h0 (st_cons h1 (st_cons h2 (st_cons h3 (st_cons h4 (st_nil (hl.trans cells47)))))))
  exact this
theorem cells22 : Try.prog.cellsOf 22 = 1 := by kernel_rfl
theorem cells24 : Try.prog.cellsOf 24 = 1 := by kernel_rfl
def Program.Ok (N : Nat) (x : Program) : Prop := (fun l => List.length l ≤ N ∧ ∀ a ∈ l, (Func.Ok N) a) x.Funcs
theorem Program.rd {N : Nat} : Rd Try.prog N Program.av (Program.Ok N) 24 := by
  intro avs ht
  obtain ⟨hl, hf⟩ := ty_struct Try.underlying24 ht
  have e0 : Ty Try.prog N 22 ((avs.drop 0).take (Try.prog.cellsOf 22)) := hf 0 _ rfl
  rw [cells22] at e0
  obtain ⟨a0, h0, q0⟩ := (rdL Func.enc ⟨_, Try.underlying47⟩ Try.underlying22 cells47 Func.rd) _ e0
  refine ⟨⟨a0⟩, ?_, q0⟩
  have := (st_cons h0 (st_nil (hl.trans cells24)))
  exact this

theorem own : ownKnob Try.prog.godebug = none := by kernel_rfl
theorem laidOut : laidOutB Try.prog = true := by kernel_rfl
end Go.Proofs.Ytiocagilhbomgaa
/- Plain laws of kinds: loops; which programs have bytes. -/
namespace Go.Proofs.Ytiocagilhbomgaa
open Go Go.Ab Go.RowKit
set_option maxRecDepth 20000
set_option linter.unusedVariables false
set_option linter.unusedSimpArgs false

theorem rangeL_inv {α σ ρ : Type} {body : Nat → α → σ → Option (Stp σ ρ)} (ok : α → Bool) (v : ρ) (Inv : Nat → σ → Prop) : ∀ (xs : List α) (k : Nat) (s : σ), Inv k s →
    (∀ i x s, xs[i]? = some x → Inv (k + i) s → if ok x = true then ∃ s', body (k + i) x s = some (.nxt s') ∧ Inv (k + i + 1) s' else body (k + i) x s = some (.ret v)) →
    if xs.all ok = true then ∃ s', rangeL body xs k s = some (.fin s') ∧ Inv (k + xs.length) s' else rangeL body xs k s = some (.ret v)
  | [], k, s, hi, h => by simp only [List.all_nil, if_true, rangeL]; exact ⟨s, rfl, by simpa using hi⟩
  | x :: r, k, s, hi, h => by
    have h0 := h 0 x s rfl hi
    cases hx : ok x with
    | false =>
      rw [hx] at h0
      simp only [Nat.add_zero, Bool.false_eq_true, if_false] at h0
      simp only [List.all_cons, hx, Bool.false_and, Bool.false_eq_true, if_false, rangeL, h0]
    | true =>
      rw [hx] at h0
      simp only [Nat.add_zero, if_true] at h0
      obtain ⟨s', e1, e2⟩ := h0
      have := rangeL_inv ok v Inv r (k + 1) s' e2 (fun i y s hy hs => by
        have := h (i + 1) y s (by simpa using hy) (by rwa [show k + (i + 1) = k + 1 + i by omega])
        rwa [show k + (i + 1) = k + 1 + i by omega] at this)
      simp only [List.all_cons, hx, Bool.true_and, rangeL, e1, List.length_cons]
      rw [show k + (r.length + 1) = k + 1 + r.length by omega]
      exact this
theorem rng_inv {α σ ρ : Type} {body : Nat → α → σ → Option (Stp σ ρ)} {xs : List α} {s0 : σ} (ok : α → Bool) (v : ρ) (Inv : Nat → σ → Prop) (hl : xs.length ≤ 4611686018427387904) (h0 : Inv 0 s0)
    (h : ∀ i x s, xs[i]? = some x → Inv i s → if ok x = true then ∃ s', body i x s = some (.nxt s') ∧ Inv (i + 1) s' else body i x s = some (.ret v)) :
    if xs.all ok = true then ∃ s', rng body xs s0 = some (.fin s') ∧ Inv xs.length s' else rng body xs s0 = some (.ret v) := by
  unfold rng
  rw [if_pos hl]
  have := rangeL_inv ok v Inv xs 0 s0 h0 (fun i x s hx hs => by simpa using h i x s hx (by simpa using hs))
  simpa using this
theorem rangeN_inv {σ ρ : Type} {body : Nat → σ → Option (Stp σ ρ)} (Inv : Nat → σ → Prop) : ∀ (n k : Nat) (s : σ), Inv k s →
    (∀ i s, k ≤ i → i < k + n → Inv i s → ∃ s', body i s = some (.nxt s') ∧ Inv (i + 1) s') → ∃ s', rangeN body n k s = some (.fin s') ∧ Inv (k + n) s'
  | 0, k, s, hi, h => ⟨s, rfl, hi⟩
  | n + 1, k, s, hi, h => by
    obtain ⟨s', e1, e2⟩ := h k s (by omega) (by omega) hi
    obtain ⟨s2, e3, e4⟩ := rangeN_inv Inv n (k + 1) s' e2 (fun i s a b c => h i s (by omega) (by omega) c)
    exact ⟨s2, by simp only [rangeN, e1, e3], by rwa [show k + (n + 1) = k + 1 + n by omega]⟩
theorem rni_inv {σ ρ : Type} {body : Nat → σ → Option (Stp σ ρ)} {n : Int} {s0 : σ} (Inv : Nat → σ → Prop) (hn : n ≤ 4611686018427387904) (h0 : Inv 0 s0)
    (h : ∀ (i : Nat) s, (i : Int) < n → Inv i s → ∃ s', body i s = some (.nxt s') ∧ Inv (i + 1) s') : ∃ s', rni body n s0 = some (.fin s') ∧ Inv n.toNat s' := by
  unfold rni
  rw [if_pos hn]
  obtain ⟨s', a, b⟩ := rangeN_inv (body := body) Inv n.toNat 0 s0 h0 (fun i s _ hi hs => h i s (by omega) hs)
  exact ⟨s', a, by simpa using b⟩
theorem appL_of {α : Type} {b : Nat} {l m : List α} (h : (l.length + m.length) * b ≤ 140737488355328 ∧ l.length + m.length ≤ 140737488355328) : appL b l m = some (l ++ m) := if_pos h
theorem appL1 {l m : List Int} (h : l.length + m.length ≤ 140737488355328) : appL 1 l m = some (l ++ m) := appL_of (by omega)

/-! ### bytes -/
def widthI (op : Int) : Int := if op = 1 then 8 else if op = 2 ∨ op = 3 ∨ op = 4 ∨ op = 23 ∨ op = 25 then 1 else if op = 21 ∨ op = 22 then 2 else if op < 1 ∨ op > 32 then -1 else 0
theorem width_eq (op : Int) : code_width_s op = some (widthI op) := by
  unfold code_width_s widthI
  simp only [jp, beq_iff_eq, decide_eq_true_eq]
  by_cases h1 : op = 1
  · simp [h1]
  by_cases h2 : op = 2
  · simp [h2]
  by_cases h3 : op = 3
  · simp [h3]
  by_cases h4 : op = 4
  · simp [h4]
  by_cases h5 : op = 23
  · simp [h5]
  by_cases h6 : op = 25
  · simp [h6]
  by_cases h7 : op = 21
  · simp [h7]
  by_cases h8 : op = 22
  · simp [h8]
  by_cases h9 : op < 1
  · simp [h1, h2, h3, h4, h5, h6, h7, h8, h9]
  by_cases h10 : op > 32 <;> simp [h1, h2, h3, h4, h5, h6, h7, h8, h9, h10]
theorem width_cases (op : Int) : widthI op = -1 ∨ widthI op = 0 ∨ widthI op = 1 ∨ widthI op = 2 ∨ widthI op = 8 := by
  unfold widthI
  split
  · simp
  · split
    · simp
    · split
      · simp
      · split <;> simp
/-- Which instructions have bytes. -/
def instrP (i : Instr) : Bool := decide (0 ≤ widthI i.Op) && (if widthI i.Op = 8 then decide (i.Arg = 0) else decide (i.Imm = 0 ∧ 0 ≤ i.Arg ∧ i.Arg < 256 ^ (widthI i.Op).toNat))

theorem put_len (b : List Int) (v n : Int) (hb : b.length ≤ 1000000000) (hn : 0 ≤ n ∧ n ≤ 8) : ∃ l, code_put_r_s b v n = some l ∧ l.length = b.length + n.toNat := by
  unfold code_put_r_s
  obtain ⟨s', e1, e2⟩ := rni_inv (σ := Int × List Int) (ρ := Option (List Int)) (n := n) (s0 := (v, b)) (body := fun (i_2 : Nat) (s_1 : (Int × (List Int))) => ((gd (0 ≤ (U64 (I64 (8 * (i_2 : Int))))) ((appL 1 s_1.2 [(U8 (shR .u64 s_1.1 (U64 (I64 (8 * (i_2 : Int))))))]).bind fun l_4 => (some (.nxt (s_1.1, l_4))))) : Option (Stp (Int × (List Int)) (Option (List Int)))))
    (fun i s => s.2.length = b.length + i) (by omega) (by simp) (fun i s hi hs => by
      have e : U64 (I64 (8 * (i : Int))) = 8 * i := by rw [I64_of (by omega), U64_of (by omega)]
      rw [e, gd_true (by omega), appL1 (by simp <;> omega)]
      exact ⟨_, rfl, by simp [hs]; omega⟩)
  rw [e1]
  exact ⟨s'.2, rfl, e2⟩

theorem instruction_eq (b : List Int) (i : Instr) (hb : b.length ≤ 900000000) : ∃ l, code_instruction_r_s b i = some (instrP i, l) ∧ l.length ≤ b.length + 9 := by
  unfold code_instruction_r_s
  rw [width_eq]
  simp only [Option.bind_some, jp]
  have hw := width_cases i.Op
  unfold instrP
  generalize widthI i.Op = w at hw ⊢
  by_cases h0 : w < 0
  · have : ¬ 0 ≤ w := by omega
    simp [h0, this]
  have h0' : 0 ≤ w := by omega
  have hd0 : decide (w < 0) = false := by simpa using h0'
  simp only [hd0, Bool.false_eq_true, if_false]
  by_cases h8 : w = 8
  · subst h8
    simp only [bne_self_eq_false, beq_self_eq_true, Bool.false_eq_true, if_false, if_true]
    rw [appL1 (by simp <;> omega)]
    simp only [Option.bind_some]
    obtain ⟨l, e1, e2⟩ := put_len (b ++ [i.Op]) i.Imm 8 (by simp <;> omega) (by omega)
    rw [e1]
    refine ⟨l, ?_, by rw [e2]; simp⟩
    simp
    by_cases ha : i.Arg = 0 <;> simp [ha]
  · have e8 : (w != 8) = true := by simpa using h8
    have e8' : (w == 8) = false := by simpa using h8
    rw [if_pos e8]
    by_cases hi : i.Imm = 0
    · have : (i.Imm != 0) = false := by simp [hi]
      rw [this]
      simp only [Bool.false_eq_true, if_false]
      rw [appL1 (by simp <;> omega)]
      simp only [Option.bind_some, e8', Bool.false_eq_true, if_false]
      obtain ⟨l, e1, e2⟩ := put_len (b ++ [i.Op]) (U64 i.Arg) w (by simp <;> omega) (by omega)
      rw [e1]
      simp only [Option.bind_some]
      by_cases ha : i.Arg ≥ 0
      · rw [if_pos (by simpa using ha), gd_true (by rw [I64_of (by omega), U64_of (by omega)]; omega)]
        refine ⟨l, ?_, by rw [e2]; simp; omega⟩
        have : shL .i64 1 (U64 (I64 (8 * w))) = 256 ^ w.toNat := by
          rw [I64_of (by omega), U64_of (by omega)]
          rcases hw with h | h | h | h | h <;> first | omega | (subst h; rfl)
        rw [this]
        simp [h0', h8, hi]
        by_cases hb2 : i.Arg < 256 ^ w.toNat <;> simp [hb2] <;> omega
      · rw [if_neg (by simpa using ha)]
        refine ⟨l, ?_, by rw [e2]; simp; omega⟩
        simp [h8]
        intro _ _ h; omega
    · have : (i.Imm != 0) = true := by simpa using hi
      rw [this]
      simp only [if_true]
      refine ⟨[], ?_, by simp⟩
      simp [h8, hi]

/-- Which functions have bytes. -/
def funcP (f : Func) : Bool := decide (0 ≤ f.Params ∧ f.Params ≤ f.Locals.length ∧ f.Locals.length ≤ 255 ∧ -1 ≤ f.Keep ∧ f.Keep ≤ 254 ∧ f.Code.length ≤ 65535) && (f.Locals.all (fun k => decide (k ≤ 1)) && f.Code.all instrP)
theorem function_eq (b : List Int) (f : Func) (hb : b.length ≤ 800000000) : ∃ l, code_function_r_s b f = some (funcP f, l) ∧ (funcP f = true → l.length ≤ b.length + 600000) := by
  unfold code_function_r_s
  simp only [jp]
  by_cases hc : 0 ≤ f.Params ∧ f.Params ≤ f.Locals.length ∧ f.Locals.length ≤ 255 ∧ -1 ≤ f.Keep ∧ f.Keep ≤ 254 ∧ f.Code.length ≤ 65535
  case neg =>
    have hf : funcP f = false := by unfold funcP; rw [decide_eq_false hc]; rfl
    refine ⟨[], ?_, by rw [hf]; simp⟩
    rw [hf]
    by_cases h1 : f.Params < 0
    · simp [h1]
    by_cases h2 : f.Params > f.Locals.length
    · simp [h1, h2]
    by_cases h3 : (f.Locals.length : Int) > 255
    · simp [h1, h2, h3]
    by_cases h4 : f.Keep < -1
    · simp [h1, h2, h3, h4]
    by_cases h5 : f.Keep > 254
    · simp [h1, h2, h3, h4, h5]
    by_cases h6 : (f.Code.length : Int) > 65535
    · simp [h1, h2, h3, h4, h5, h6]
    · omega
  obtain ⟨c1, c2, c3, c4, c5, c6⟩ := hc
  have n1 : ¬ f.Params < 0 := by omega
  have n2 : ¬ f.Params > f.Locals.length := by omega
  have n3 : ¬ (f.Locals.length : Int) > 255 := by omega
  have n4 : ¬ f.Keep < -1 := by omega
  have n5 : ¬ f.Keep > 254 := by omega
  have n6 : ¬ (f.Code.length : Int) > 65535 := by omega
  simp only [n1, n2, n3, n4, n5, n6, decide_false, Bool.false_eq_true, if_false]
  rw [appL1 (by simp <;> omega)]
  simp only [Option.bind_some]
  have hf : funcP f = (f.Locals.all (fun k => decide (k ≤ 1)) && f.Code.all instrP) := by
    unfold funcP; rw [decide_eq_true (by omega)]; rfl
  have L1 := rng_inv (σ := List Int) (ρ := Option (Bool × List Int)) (xs := f.Locals) (s0 := b ++ [U8 f.Params, U8 f.Locals.length]) (fun k => decide (k ≤ 1)) (some (false, []))
    (fun i s => s.length = b.length + 2 + i) (body := fun (i_5 : Nat) (k_6 : Int) (s_4 : (List Int)) => ((if (decide (k_6 > 1)) then (some (.ret (some (false, [])))) else ((appL 1 s_4 [k_6]).bind fun l_8 => (some (.nxt l_8)))) : Option (Stp (List Int) (Option (Bool × (List Int)))))) (by omega) (by simp) (fun i x s hx hs => by
      have hi := (List.getElem?_eq_some_iff.1 hx).1
      by_cases h : x ≤ 1
      · rw [if_pos (by simpa using h), if_neg (by simpa using h), appL1 (by simp <;> omega)]
        exact ⟨_, rfl, by simp <;> omega⟩
      · rw [if_neg (by simpa using h), if_pos (by simpa using h)])
  cases hl : f.Locals.all (fun k => decide (k ≤ 1)) with
  | false =>
    rw [hl] at L1
    simp only [Bool.false_eq_true, if_false] at L1
    rw [L1]
    exact ⟨[], by rw [hf, hl]; rfl, by rw [hf, hl]; simp⟩
  | true =>
    rw [hl] at L1
    simp only [if_true] at L1
    obtain ⟨s1, e1, e2⟩ := L1
    rw [e1]
    simp only [Option.bind_some, oc]
    have key : ∀ (r : Int), ∃ l, ((appL 1 s1 [r, (U8 f.Keep)]).bind fun l_11 => ((code_put_r_s l_11 (U64 (List.length f.Code : Int)) 2).bind fun (put_12 : (List Int)) => ((rng (fun (i_14 : Nat) (i_15 : Instr) (s_13 : (List Int)) => (((code_instruction_r_s s_13 i_15).bind fun (ins_17 : (Bool × (List Int))) => (if (!ins_17.1) then (some (.ret (some (false, [])))) else (some (.nxt ins_17.2)))) : Option (Stp (List Int) (Option (Bool × (List Int)))))) f.Code put_12).bind (oc (fun (s_13 : (List Int)) => (some (true, s_13))))))) = some (funcP f, l) ∧ (funcP f = true → l.length ≤ b.length + 600000) := by
      intro r
      rw [appL1 (by simp <;> omega)]
      simp only [Option.bind_some]
      obtain ⟨l2, e3, e4⟩ := put_len (s1 ++ [r, U8 f.Keep]) (U64 f.Code.length) 2 (by simp <;> omega) (by omega)
      rw [e3]
      simp only [Option.bind_some]
      have L2 := rng_inv (σ := List Int) (ρ := Option (Bool × List Int)) (xs := f.Code) (s0 := l2) instrP (some (false, [])) (fun i s => s.length ≤ b.length + 300 + 9 * i)
        (body := fun (i_14 : Nat) (i_15 : Instr) (s_13 : (List Int)) => (((code_instruction_r_s s_13 i_15).bind fun (ins_17 : (Bool × (List Int))) => (if (!ins_17.1) then (some (.ret (some (false, [])))) else (some (.nxt ins_17.2)))) : Option (Stp (List Int) (Option (Bool × (List Int)))))) (by omega) (by rw [e4]; simp; omega) (fun i x s hx hs => by
          have hi := (List.getElem?_eq_some_iff.1 hx).1
          obtain ⟨l, a, c⟩ := instruction_eq s x (by omega)
          rw [a]
          cases instrP x with
          | false => rfl
          | true => exact ⟨l, rfl, by omega⟩)
      cases hc : f.Code.all instrP with
      | false =>
        rw [hc] at L2
        simp only [Bool.false_eq_true, if_false] at L2
        rw [L2]
        exact ⟨[], by rw [hf, hl, hc]; rfl, by rw [hf, hl, hc]; simp⟩
      | true =>
        rw [hc] at L2
        simp only [if_true] at L2
        obtain ⟨s3, a, c⟩ := L2
        rw [a]
        exact ⟨s3, by rw [hf, hl, hc]; rfl, fun _ => by omega⟩
    cases f.Result with
    | false => exact key 0
    | true => exact key 1

theorem big_aux {a s i C : Nat} (h : a ≤ s + C) (k : s ≤ 3 + C * i) : a ≤ 3 + C * (i + 1) := by
  rw [Nat.mul_add, Nat.mul_one]
  generalize C * i = q at k ⊢
  omega
/-- Which programs have bytes. -/
def encP (p : Program) : Bool := decide (1 ≤ p.Funcs.length ∧ p.Funcs.length ≤ 255) && p.Funcs.all funcP
theorem Encode_eq (p : Program) : ∃ l, code_Encode_s p = some (l, if encP p = true then 0 else 30) := by
  unfold code_Encode_s
  simp only [jp]
  by_cases hc : 1 ≤ p.Funcs.length ∧ p.Funcs.length ≤ 255
  case neg =>
    have : encP p = false := by unfold encP; rw [decide_eq_false hc]; rfl
    rw [this]
    refine ⟨[], ?_⟩
    by_cases h1 : p.Funcs.length = 0
    · simp [h1]
    · have h2 : (p.Funcs.length : Int) > 255 := by omega
      have h1' : ((p.Funcs.length : Int) == 0) = false := by simpa using h1
      simp [h1', h2]
  have h1' : ((p.Funcs.length : Int) == 0) = false := by simp; intro h; simp [h] at hc
  have h2 : ¬ (p.Funcs.length : Int) > 255 := by omega
  simp only [h1', h2, decide_false, Bool.false_eq_true, if_false]
  have L := rng_inv (σ := List Int) (ρ := Option (List Int × Int)) (xs := p.Funcs) (s0 := [87, 76, U8 p.Funcs.length]) funcP (some ([], 30)) (fun i s => s.length ≤ 3 + 600000 * i)
    (body := fun (i_4 : Nat) (f_5 : Func) (s_3 : (List Int)) => (((code_function_r_s s_3 f_5).bind fun (vfun_7 : (Bool × (List Int))) => (if (!vfun_7.1) then (some (.ret (some ([], 30)))) else (some (.nxt vfun_7.2)))) : Option (Stp (List Int) (Option ((List Int) × Int))))) (by omega) (by simp) (fun i x s hx hs => by
      have hi := (List.getElem?_eq_some_iff.1 hx).1
      obtain ⟨l, a, c⟩ := function_eq s x (by omega)
      rw [a]
      cases e : funcP x with
      | false => rfl
      | true => exact ⟨l, rfl, big_aux (c e) hs⟩)
  have he : encP p = p.Funcs.all funcP := by unfold encP; rw [decide_eq_true hc]; rfl
  rw [he]
  cases e : p.Funcs.all funcP with
  | false =>
    rw [e] at L
    simp only [Bool.false_eq_true, if_false] at L
    rw [L]
    exact ⟨[], rfl⟩
  | true =>
    rw [e] at L
    simp only [if_true] at L
    obtain ⟨s, a, _⟩ := L
    rw [a]
    exact ⟨s, rfl⟩
/-- Within the bounds. -/
def boundF (f : Func) : Bool := decide (f.Params ≤ 4 ∧ f.Locals.length ≤ 16 ∧ f.Code.length ≤ 256)
def boundP (p : Program) : Bool := p.Funcs.all boundF && decide (p.Funcs.length ≤ 16)
theorem Bounded_eq (p : Program) (hp : p.Funcs.length ≤ 1048576) : code_Bounded_s p = some (boundP p) := by
  unfold code_Bounded_s boundP
  simp only [jp]
  have L := rng_inv (σ := Unit) (ρ := Option Bool) (xs := p.Funcs) (s0 := ()) boundF (some false) (fun _ _ => True)
    (body := fun (i_2 : Nat) (f_3 : Func) (s_1 : Unit) => ((if (decide (f_3.Params > 4)) then (if true = true then (some (.ret (some false))) else (some (.nxt ()))) else (if (decide ((List.length f_3.Locals : Int) > 16)) then (if true = true then (some (.ret (some false))) else (some (.nxt ()))) else (if decide ((List.length f_3.Code : Int) > 256) = true then (some (.ret (some false))) else (some (.nxt ()))))) : Option (Stp Unit (Option Bool)))) (by omega) trivial (fun i x s hx _ => by
      unfold boundF
      by_cases h1 : x.Params > 4
      · have : ¬ (x.Params ≤ 4 ∧ x.Locals.length ≤ 16 ∧ x.Code.length ≤ 256) := by omega
        simp [h1, this]
      by_cases h2 : (x.Locals.length : Int) > 16
      · have : ¬ (x.Params ≤ 4 ∧ x.Locals.length ≤ 16 ∧ x.Code.length ≤ 256) := by omega
        simp [h1, h2, this]
      by_cases h3 : (x.Code.length : Int) > 256
      · have : ¬ (x.Params ≤ 4 ∧ x.Locals.length ≤ 16 ∧ x.Code.length ≤ 256) := by omega
        simp [h1, h2, h3, this]
      · have : (x.Params ≤ 4 ∧ x.Locals.length ≤ 16 ∧ x.Code.length ≤ 256) := by omega
        simp [h1, h2, h3, this])
  cases e : p.Funcs.all boundF with
  | false =>
    rw [e] at L
    simp only [Bool.false_eq_true, if_false] at L
    simp only [if_true] at L ⊢
    rw [L]; rfl
  | true =>
    rw [e] at L
    simp only [if_true] at L ⊢
    obtain ⟨s, a, _⟩ := L
    rw [a]
    simp [oc]
    omega
end Go.Proofs.Ytiocagilhbomgaa
/- Plain laws of kinds: what instructions name, take, leave; what follows them. -/
namespace Go.Proofs.Ytiocagilhbomgaa
open Go Go.Ab Go.RowKit
set_option maxRecDepth 20000
set_option linter.unusedVariables false
set_option linter.unusedSimpArgs false

/-! ### loops that may end in more than one way -/
theorem whileN_ex {σ ρ : Type} {body : σ → Option (Stp σ ρ)} (Inv : σ → Prop) (μ : σ → Nat) (Q : Out σ ρ → Prop)
    (h : ∀ s, Inv s → (∃ s', body s = some (.nxt s') ∧ Inv s' ∧ μ s' < μ s) ∨ (∃ s', body s = some (.brk s') ∧ Q (.fin s')) ∨ (∃ v, body s = some (.ret v) ∧ Q (.ret v))) :
    ∀ (n : Nat) (s : σ), Inv s → μ s < n → ∃ o, whileN body n s = some o ∧ Q o
  | 0, s, _, hn => by omega
  | n + 1, s, hi, hn => by
    rcases h s hi with ⟨s', h1, h2, h3⟩ | ⟨s', h1, h2⟩ | ⟨v, h1, h2⟩
    · rw [whileN_step h1]; exact whileN_ex Inv μ Q h n s' h2 (by omega)
    · rw [whileN_brk h1]; exact ⟨_, rfl, h2⟩
    · rw [whileN_ret h1]; exact ⟨_, rfl, h2⟩
theorem rangeL_ex {α σ ρ : Type} {body : Nat → α → σ → Option (Stp σ ρ)} (Inv : Nat → σ → Prop) (Q : Out σ ρ → Prop) : ∀ (xs : List α) (k : Nat) (s : σ), Inv k s →
    (∀ i x s, xs[i]? = some x → Inv (k + i) s → (∃ s', body (k + i) x s = some (.nxt s') ∧ Inv (k + i + 1) s') ∨ ∃ v, body (k + i) x s = some (.ret v) ∧ Q (.ret v)) →
    (∀ s, Inv (k + xs.length) s → Q (.fin s)) → ∃ o, rangeL body xs k s = some o ∧ Q o
  | [], k, s, hi, h, hQ => ⟨_, rfl, hQ s (by simpa using hi)⟩
  | x :: r, k, s, hi, h, hQ => by
    rcases h 0 x s rfl (by simpa using hi) with ⟨s', e1, e2⟩ | ⟨v, e1, e2⟩
    · simp only [Nat.add_zero] at e1 e2
      simp only [rangeL, e1]
      refine rangeL_ex Inv Q r (k + 1) s' e2 (fun i y s hy hs => ?_) (fun s hs => hQ s (by rw [List.length_cons]; rwa [show k + (r.length + 1) = k + 1 + r.length by omega]))
      have := h (i + 1) y s (by simpa using hy) (by rwa [show k + (i + 1) = k + 1 + i by omega])
      rwa [show k + (i + 1) = k + 1 + i by omega] at this
    · simp only [Nat.add_zero] at e1
      simp only [rangeL, e1]
      exact ⟨_, rfl, e2⟩
theorem rng_ex {α σ ρ : Type} {body : Nat → α → σ → Option (Stp σ ρ)} {xs : List α} {s0 : σ} (Inv : Nat → σ → Prop) (Q : Out σ ρ → Prop) (hl : xs.length ≤ 4611686018427387904) (h0 : Inv 0 s0)
    (h : ∀ i x s, xs[i]? = some x → Inv i s → (∃ s', body i x s = some (.nxt s') ∧ Inv (i + 1) s') ∨ ∃ v, body i x s = some (.ret v) ∧ Q (.ret v)) (hQ : ∀ s, Inv xs.length s → Q (.fin s)) : ∃ o, rng body xs s0 = some o ∧ Q o := by
  unfold rng
  rw [if_pos hl]
  exact rangeL_ex Inv Q xs 0 s0 h0 (fun i x s hx hs => by simpa using h i x s hx (by simpa using hs)) (fun s hs => hQ s (by simpa using hs))
theorem rangeN_ex {σ ρ : Type} {body : Nat → σ → Option (Stp σ ρ)} (Inv : Nat → σ → Prop) (Q : Out σ ρ → Prop) : ∀ (n k : Nat) (s : σ), Inv k s →
    (∀ i s, k ≤ i → i < k + n → Inv i s → (∃ s', body i s = some (.nxt s') ∧ Inv (i + 1) s') ∨ ∃ v, body i s = some (.ret v) ∧ Q (.ret v)) →
    (∀ s, Inv (k + n) s → Q (.fin s)) → ∃ o, rangeN body n k s = some o ∧ Q o
  | 0, k, s, hi, h, hQ => ⟨_, rfl, hQ s hi⟩
  | n + 1, k, s, hi, h, hQ => by
    rcases h k s (by omega) (by omega) hi with ⟨s', e1, e2⟩ | ⟨v, e1, e2⟩
    · simp only [rangeN, e1]
      exact rangeN_ex Inv Q n (k + 1) s' e2 (fun i s a b c => h i s (by omega) (by omega) c) (fun s hs => hQ s (by rwa [show k + (n + 1) = k + 1 + n by omega]))
    · simp only [rangeN, e1]
      exact ⟨_, rfl, e2⟩
theorem rni_ex {σ ρ : Type} {body : Nat → σ → Option (Stp σ ρ)} {n : Int} {s0 : σ} (Inv : Nat → σ → Prop) (Q : Out σ ρ → Prop) (hn : n ≤ 4611686018427387904) (h0 : Inv 0 s0)
    (h : ∀ (i : Nat) s, (i : Int) < n → Inv i s → (∃ s', body i s = some (.nxt s') ∧ Inv (i + 1) s') ∨ ∃ v, body i s = some (.ret v) ∧ Q (.ret v)) (hQ : ∀ s, Inv n.toNat s → Q (.fin s)) : ∃ o, rni body n s0 = some o ∧ Q o := by
  unfold rni
  rw [if_pos hn]
  exact rangeN_ex Inv Q n.toNat 0 s0 h0 (fun i s _ hi hs => h i s (by omega) hs) (fun s hs => hQ s (by simpa using hs))

/-! ### names -/
def nameP (p : Program) (f : Func) (i : Instr) : Bool :=
  if i.Op = 2 ∨ i.Op = 3 then decide (i.Arg < f.Locals.length)
  else if i.Op = 4 then decide (i.Arg < f.Locals.length ∧ f.Locals[i.Arg.toNat]? = some 0)
  else if i.Op = 23 ∨ i.Op = 25 then decide (i.Arg < p.Funcs.length)
  else if i.Op = 21 ∨ i.Op = 22 then decide (i.Arg < f.Code.length) else true
theorem names_eq (p : Program) (f : Func) (i : Instr) (ha : 0 ≤ i.Arg) : kinds_names_s p f i = some (nameP p f i) := by
  unfold kinds_names_s nameP
  simp only [jp]
  by_cases h2 : i.Op = 2
  · simp [h2]
  by_cases h3 : i.Op = 3
  · simp [h3]
  by_cases h4 : i.Op = 4
  · simp only [h4]
    simp
    by_cases h : i.Arg < f.Locals.length
    · rw [if_pos h, getI_lt ha (by omega)]
      simp [h, List.getElem?_eq_getElem (show i.Arg.toNat < f.Locals.length by omega)]
      rfl
    · rw [if_neg h]; simp [h]
  by_cases h5 : i.Op = 23
  · simp [h5]
  by_cases h6 : i.Op = 25
  · simp [h6]
  by_cases h7 : i.Op = 21
  · simp [h7]
  by_cases h8 : i.Op = 22
  · simp [h8]
  simp [h2, h3, h4, h5, h6, h7, h8]

def codeP (p : Program) (f : Func) (i : Instr) : Bool := nameP p f i && !(decide (i.Op = 25) && (f.Result && decide (f.Keep < 0)))
def keepP (f : Func) : Bool := decide (f.Code.length ≠ 0 ∧ f.Keep < f.Locals.length) && (decide (f.Keep < 0) || decide (f.Locals[f.Keep.toNat]? = some 0))
def headP (p : Program) (f : Func) : Bool := keepP f && f.Code.all (codeP p f)
theorem instr_arg {i : Instr} (h : instrP i = true) : 0 ≤ i.Arg ∧ i.Arg ≤ 65535 ∧ 0 ≤ widthI i.Op := by
  unfold instrP at h
  simp only [Bool.and_eq_true, decide_eq_true_eq] at h
  obtain ⟨h1, h2⟩ := h
  split at h2
  · simp at h2; omega
  · rename_i h8
    simp only [decide_eq_true_eq] at h2
    obtain ⟨_, h3, h4⟩ := h2
    have hw := width_cases i.Op
    have : (256 : Int) ^ (widthI i.Op).toNat ≤ 65536 := by
      rcases hw with e | e | e | e | e <;> rw [e] at h1 h8 ⊢ <;> first | omega | decide
    omega
theorem funcP_code {f : Func} (h : funcP f = true) : ∀ i ∈ f.Code, instrP i = true := by
  unfold funcP at h
  simp only [Bool.and_eq_true, decide_eq_true_eq, List.all_eq_true] at h
  exact h.2.2
theorem head_eq (p : Program) (f : Func) (hf : funcP f = true) (hp : p.Funcs.length ≤ 1048576) : kinds_head_s p f = some (headP p f) := by
  have hc := funcP_code hf
  have hd : f.Code.length ≤ 65535 := by
    unfold funcP at hf
    simp only [Bool.and_eq_true, decide_eq_true_eq] at hf
    omega
  unfold kinds_head_s headP
  simp only [jp]
  have L := rng_inv (σ := Unit) (ρ := Option Bool) (xs := f.Code) (s0 := ()) (codeP p f) (some false) (fun _ _ => True)
    (body := fun (i_5 : Nat) (i_6 : Instr) (s_4 : Unit) => (((kinds_names_s p f i_6).bind fun nam_10 => (if (!nam_10) then (if true = true then (some (.ret (some false))) else (some (.nxt ()))) else (if (i_6.Op == 25) then (if f.Result then (if (decide (f.Keep < 0)) = true then (some (.ret (some false))) else (some (.nxt ()))) else (if false = true then (some (.ret (some false))) else (some (.nxt ())))) else (if false = true then (some (.ret (some false))) else (some (.nxt ())))))) : Option (Stp Unit (Option Bool)))) (by omega) trivial (fun i x s hx _ => by
      have hm := List.mem_of_getElem? hx
      rw [names_eq p f x (instr_arg (hc x hm)).1]
      unfold codeP
      cases nameP p f x with
      | false => rfl
      | true =>
        simp only [Option.bind_some, Bool.not_true, Bool.false_eq_true, if_false, Bool.true_and]
        by_cases h25 : x.Op = 25
        · simp only [h25, beq_self_eq_true, if_true, decide_true, Bool.true_and]
          cases f.Result with
          | false => exact ⟨(), rfl, trivial⟩
          | true =>
            simp only [if_true, Bool.true_and]
            cases decide (f.Keep < 0) with
            | false => exact ⟨(), rfl, trivial⟩
            | true => rfl
        · have : (x.Op == 25) = false := by simpa using h25
          simp only [this, Bool.false_eq_true, if_false, decide_eq_false h25, Bool.false_and, Bool.not_false, if_true]
          exact ⟨(), by simp, trivial⟩)
  have key : ((rng (fun (i_5 : Nat) (i_6 : Instr) (s_4 : Unit) => (((kinds_names_s p f i_6).bind fun nam_10 => (if (!nam_10) then (if true = true then (some (.ret (some false))) else (some (.nxt ()))) else (if (i_6.Op == 25) then (if f.Result then (if (decide (f.Keep < 0)) = true then (some (.ret (some false))) else (some (.nxt ()))) else (if false = true then (some (.ret (some false))) else (some (.nxt ())))) else (if false = true then (some (.ret (some false))) else (some (.nxt ())))))) : Option (Stp Unit (Option Bool)))) f.Code ()).bind (oc (fun (s_4 : Unit) => (some true)))) = some (f.Code.all (codeP p f)) := by
    cases e : f.Code.all (codeP p f) with
    | false =>
      rw [e] at L
      simp only [Bool.false_eq_true, if_false] at L ⊢
      rw [L]; rfl
    | true =>
      rw [e] at L
      simp only [if_true] at L ⊢
      obtain ⟨s, a, _⟩ := L
      rw [a]; rfl
  unfold keepP
  by_cases h1 : f.Code.length = 0
  · simp [h1]
  have h1' : ((f.Code.length : Int) == 0) = false := by simpa using h1
  by_cases h2 : f.Keep ≥ f.Locals.length
  · have : ¬ (f.Keep < f.Locals.length) := by omega
    simp only [h1', Bool.false_eq_true, if_false, decide_eq_true h2, if_true]
    simp [this]
  have h2' : f.Keep < f.Locals.length := by omega
  simp only [h1', Bool.false_eq_true, if_false, decide_eq_false h2, decide_eq_true (show f.Code.length ≠ 0 ∧ f.Keep < f.Locals.length from ⟨h1, h2'⟩), Bool.true_and]
  by_cases h3 : f.Keep ≥ 0
  · have h3' : ¬ f.Keep < 0 := by omega
    simp only [decide_eq_true h3, if_true, decide_eq_false h3', Bool.false_or]
    rw [getI_lt h3 (by omega), List.getElem?_eq_getElem (show f.Keep.toNat < f.Locals.length by omega)]
    simp only [Option.bind_some]
    by_cases h4 : f.Locals[f.Keep.toNat] = 0
    · simp only [h4, bne_self_eq_false, Bool.false_eq_true, if_false, decide_true, Bool.true_and]
      simp only [decide_eq_false h3', Bool.false_eq_true, if_false] at key ⊢
      exact key
    · have : (f.Locals[f.Keep.toNat] != 0) = true := by simpa using h4
      simp [this, h4]
  · have h3' : f.Keep < 0 := by omega
    simp only [decide_eq_false h3, Bool.false_eq_true, if_false, decide_eq_true h3', Bool.true_or, Bool.true_and]
    simp only [decide_eq_true h3', Bool.false_eq_true, if_false] at key ⊢
    exact key

/-! ### what follows -/
def folL (i : Instr) (a : Nat) : List Int := if i.Op = 21 then [i.Arg] else if i.Op = 22 then [(a : Int) + 1, i.Arg] else if i.Op = 24 ∨ i.Op = 26 ∨ i.Op = 30 then [] else [(a : Int) + 1]
theorem follow_eq (i : Instr) (a : Nat) (ha : a ≤ 1048576) : kinds_follow_s i a = some (folL i a) := by
  unfold kinds_follow_s folL
  simp only [jp]
  rw [I64_of (x := (a : Int) + 1) (by omega)]
  by_cases h1 : i.Op = 21
  · simp [h1]
  by_cases h2 : i.Op = 22
  · simp [h2]
  by_cases h3 : i.Op = 24
  · simp [h3]
  by_cases h4 : i.Op = 26
  · simp [h4]
  by_cases h5 : i.Op = 30
  · simp [h5]
  simp [h1, h2, h3, h4, h5]
theorem folL_le (i : Instr) (a : Nat) : (folL i a).length ≤ 2 := by
  unfold folL
  split
  · simp
  · split
    · simp
    · split <;> simp

/-! ### equal lists -/
theorem rangeN_same {σ ρ : Type} {a b : List Int} {body : Nat → σ → Option (Stp σ ρ)} (s : σ) (v : ρ) (hl : a.length = b.length)
    (h : ∀ (i : Nat) (h1 : i < a.length) (h2 : i < b.length), body i s = some (if a[i] = b[i] then .nxt s else .ret v)) :
    ∀ (m k : Nat), k + m = a.length → rangeN body m k s = some (if a.drop k = b.drop k then .fin s else .ret v)
  | 0, k, hk => by
    rw [List.drop_eq_nil_of_le (by omega), List.drop_eq_nil_of_le (by omega)]; rfl
  | m + 1, k, hk => by
    have h1 : k < a.length := by omega
    have h2 : k < b.length := by omega
    have key : a.drop k = b.drop k ↔ a[k] = b[k] ∧ a.drop (k + 1) = b.drop (k + 1) := by
      rw [List.drop_eq_getElem_cons h1, List.drop_eq_getElem_cons h2, List.cons.injEq]
    simp only [rangeN, h k h1 h2]
    by_cases e : a[k] = b[k]
    · rw [if_pos e]
      simp only
      rw [rangeN_same s v hl h m (k + 1) (by omega)]
      by_cases e2 : a.drop (k + 1) = b.drop (k + 1)
      · rw [if_pos e2, if_pos (key.2 ⟨e, e2⟩)]
      · rw [if_neg e2, if_neg (fun hh => e2 (key.1 hh).2)]
    · rw [if_neg e, if_neg (fun hh => e (key.1 hh).1)]
theorem Equal_r_eq (a b : List Int) (ha : a.length ≤ 1000000) : slices_Equal_r_s a b = some (decide (a = b)) := by
  unfold slices_Equal_r_s
  by_cases hl : a.length = b.length
  · have e : ((a.length : Int) != b.length) = false := by simp [hl]
    simp only [e, Bool.false_eq_true, if_false, rni]
    rw [if_pos (by omega), show ((a.length : Int)).toNat = a.length by omega]
    rw [rangeN_same (a := a) (b := b) () (some false) hl (fun i h1 h2 => ?_) a.length 0 (by omega)]
    · simp only [List.drop_zero, Option.bind_some]
      by_cases e : a = b
      · rw [if_pos e, decide_eq_true e]; rfl
      · rw [if_neg e, decide_eq_false e]; rfl
    · rw [getI_nat, getI_nat, List.getElem?_eq_getElem h1, List.getElem?_eq_getElem h2]
      simp only [Option.bind_some]
      by_cases e : a[i] = b[i]
      · rw [if_pos e]; simp [e]
      · rw [if_neg e]; simp [e]
  · have e : ((a.length : Int) != b.length) = true := by simp; omega
    rw [if_pos e, decide_eq_false (fun h => hl (by rw [h]))]
theorem Equal_eq (a b : List Int) (ha : a.length ≤ 1000000) : slices_Equal_s a b = some (decide (a = b)) := by
  unfold slices_Equal_s
  by_cases hl : a.length = b.length
  · have e : ((a.length : Int) != b.length) = false := by simp [hl]
    simp only [e, Bool.false_eq_true, if_false, rni]
    rw [if_pos (by omega), show ((a.length : Int)).toNat = a.length by omega]
    rw [rangeN_same (a := a) (b := b) b (some false) hl (fun i h1 h2 => ?_) a.length 0 (by omega)]
    · simp only [List.drop_zero, Option.bind_some]
      by_cases e : a = b
      · rw [if_pos e, decide_eq_true e]; rfl
      · rw [if_neg e, decide_eq_false e]; rfl
    · rw [getI_nat, getI_nat, List.getElem?_eq_getElem h1, List.getElem?_eq_getElem h2]
      simp only [Option.bind_some]
      by_cases e : a[i] = b[i]
      · rw [if_pos e]; simp [e]
      · rw [if_neg e]; simp [e]
  · have e : ((a.length : Int) != b.length) = true := by simp; omega
    rw [if_pos e, decide_eq_false (fun h => hl (by rw [h]))]
end Go.Proofs.Ytiocagilhbomgaa
/- Plain laws of kinds: one step of a stack; the function's types. -/
namespace Go.Proofs.Ytiocagilhbomgaa
open Go Go.Ab Go.RowKit
set_option maxRecDepth 20000
set_option linter.unusedVariables false
set_option linter.unusedSimpArgs false

def locK (f : Func) (i : Instr) : List Int := [f.Locals[i.Arg.toNat]?.getD 0]
def eff (p : Program) (f : Func) (i : Instr) (top : Int) : List Int × List Int :=
  if i.Op = 1 ∨ i.Op = 28 then ([], [0]) else if i.Op = 2 then ([], locK f i) else if i.Op = 3 then (locK f i, []) else if i.Op = 4 then ([], [1]) else if i.Op = 5 then ([1], [0])
  else if i.Op = 6 then ([1, 0], []) else if i.Op = 21 then ([], []) else if i.Op = 22 ∨ i.Op = 26 ∨ i.Op = 29 ∨ i.Op = 30 then ([0], [])
  else if i.Op = 23 ∨ i.Op = 25 then (match p.Funcs[i.Arg.toNat]? with | some g => (g.Locals.take g.Params.toNat, if i.Op = 23 ∧ g.Result = true then [0] else []) | none => ([], []))
  else if i.Op = 24 then (if f.Result = true then [0] else [], []) else if i.Op = 27 then ([], [0, 0]) else if i.Op = 31 then ([top], []) else if i.Op = 32 then ([top], [top, top]) else ([0, 0], [0])
theorem sub_one {l : List Int} {a : Int} (h0 : 0 ≤ a) (h : a < l.length) (hb : a ≤ 65535) : subL l a (I64 (a + 1)) = some [l[a.toNat]?.getD 0] := by
  rw [I64_of (by omega)]
  unfold subL
  rw [if_pos (by omega)]
  have hlt : a.toNat < l.length := by omega
  rw [show (a + 1).toNat = a.toNat + 1 by omega, List.getElem?_eq_getElem hlt]
  rw [List.take_succ_eq_append_getElem hlt, List.drop_append_of_le_length (by simp; omega)]
  simp
theorem funcP_head {f : Func} (h : funcP f = true) : 0 ≤ f.Params ∧ f.Params ≤ f.Locals.length ∧ f.Locals.length ≤ 255 ∧ -1 ≤ f.Keep ∧ f.Keep ≤ 254 ∧ f.Code.length ≤ 65535 := by
  unfold funcP at h
  simp only [Bool.and_eq_true, decide_eq_true_eq] at h
  exact h.1
theorem effect_eq (p : Program) (f : Func) (i : Instr) (top : Int) (ha : 0 ≤ i.Arg ∧ i.Arg ≤ 65535) (hn : nameP p f i = true) (hg : ∀ g ∈ p.Funcs, funcP g = true) : kinds_effect_s p f i top = some (eff p f i top) := by
  unfold kinds_effect_s eff
  simp only [jp]
  unfold nameP at hn
  by_cases h1 : i.Op = 1
  · simp [h1]
  by_cases h28 : i.Op = 28
  · simp [h28]
  by_cases h2 : i.Op = 2
  · simp [h2] at hn
    simp [h2, sub_one ha.1 hn ha.2, locK]
  by_cases h3 : i.Op = 3
  · simp [h3] at hn
    simp [h3, sub_one ha.1 hn ha.2, locK]
  by_cases h4 : i.Op = 4
  · simp [h4]
  by_cases h5 : i.Op = 5
  · simp [h5]
  by_cases h6 : i.Op = 6
  · simp [h6]
  by_cases h21 : i.Op = 21
  · simp [h21]
  by_cases h22 : i.Op = 22
  · simp [h22]
  by_cases h26 : i.Op = 26
  · simp [h26]
  by_cases h29 : i.Op = 29
  · simp [h29]
  by_cases h30 : i.Op = 30
  · simp [h30]
  by_cases hc : i.Op = 23 ∨ i.Op = 25
  · have hlt : i.Arg < p.Funcs.length := by
      rcases hc with h | h <;> simpa [h] using hn
    have hlt' : i.Arg.toNat < p.Funcs.length := by omega
    have hf := funcP_head (hg _ (List.getElem_mem hlt'))
    have hs : subL (p.Funcs[i.Arg.toNat]).Locals 0 (p.Funcs[i.Arg.toNat]).Params = some ((p.Funcs[i.Arg.toNat]).Locals.take (p.Funcs[i.Arg.toNat]).Params.toNat) := by
      unfold subL
      rw [if_pos (by omega)]
      simp
    rw [List.getElem?_eq_getElem hlt']
    rcases hc with h | h
    · simp only [h]
      simp
      rw [getI_lt ha.1 hlt']
      simp only [Option.bind_some, hs]
      cases (p.Funcs[i.Arg.toNat]).Result <;> simp
    · simp only [h]
      simp
      rw [getI_lt ha.1 hlt']
      simp [hs]
  have h23 : ¬ i.Op = 23 := fun h => hc (.inl h)
  have h25 : ¬ i.Op = 25 := fun h => hc (.inr h)
  by_cases h24 : i.Op = 24
  · simp [h24]
    cases f.Result <;> simp
  by_cases h27 : i.Op = 27
  · simp [h27]
  by_cases h31 : i.Op = 31
  · simp [h31]
  by_cases h32 : i.Op = 32
  · simp [h32]
  simp [h1, h28, h2, h3, h4, h5, h6, h21, h22, h26, h29, h30, h23, h25, h24, h27, h31, h32]

def topK (s : List Int) : Int := s.getLast?.getD 0
/-- The stack behind an instruction. -/
def stepK (p : Program) (f : Func) (i : Instr) (s : List Int) : Option (List Int) :=
  let e := eff p f i (topK s)
  if e.1.length ≤ s.length ∧ s.drop (s.length - e.1.length) = e.1 ∧ ¬ (i.Op = 24 ∧ e.1.length < s.length) then some (s.take (s.length - e.1.length) ++ e.2) else none
theorem ite_len {c : Prop} [Decidable c] : (if c then [(0 : Int)] else []).length ≤ 2 := by split <;> exact Nat.le_of_ble_eq_true rfl
theorem eff_len (p : Program) (f : Func) (i : Instr) (t : Int) : (eff p f i t).2.length ≤ 2 := by
  unfold eff locK
  by_cases h0 : i.Op = 1 ∨ i.Op = 28
  · rw [if_pos h0]
    exact Nat.le_of_ble_eq_true rfl
  rw [if_neg h0]
  by_cases h1 : i.Op = 2
  · rw [if_pos h1]
    exact Nat.le_of_ble_eq_true rfl
  rw [if_neg h1]
  by_cases h2 : i.Op = 3
  · rw [if_pos h2]
    exact Nat.le_of_ble_eq_true rfl
  rw [if_neg h2]
  by_cases h3 : i.Op = 4
  · rw [if_pos h3]
    exact Nat.le_of_ble_eq_true rfl
  rw [if_neg h3]
  by_cases h4 : i.Op = 5
  · rw [if_pos h4]
    exact Nat.le_of_ble_eq_true rfl
  rw [if_neg h4]
  by_cases h5 : i.Op = 6
  · rw [if_pos h5]
    exact Nat.le_of_ble_eq_true rfl
  rw [if_neg h5]
  by_cases h6 : i.Op = 21
  · rw [if_pos h6]
    exact Nat.le_of_ble_eq_true rfl
  rw [if_neg h6]
  by_cases h7 : i.Op = 22 ∨ i.Op = 26 ∨ i.Op = 29 ∨ i.Op = 30
  · rw [if_pos h7]
    exact Nat.le_of_ble_eq_true rfl
  rw [if_neg h7]
  by_cases h8 : i.Op = 23 ∨ i.Op = 25
  · rw [if_pos h8]
    cases p.Funcs[i.Arg.toNat]? with
    | none => exact Nat.le_of_ble_eq_true rfl
    | some g => exact ite_len
  rw [if_neg h8]
  by_cases h9 : i.Op = 24
  · rw [if_pos h9]
    exact Nat.le_of_ble_eq_true rfl
  rw [if_neg h9]
  by_cases h10 : i.Op = 27
  · rw [if_pos h10]
    exact Nat.le_of_ble_eq_true rfl
  rw [if_neg h10]
  by_cases h11 : i.Op = 31
  · rw [if_pos h11]
    exact Nat.le_of_ble_eq_true rfl
  rw [if_neg h11]
  by_cases h12 : i.Op = 32
  · rw [if_pos h12]
    exact Nat.le_of_ble_eq_true rfl
  rw [if_neg h12]
  exact Nat.le_of_ble_eq_true rfl
theorem step_len {p f i s s'} (h : stepK p f i s = some s') : s'.length ≤ s.length + 2 := by
  unfold stepK at h
  simp only at h
  split at h
  · cases h
    have := eff_len p f i (topK s)
    simp; omega
  · cases h

/-- What can come to be. -/
inductive Der (p : Program) (f : Func) : Nat → List Int → Prop
  | start : Der p f 0 []
  | go {a : Nat} {s s' : List Int} {i : Instr} {b : Nat} (h : Der p f a s) (hi : f.Code[a]? = some i) (hs : stepK p f i s = some s') (hb : (b : Int) ∈ folL i a) : Der p f b s'
def Bad (p : Program) (f : Func) : Prop :=
  (∃ a s i, Der p f a s ∧ f.Code[a]? = some i ∧ (stepK p f i s = none ∨ ∃ b ∈ folL i a, (f.Code.length : Int) ≤ b)) ∨ ∃ b s1 s2, Der p f b s1 ∧ Der p f b s2 ∧ s1 ≠ s2
def Deep (p : Program) (f : Func) : Prop := ∃ a s i s', Der p f a s ∧ f.Code[a]? = some i ∧ stepK p f i s = some s' ∧ 16 < s'.length
def Sol (p : Program) (f : Func) (R : Nat → Option (List Int)) : Prop :=
  R 0 = some [] ∧ ∀ a s, R a = some s → Der p f a s ∧ ∃ i s', f.Code[a]? = some i ∧ stepK p f i s = some s' ∧ ∀ b ∈ folL i a, ∃ m : Nat, b = m ∧ m < f.Code.length ∧ R m = some s'
theorem Sol.all {p f R} (h : Sol p f R) {a s} (d : Der p f a s) : R a = some s := by
  induction d with
  | start => exact h.1
  | go d hi hs hb ih =>
    obtain ⟨_, i, s', h1, h2, h3⟩ := h.2 _ _ ih
    rw [hi] at h1; cases h1
    rw [hs] at h2; cases h2
    obtain ⟨m, e, _, h4⟩ := h3 _ hb
    have : m = _ := Int.ofNat.inj e.symm
    subst this
    exact h4
theorem Sol.good {p f R} (h : Sol p f R) : ¬ Bad p f := by
  rintro (⟨a, s, i, d, hi, hb⟩ | ⟨b, s1, s2, d1, d2, hne⟩)
  · obtain ⟨_, i', s', h1, h2, h3⟩ := h.2 _ _ (h.all d)
    rw [hi] at h1; cases h1
    rcases hb with hb | ⟨b, hb, hl⟩
    · rw [hb] at h2; cases h2
    · obtain ⟨m, e, hm, _⟩ := h3 b hb
      omega
  · have e1 := h.all d1
    have e2 := h.all d2
    rw [e1] at e2
    exact hne (Option.some.inj e2)
theorem Sol.uniq {p f R R'} (h : Sol p f R) (h' : Sol p f R') : R = R' := by
  funext a
  cases e : R a with
  | some s => exact (h'.all (h.2 _ _ e).1).symm
  | none =>
    cases e' : R' a with
    | none => rfl
    | some s =>
      have := h.all (h'.2 _ _ e').1
      rw [e] at this; cases this

theorem bind_ex {α β : Type} {x : Option α} {F : α → Option β} {P : β → Prop} (h : ∃ o, x = some o ∧ ∃ r, F o = some r ∧ P r) : ∃ r, x.bind F = some r ∧ P r := by
  obtain ⟨o, rfl, r, h1, h2⟩ := h
  exact ⟨r, h1, h2⟩
end Go.Proofs.Ytiocagilhbomgaa
