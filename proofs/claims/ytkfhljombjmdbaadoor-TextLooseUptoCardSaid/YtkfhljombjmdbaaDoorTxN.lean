/- The two readers of texts: the program's last function's code is an object of its own. (Printed by mkP.py.) -/
import Derived.Test.YtkfhljombjmdbaaDoorGenZ
import Derived.Test.YtkfhljombjmdbaaDoorWlH1
import Derived.Test.YtkfhljombjmdbaaDoorWlU2
import Derived.Lib.ParseIntB
import Derived.Lib.ItoaNum
namespace Go.Proofs.YtkfhljombjmdbaaDoor
open Go Go.Ab
set_option maxRecDepth 20000
set_option maxHeartbeats 2000000
set_option linter.unusedVariables false
set_option linter.unusedSimpArgs false
def FuncN.cells (x : Func) : List AV := [(.int .i64 x.Params), (.sl false 1 (List.map (avI .u8) x.Locals)), (.bool x.Result), (.int .i64 x.Keep), .nils]
def FuncN.av (x : Func) : AV := .agg (FuncN.cells x)
/-- Functions, of which some are known to have nil as code. -/
def FB.cells (x : Func × Bool) : List AV := if x.2 then FuncN.cells x.1 else Func.cells x.1
def FB.av (x : Func × Bool) : AV := .agg (FB.cells x)
theorem FB.enc : Enc FB.av (some 5) := by
  refine ⟨fun x => ?_, fun x => ?_, fun x => ?_, fun x n => ?_⟩
  · obtain ⟨x, b⟩ := x; cases b <;> rfl
  · obtain ⟨x, b⟩ := x; cases b <;> rfl
  · obtain ⟨x, b⟩ := x; cases b <;> rfl
  · obtain ⟨x, b⟩ := x
    cases b
    · exact Func.enc.blw x n
    · exact blwL_of ⟨rfl, (encL (encI .u8) 1).blw x.Locals n, rfl, rfl, rfl, trivial⟩
def noN (xs : List Func) : List (Func × Bool) := xs.map fun x => (x, false)
theorem flat_noN (xs : List Func) : flat FB.av (noN xs) = flat Func.av xs := by
  induction xs with
  | nil => rfl
  | cons x r ih => show flat FB.av ((x, false) :: noN r) = _; rw [flat_cons, flat_cons, ih]; rfl
theorem flat_push (xs : List Func) (y : Func) : flat FB.av (noN xs ++ [(y, true)]) = flat Func.av xs ++ (Func.av y).cells.set 4 .nils := by
  rw [flat_append, flat_noN]; rfl
theorem noN_length (xs : List Func) : (noN xs).length = xs.length := List.length_map ..
/-- The cell of a last element's code. -/
def rF (x : Func) : AV := .ref 3 1 0 x.Code.length (some 3)
def rG (x : Func) : AV := .ref 4 1 0 x.Code.length (some 3)
/-- A function is put behind, whose code must be nil. -/
def pushF (xs : List Func) (y : Func) : Option (List Func) := if y.Code.isEmpty ∧ ((xs.length + 1) * 72 ≤ 140737488355328 ∧ xs.length + 1 ≤ 140737488355328) then some (xs ++ [y]) else none
/-- An instruction is put behind the last function's. -/
def pushC (xs : List Func) (i : Instr) : Option (List Func) := match xs.getLast? with
  | none => none
  | some x => if I64 ((xs.length : Int) - 1) = (xs.length : Int) - 1 then (appL 24 x.Code [i]).map fun c => xs.dropLast ++ [{ x with Code := c }] else none
theorem pushC_some {xs ys : List Func} {i : Instr} (h : pushC xs i = some ys) : ∃ l x c, xs = l ++ [x] ∧ I64 (((l ++ [x]).length : Int) - 1) = (l.length : Int) ∧ appL 24 x.Code [i] = some c ∧ ys = l ++ [{ x with Code := c }] := by
  rcases snoc_of xs with rfl | ⟨l, x, rfl⟩
  · cases h
  · have e : (l ++ [x]).getLast? = some x := by simp
    unfold pushC at h
    rw [e] at h
    simp only at h
    split at h
    · obtain ⟨c, hc, rfl⟩ := Option.map_eq_some_iff.1 h
      refine ⟨l, x, c, rfl, by rename_i q; rw [q]; simp, hc, by simp⟩
    · cases h
theorem hxe {l : List Func} {p : Nat} (h : p = 0 + (l.length : Int).toNat * szOf (some 5)) : p + 4 = l.length * szOf (some 5) + 4 := by subst h; simp
def delS (xs : List ByteArray) : Option (List ByteArray) := if xs ≠ [] ∧ xs.length ≤ 9223372036854775807 then some (delE xs) else none
theorem delS_some {xs ys : List ByteArray} (h : delS xs = some ys) : (xs ≠ [] ∧ xs.length ≤ 9223372036854775807) ∧ ys = delE xs := by
  unfold delS at h
  split at h
  · cases h; exact ⟨by assumption, rfl⟩
  · cases h
theorem pushF_some {xs ys : List Func} {y : Func} (h : pushF xs y = some ys) : y.Code = [] ∧ ((xs.length + 1) * 72 ≤ 140737488355328 ∧ xs.length + 1 ≤ 140737488355328) ∧ ys = xs ++ [y] := by
  unfold pushF at h
  split at h
  · rename_i q
    cases h
    exact ⟨by simpa using q.1, q.2, rfl⟩
  · cases h
theorem text_function_evN {w_00 : (List ByteArray)} {r : (Func × Bool)} (h : text_function_s w_00 = some r) : PureEv Tryd.prog 55 [(.sl false 1 (List.map avS w_00))] (.tup [(FuncN.av r.1), (.bool r.2)]) := by
  unfold text_function_s at h
  refine PureEv_end mixed fn55 (by simp) [2, 6, 56] 6 ?_
  unfold fc55
  refine E_sq ?_
  refine E_reg ?_
  refine E_op (v' := .ptr 0 0 0) (S' := [.arr 0 [(.int .i64 0), .nils, (.bool false), (.int .i64 0), .nils]]) rfl rfl rfl ?_
  refine E_mv (v' := (.bool false)) rfl ?_
  refine E_nil ?_
  refine E_nx ?_
  refine E_as ?_
  refine E_sq ?_
  refine E_reg ?_
  refine E_mv (v' := (.sl false 1 (List.map avS w_00))) rfl ?_
  refine E_len rfl ?_
  refine E_op0 (v' := (.bool ((List.length w_00 : Int) != 5))) rfl rfl ?_
  refine E_nil ?_
  refine E_nx ?_
  refine E_sq ?_
  refine E_cs (t := ((List.length w_00 : Int) != 5)) rfl (fun hb => ?_) (fun hb => ?_)
  · rw [ite_t hb] at h
    refine E_sq ?_
    refine E_reg ?_
    refine E_op0 (v' := (.agg [(.int .i64 0), .nils, (.bool false), (.int .i64 0), .nils])) rfl rfl ?_
    refine E_do (S' := [.arr 0 [(.int .i64 0), .nils, (.bool false), (.int .i64 0), .nils]]) rfl rfl ?_
    refine E_mv (v' := (.bool false)) rfl ?_
    refine E_nil ?_
    refine E_nx ?_
    refine E_ret ?_
    refine E_thr ?_
    cases h
    exact ⟨trivial, _, rfl, (fz_tup ⟨(fz_agg ⟨(fz_b rfl (.refl _)), (fz_b rfl .nil), (fz_b rfl (.refl _)), (fz_b rfl (.refl _)), (fz_b rfl (.refl _)), trivial⟩), (fz_b rfl (.refl _)), trivial⟩)⟩
  · rw [ite_f hb] at h
    refine E_skip ?_
    refine E_nx ?_
    refine E_sq ?_
    refine E_reg ?_
    refine E_mv (v' := (.sl false 1 (List.map avS w_00))) rfl ?_
    obtain ⟨y_1, hy_1, h⟩ := bd_some h
    refine E_iadF rfl rfl hy_1 ?_
    refine E_op0 (v' := (.str y_1)) rfl rfl ?_
    obtain ⟨num_2, hnum_2, h⟩ := bd_some h
    refine E_callW (text_number_ev  hnum_2) rfl ⟨(.refl _), (.refl _), trivial⟩ (blwL_of ⟨rfl, rfl, trivial⟩) (tup_blw ⟨rfl, rfl, trivial⟩) ?_
    refine E_mv (v' := (.tup [(.int .u64 num_2.1), (.bool num_2.2)])) rfl ?_
    refine E_op0 (v' := (.int .u64 num_2.1)) rfl rfl ?_
    refine E_op0 (v' := (.bool num_2.2)) rfl rfl ?_
    refine E_mv (v' := (.int .u64 num_2.1)) rfl ?_
    refine E_mv (v' := (.bool num_2.2)) rfl ?_
    refine E_nil ?_
    refine E_nx ?_
    refine E_sq ?_
    refine E_reg ?_
    refine E_mv (v' := (.int .u64 num_2.1)) rfl ?_
    refine E_op0 (v' := (.int .i64 (I64 num_2.1))) rfl rfl ?_
    refine E_mv (v' := (.sl false 1 (List.map avS w_00))) rfl ?_
    obtain ⟨y_3, hy_3, h⟩ := bd_some h
    refine E_iadF rfl rfl hy_3 ?_
    refine E_op0 (v' := (.str y_3)) rfl rfl ?_
    refine E_op0 (v' := (.bool (ByteArray.toList y_3 == ByteArray.toList (ByteArray.mk #[49])))) rfl rfl ?_
    refine E_op0 (v' := (.agg [(.int .i64 (I64 num_2.1)), .nils, (.bool (ByteArray.toList y_3 == ByteArray.toList (ByteArray.mk #[49]))), (.int .i64 (-1)), .nils])) rfl rfl ?_
    refine E_op (v' := .ptr 1 0 0) (S' := [.arr 0 [(.int .i64 0), .nils, (.bool false), (.int .i64 0), .nils], .arr 0 [(.int .i64 0), .nils, (.bool false), (.int .i64 0), .nils]]) rfl rfl rfl ?_
    refine E_do (S' := [.arr 0 [(.int .i64 0), .nils, (.bool false), (.int .i64 0), .nils], .arr 0 [(.int .i64 (I64 num_2.1)), .nils, (.bool (ByteArray.toList y_3 == ByteArray.toList (ByteArray.mk #[49]))), (.int .i64 (-1)), .nils]]) rfl rfl ?_
    refine E_nil ?_
    refine E_nx ?_
    refine E_as ?_
    refine E_sq ?_
    refine E_reg ?_
    refine E_mv (v' := (.sl false 1 (List.map avS w_00))) rfl ?_
    obtain ⟨y_4, hy_4, h⟩ := bd_some h
    refine E_iadF rfl rfl hy_4 ?_
    refine E_op0 (v' := (.str y_4)) rfl rfl ?_
    refine E_op0 (v' := (.bool (!(ByteArray.toList y_4 == ByteArray.toList (ByteArray.mk #[45]))))) rfl rfl ?_
    refine E_nil ?_
    refine E_nx ?_
    refine E_jp h (fun s_6 => [(0, (.sl false 1 (List.map avS w_00))), (2, (.ptr 0 0 0)), (5, (.bool s_6.1)), (6, (.ptr 1 0 0))]) (fun s_6 => [.arr 0 [(.int .i64 0), .nils, (.bool false), (.int .i64 0), .nils], .arr 0 [(.int .i64 (I64 num_2.1)), (.ref 2 1 0 (List.length s_6.2) none), (.bool (ByteArray.toList y_3 == ByteArray.toList (ByteArray.mk #[49]))), (.int .i64 (-1)), .nils], .arr 1 (flat (avI .u8) s_6.2)]) (fun k_5 h => ?_) (fun s_6 h => ?_)
    · refine E_cs (t := (!(ByteArray.toList y_4 == ByteArray.toList (ByteArray.mk #[45])))) rfl (fun hb => ?_) (fun hb => ?_)
      · rw [ite_t hb] at h
        refine E_sq ?_
        refine E_reg ?_
        refine E_mv (v' := (.sl false 1 (List.map avS w_00))) rfl ?_
        refine E_iadF rfl rfl hy_4 ?_
        refine E_op0 (v' := (.str y_4)) rfl rfl ?_
        refine E_s2b rfl ?_
        refine E_len rfl ?_
        refine E_mv (v' := (.int .i64 0)) rfl ?_
        refine E_nil ?_
        refine E_nx ?_
        refine E_rngO (fun s_7 => [(0, (.sl false 1 (List.map avS w_00))), (2, (.ptr 0 0 0)), (5, (.bool s_7.1)), (6, (.ptr 1 0 0)), (37, (.sl false 1 (List.map (avI .u8) (ofStr y_4))))]) (fun s_7 => [.arr 0 [(.int .i64 0), .nils, (.bool false), (.int .i64 0), .nils], .arr 0 [(.int .i64 (I64 num_2.1)), (.ref 2 1 0 (List.length s_7.2) none), (.bool (ByteArray.toList y_3 == ByteArray.toList (ByteArray.mk #[49]))), (.int .i64 (-1)), .nils], .arr 1 (flat (avI .u8) s_7.2)]) h (by decide) (by decide) (fun _ => ⟨rfl, rfl, rfl, rfl⟩) (wk_rn [some (0, 0), some (1, 0), none] rfl (Nat.le_of_ble_eq_true rfl) ⟨(rn_ob rfl rfl (.cons (rn_b rfl) (.cons (rn_b rfl) (.cons (rn_b rfl) (.cons (rn_b rfl) (.cons (rn_b rfl) (.nil (Nat.zero_le _))))))) rfl), (rn_ob rfl rfl (.cons (rn_b rfl) (.cons (rn_nil rfl) (.cons (rn_b rfl) (.cons (rn_b rfl) (.cons (rn_b rfl) (.nil (Nat.zero_le _))))))) rfl), (rn_obN rfl rfl rfl), trivial⟩ ⟨(rn_b rfl), (rn_b rfl), (rn_b (encS.blws 0)), (rn_ptr rfl rfl rfl rfl), (rn_b rfl), (rn_ptr rfl rfl rfl rfl), (rn_b ((encI .u8).blws 0)), trivial⟩) (fun i_8 c_9 s_7 c hx_10 hlt h => ?_) (fun s_7 fr' S' h hw => ?_)
        · refine E_sq ?_
          refine E_reg ?_
          refine E_iadF rfl rfl (getI_of hx_10) ?_
          refine E_op0 (v' := (.int .u8 c_9)) rfl rfl ?_
          refine E_mv (v' := (.int .u8 c_9)) rfl ?_
          refine E_nil ?_
          refine E_nx ?_
          refine E_sq ?_
          refine E_reg ?_
          refine E_mv (v' := (.int .u8 c_9)) rfl ?_
          obtain ⟨ind_11, hind_11, h⟩ := bd_some h
          refine E_callW (strings_IndexByte_ev  hind_11) rfl ⟨(.refl _), (.refl _), trivial⟩ (blwL_of ⟨rfl, rfl, trivial⟩) rfl ?_
          refine E_mv (v' := (.int .i64 ind_11)) rfl ?_
          refine E_nil ?_
          refine E_nx ?_
          refine E_jp h (fun s_13 => [(0, (.sl false 1 (List.map avS w_00))), (2, (.ptr 0 0 0)), (5, (.bool s_13)), (6, (.ptr 1 0 0)), (9, (.int .i64 ind_11)), (37, (.sl false 1 (List.map (avI .u8) (ofStr y_4)))), (38, (.int .i64 (List.length (ofStr y_4) : Int))), (39, (.int .i64 (i_8 : Int)))]) (fun s_13 => [.arr 0 [(.int .i64 0), .nils, (.bool false), (.int .i64 0), .nils], .arr 0 [(.int .i64 (I64 num_2.1)), (.ref 2 1 0 (List.length s_7.2) none), (.bool (ByteArray.toList y_3 == ByteArray.toList (ByteArray.mk #[49]))), (.int .i64 (-1)), .nils], .arr 1 (flat (avI .u8) s_7.2)]) (fun k_12 h => ?_) (fun s_13 h => ?_)
          · refine E_reg ?_
            refine E_mv (v' := (.bool s_7.1)) rfl ?_
            refine E_mv (v' := (.bool s_7.1)) rfl ?_
            refine E_gsT (b := s_7.1) rfl rfl rfl (fun hb => ?_) (fun hb => ?_)
            · rw [ite_t hb] at h
              refine E_mv (v' := (.int .i64 ind_11)) rfl ?_
              refine E_gh rfl ?_
              refine E_op0 (v' := (.bool (decide (ind_11 ≥ 0)))) rfl rfl ?_
              refine E_pt rfl rfl ?_
              refine E_mv (v' := (.bool (decide (ind_11 ≥ 0)))) rfl ?_
              refine E_nil ?_
              exact E_jx _ h (wk_rn [some (0, 0), some (1, 0), some (2, 0)] rfl (Nat.le_of_ble_eq_true rfl) ⟨(rn_ob rfl rfl (.cons (rn_b rfl) (.cons (rn_b rfl) (.cons (rn_b rfl) (.cons (rn_b rfl) (.cons (rn_b rfl) (.nil (Nat.zero_le _))))))) rfl), (rn_ob rfl rfl (.cons (rn_b rfl) (.cons (rn_refL (encI .u8) rfl rfl rfl) (.cons (rn_b rfl) (.cons (rn_b rfl) (.cons (rn_b rfl) (.nil (Nat.zero_le _))))))) rfl), (rn_ob rfl rfl (.refl ((encI .u8).blwf 0 _)) rfl), trivial⟩ ⟨(rn_b (encS.blws 0)), (rn_ptr rfl rfl rfl rfl), (rn_b rfl), (rn_ptr rfl rfl rfl rfl), (rn_b rfl), (rn_b ((encI .u8).blws 0)), (rn_b rfl), (rn_b rfl), trivial⟩)
            · rw [ite_f hb] at h
              refine E_gm rfl ?_
              refine E_pf rfl rfl ?_
              refine E_mv (v' := (.bool false)) rfl ?_
              refine E_nil ?_
              exact E_jx _ h (wk_rn [some (0, 0), some (1, 0), some (2, 0)] rfl (Nat.le_of_ble_eq_true rfl) ⟨(rn_ob rfl rfl (.cons (rn_b rfl) (.cons (rn_b rfl) (.cons (rn_b rfl) (.cons (rn_b rfl) (.cons (rn_b rfl) (.nil (Nat.zero_le _))))))) rfl), (rn_ob rfl rfl (.cons (rn_b rfl) (.cons (rn_refL (encI .u8) rfl rfl rfl) (.cons (rn_b rfl) (.cons (rn_b rfl) (.cons (rn_b rfl) (.nil (Nat.zero_le _))))))) rfl), (rn_ob rfl rfl (.refl ((encI .u8).blwf 0 _)) rfl), trivial⟩ ⟨(rn_b (encS.blws 0)), (rn_ptr rfl rfl rfl rfl), (rn_b rfl), (rn_ptr rfl rfl rfl rfl), (rn_b rfl), (rn_b ((encI .u8).blws 0)), (rn_b rfl), (rn_b rfl), trivial⟩)
          · refine E_reg ?_
            refine E_op0 (v' := (.ptr 1 0 1)) rfl rfl ?_
            refine E_op (v' := (.ref 2 1 0 (List.length s_7.2) none)) (S' := [.arr 0 [(.int .i64 0), .nils, (.bool false), (.int .i64 0), .nils], .arr 0 [(.int .i64 (I64 num_2.1)), (.ref 2 1 0 (List.length s_7.2) none), (.bool (ByteArray.toList y_3 == ByteArray.toList (ByteArray.mk #[49]))), (.int .i64 (-1)), .nils], .arr 1 (flat (avI .u8) s_7.2)]) rfl rfl rfl ?_
            refine E_mv (v' := (.int .i64 ind_11)) rfl ?_
            refine E_op0 (v' := (.int .i64 (if 0 > ind_11 then 0 else ind_11))) rfl rfl ?_
            refine E_op0 (v' := (.int .u8 (U8 (if 0 > ind_11 then 0 else ind_11)))) rfl rfl ?_
            refine E_opw (v' := (.sl true 1 (List.map (avI .u8) [(U8 (if 0 > ind_11 then 0 else ind_11))]))) rfl (.refl _) rfl ?_
            obtain ⟨l_14, hl_14, h⟩ := bd_some h
            refine E_apL (S' := [.arr 0 [(.int .i64 0), .nils, (.bool false), (.int .i64 0), .nils], .arr 0 [(.int .i64 (I64 num_2.1)), (.ref 2 1 0 (List.length s_7.2) none), (.bool (ByteArray.toList y_3 == ByteArray.toList (ByteArray.mk #[49]))), (.int .i64 (-1)), .nils], .arr 2 (flat (avI .u8) l_14)]) (encI .u8) rfl (src_sl [(U8 (if 0 > ind_11 then 0 else ind_11))]) rfl hl_14 rfl ?_
            refine E_op0 (v' := (.ptr 1 0 1)) rfl rfl ?_
            refine E_do (S' := [.arr 0 [(.int .i64 0), .nils, (.bool false), (.int .i64 0), .nils], .arr 0 [(.int .i64 (I64 num_2.1)), (.ref 2 2 0 (List.length l_14) none), (.bool (ByteArray.toList y_3 == ByteArray.toList (ByteArray.mk #[49]))), (.int .i64 (-1)), .nils], .arr 2 (flat (avI .u8) l_14)]) rfl rfl ?_
            refine E_nil ?_
            cases h
            exact L_nn rfl (wk_rn [some (0, 0), some (1, 0), some (2, 0)] rfl (Nat.le_of_ble_eq_true rfl) ⟨(rn_ob rfl rfl (.cons (rn_b rfl) (.cons (rn_b rfl) (.cons (rn_b rfl) (.cons (rn_b rfl) (.cons (rn_b rfl) (.nil (Nat.zero_le _))))))) rfl), (rn_ob rfl rfl (.cons (rn_b rfl) (.cons (rn_refL (encI .u8) rfl rfl rfl) (.cons (rn_b rfl) (.cons (rn_b rfl) (.cons (rn_b rfl) (.nil (Nat.zero_le _))))))) rfl), (rn_ob rfl rfl (.refl ((encI .u8).blwf 0 _)) rfl), trivial⟩ ⟨(rn_b rfl), (rn_b rfl), (rn_b (encS.blws 0)), (rn_ptr rfl rfl rfl rfl), (rn_b rfl), (rn_ptr rfl rfl rfl rfl), (rn_b ((encI .u8).blws 0)), trivial⟩)
        · exact X_jp _ h hw (wk_rn [some (0, 0), some (1, 0), some (2, 0)] rfl (Nat.le_of_ble_eq_true rfl) ⟨(rn_ob rfl rfl (.cons (rn_b rfl) (.cons (rn_b rfl) (.cons (rn_b rfl) (.cons (rn_b rfl) (.cons (rn_b rfl) (.nil (Nat.zero_le _))))))) rfl), (rn_ob rfl rfl (.cons (rn_b rfl) (.cons (rn_refL (encI .u8) rfl rfl rfl) (.cons (rn_b rfl) (.cons (rn_b rfl) (.cons (rn_b rfl) (.nil (Nat.zero_le _))))))) rfl), (rn_ob rfl rfl (.refl ((encI .u8).blwf 0 _)) rfl), trivial⟩ ⟨(rn_b (encS.blws 0)), (rn_ptr rfl rfl rfl rfl), (rn_b rfl), (rn_ptr rfl rfl rfl rfl), trivial⟩)
      · rw [ite_f hb] at h
        refine E_skip ?_
        exact E_jx _ h (wk_rn [some (0, 0), some (1, 0), none] rfl (Nat.le_of_ble_eq_true rfl) ⟨(rn_ob rfl rfl (.cons (rn_b rfl) (.cons (rn_b rfl) (.cons (rn_b rfl) (.cons (rn_b rfl) (.cons (rn_b rfl) (.nil (Nat.zero_le _))))))) rfl), (rn_ob rfl rfl (.cons (rn_b rfl) (.cons (rn_nil rfl) (.cons (rn_b rfl) (.cons (rn_b rfl) (.cons (rn_b rfl) (.nil (Nat.zero_le _))))))) rfl), (rn_obN rfl rfl rfl), trivial⟩ ⟨(rn_b (encS.blws 0)), (rn_ptr rfl rfl rfl rfl), (rn_b rfl), (rn_ptr rfl rfl rfl rfl), trivial⟩)
    · refine E_as ?_
      refine E_sq ?_
      refine E_reg ?_
      refine E_mv (v' := (.sl false 1 (List.map avS w_00))) rfl ?_
      obtain ⟨y_15, hy_15, h⟩ := bd_some h
      refine E_iadF rfl rfl hy_15 ?_
      refine E_op0 (v' := (.str y_15)) rfl rfl ?_
      refine E_op0 (v' := (.bool (!(ByteArray.toList y_15 == ByteArray.toList (ByteArray.mk #[45]))))) rfl rfl ?_
      refine E_nil ?_
      refine E_nx ?_
      refine E_jp h (fun s_17 => [(0, (.sl false 1 (List.map avS w_00))), (2, (.ptr 0 0 0)), (5, (.bool s_17.1)), (6, (.ptr 1 0 0))]) (fun s_17 => [.arr 0 [(.int .i64 0), .nils, (.bool false), (.int .i64 0), .nils], .arr 0 [(.int .i64 (I64 num_2.1)), (.ref 2 1 0 (List.length s_6.2) none), (.bool (ByteArray.toList y_3 == ByteArray.toList (ByteArray.mk #[49]))), (.int .i64 s_17.2), .nils], .arr 1 (flat (avI .u8) s_6.2)]) (fun k_16 h => ?_) (fun s_17 h => ?_)
      · refine E_cs (t := (!(ByteArray.toList y_15 == ByteArray.toList (ByteArray.mk #[45])))) rfl (fun hb => ?_) (fun hb => ?_)
        · rw [ite_t hb] at h
          refine E_sq ?_
          refine E_reg ?_
          refine E_mv (v' := (.sl false 1 (List.map avS w_00))) rfl ?_
          refine E_iadF rfl rfl hy_15 ?_
          refine E_op0 (v' := (.str y_15)) rfl rfl ?_
          obtain ⟨num_18, hnum_18, h⟩ := bd_some h
          refine E_callW (text_number_ev  hnum_18) rfl ⟨(.refl _), (.refl _), trivial⟩ (blwL_of ⟨rfl, rfl, trivial⟩) (tup_blw ⟨rfl, rfl, trivial⟩) ?_
          refine E_mv (v' := (.tup [(.int .u64 num_18.1), (.bool num_18.2)])) rfl ?_
          refine E_op0 (v' := (.int .u64 num_18.1)) rfl rfl ?_
          refine E_op0 (v' := (.bool num_18.2)) rfl rfl ?_
          refine E_mv (v' := (.int .u64 num_18.1)) rfl ?_
          refine E_mv (v' := (.bool num_18.2)) rfl ?_
          refine E_nil ?_
          refine E_nx ?_
          refine E_sq ?_
          refine E_reg ?_
          refine E_mv (v' := (.int .u64 num_18.1)) rfl ?_
          refine E_op0 (v' := (.int .i64 (I64 num_18.1))) rfl rfl ?_
          refine E_op0 (v' := (.ptr 1 0 3)) rfl rfl ?_
          refine E_do (S' := [.arr 0 [(.int .i64 0), .nils, (.bool false), (.int .i64 0), .nils], .arr 0 [(.int .i64 (I64 num_2.1)), (.ref 2 1 0 (List.length s_6.2) none), (.bool (ByteArray.toList y_3 == ByteArray.toList (ByteArray.mk #[49]))), (.int .i64 (I64 num_18.1)), .nils], .arr 1 (flat (avI .u8) s_6.2)]) rfl rfl ?_
          refine E_nil ?_
          refine E_nx ?_
          refine E_reg ?_
          refine E_mv (v' := (.bool s_6.1)) rfl ?_
          refine E_mv (v' := (.bool s_6.1)) rfl ?_
          refine E_gsT (b := s_6.1) rfl rfl rfl (fun hb => ?_) (fun hb => ?_)
          · rw [ite_t hb] at h
            refine E_mv (v' := (.bool num_18.2)) rfl ?_
            refine E_pt rfl rfl ?_
            refine E_mv (v' := (.bool num_18.2)) rfl ?_
            refine E_nil ?_
            exact E_jx _ h (wk_rn [some (0, 0), some (1, 0), some (2, 0)] rfl (Nat.le_of_ble_eq_true rfl) ⟨(rn_ob rfl rfl (.cons (rn_b rfl) (.cons (rn_b rfl) (.cons (rn_b rfl) (.cons (rn_b rfl) (.cons (rn_b rfl) (.nil (Nat.zero_le _))))))) rfl), (rn_ob rfl rfl (.cons (rn_b rfl) (.cons (rn_refL (encI .u8) rfl rfl rfl) (.cons (rn_b rfl) (.cons (rn_b rfl) (.cons (rn_b rfl) (.nil (Nat.zero_le _))))))) rfl), (rn_ob rfl rfl (.refl ((encI .u8).blwf 0 _)) rfl), trivial⟩ ⟨(rn_b (encS.blws 0)), (rn_ptr rfl rfl rfl rfl), (rn_b rfl), (rn_ptr rfl rfl rfl rfl), trivial⟩)
          · rw [ite_f hb] at h
            refine E_pf rfl rfl ?_
            refine E_mv (v' := (.bool false)) rfl ?_
            refine E_nil ?_
            exact E_jx _ h (wk_rn [some (0, 0), some (1, 0), some (2, 0)] rfl (Nat.le_of_ble_eq_true rfl) ⟨(rn_ob rfl rfl (.cons (rn_b rfl) (.cons (rn_b rfl) (.cons (rn_b rfl) (.cons (rn_b rfl) (.cons (rn_b rfl) (.nil (Nat.zero_le _))))))) rfl), (rn_ob rfl rfl (.cons (rn_b rfl) (.cons (rn_refL (encI .u8) rfl rfl rfl) (.cons (rn_b rfl) (.cons (rn_b rfl) (.cons (rn_b rfl) (.nil (Nat.zero_le _))))))) rfl), (rn_ob rfl rfl (.refl ((encI .u8).blwf 0 _)) rfl), trivial⟩ ⟨(rn_b (encS.blws 0)), (rn_ptr rfl rfl rfl rfl), (rn_b rfl), (rn_ptr rfl rfl rfl rfl), trivial⟩)
        · rw [ite_f hb] at h
          refine E_skip ?_
          exact E_jx _ h (wk_rn [some (0, 0), some (1, 0), some (2, 0)] rfl (Nat.le_of_ble_eq_true rfl) ⟨(rn_ob rfl rfl (.cons (rn_b rfl) (.cons (rn_b rfl) (.cons (rn_b rfl) (.cons (rn_b rfl) (.cons (rn_b rfl) (.nil (Nat.zero_le _))))))) rfl), (rn_ob rfl rfl (.cons (rn_b rfl) (.cons (rn_refL (encI .u8) rfl rfl rfl) (.cons (rn_b rfl) (.cons (rn_b rfl) (.cons (rn_b rfl) (.nil (Nat.zero_le _))))))) rfl), (rn_ob rfl rfl (.refl ((encI .u8).blwf 0 _)) rfl), trivial⟩ ⟨(rn_b (encS.blws 0)), (rn_ptr rfl rfl rfl rfl), (rn_b rfl), (rn_ptr rfl rfl rfl rfl), trivial⟩)
      · refine E_jp h (fun s_20 => [(2, (.ptr 0 0 0)), (3, (.bool s_20))]) (fun s_20 => [.arr 0 [(.int .i64 (I64 num_2.1)), (.ref 1 1 0 (List.length s_6.2) none), (.bool (ByteArray.toList y_3 == ByteArray.toList (ByteArray.mk #[49]))), (.int .i64 s_17.2), .nils], .arr 1 (flat (avI .u8) s_6.2)]) (fun k_19 h => ?_) (fun s_20 h => ?_)
        · refine E_regp ?_
          refine E_op (v' := (.agg [(.int .i64 (I64 num_2.1)), (.ref 2 1 0 (List.length s_6.2) none), (.bool (ByteArray.toList y_3 == ByteArray.toList (ByteArray.mk #[49]))), (.int .i64 s_17.2), .nils])) (S' := [.arr 0 [(.int .i64 0), .nils, (.bool false), (.int .i64 0), .nils], .arr 0 [(.int .i64 (I64 num_2.1)), (.ref 2 1 0 (List.length s_6.2) none), (.bool (ByteArray.toList y_3 == ByteArray.toList (ByteArray.mk #[49]))), (.int .i64 s_17.2), .nils], .arr 1 (flat (avI .u8) s_6.2)]) rfl rfl rfl ?_
          refine E_mv (v' := (.bool s_17.1)) rfl ?_
          refine E_mv (v' := (.bool s_17.1)) rfl ?_
          refine E_gsT (b := s_17.1) rfl rfl rfl (fun hb => ?_) (fun hb => ?_)
          · rw [ite_t hb] at h
            refine E_mv (v' := (.sl false 1 (List.map avS w_00))) rfl ?_
            refine E_gh rfl ?_
            obtain ⟨y_21, hy_21, h⟩ := bd_some h
            refine E_iadF rfl rfl hy_21 ?_
            refine E_gh rfl ?_
            refine E_op0 (v' := (.str y_21)) rfl rfl ?_
            refine E_gh rfl ?_
            refine E_op0 (v' := (.bool (ByteArray.toList y_21 == ByteArray.toList (ByteArray.mk #[48])))) rfl rfl ?_
            refine E_gh rfl ?_
            refine E_mv (v' := (.bool (ByteArray.toList y_21 == ByteArray.toList (ByteArray.mk #[48])))) rfl ?_
            refine E_gsT (b := (ByteArray.toList y_21 == ByteArray.toList (ByteArray.mk #[48]))) rfl rfl rfl (fun hb => ?_) (fun hb => ?_)
            · rw [ite_f hb] at h
              refine E_mv (v' := (.sl false 1 (List.map avS w_00))) rfl ?_
              refine E_gh rfl ?_
              refine E_iadF rfl rfl hy_21 ?_
              refine E_gh rfl ?_
              refine E_op0 (v' := (.str y_21)) rfl rfl ?_
              refine E_gh rfl ?_
              refine E_op0 (v' := (.bool (ByteArray.toList y_21 == ByteArray.toList (ByteArray.mk #[49])))) rfl rfl ?_
              refine E_gh rfl ?_
              refine E_pf rfl rfl ?_
              refine E_pt rfl rfl ?_
              refine E_do (S' := [.arr 0 [(.int .i64 (I64 num_2.1)), (.ref 2 1 0 (List.length s_6.2) none), (.bool (ByteArray.toList y_3 == ByteArray.toList (ByteArray.mk #[49]))), (.int .i64 s_17.2), .nils], .arr 0 [(.int .i64 (I64 num_2.1)), (.ref 2 1 0 (List.length s_6.2) none), (.bool (ByteArray.toList y_3 == ByteArray.toList (ByteArray.mk #[49]))), (.int .i64 s_17.2), .nils], .arr 1 (flat (avI .u8) s_6.2)]) rfl rfl ?_
              refine E_mv (v' := (.bool (ByteArray.toList y_21 == ByteArray.toList (ByteArray.mk #[49])))) rfl ?_
              refine E_nil ?_
              refine And.intro (by simp [okLog, nthL, okPair, hp, fpOf]) ?_
              exact E_jx _ h (wk_rn [some (0, 0), some (2, 0)] rfl (Nat.le_of_ble_eq_true rfl) ⟨(rn_ob rfl rfl (.cons (rn_b rfl) (.cons (rn_refL (encI .u8) rfl rfl rfl) (.cons (rn_b rfl) (.cons (rn_b rfl) (.cons (rn_b rfl) (.nil (Nat.zero_le _))))))) rfl), (rn_ob rfl rfl (.refl ((encI .u8).blwf 0 _)) rfl), trivial⟩ ⟨(rn_ptr rfl rfl rfl rfl), (rn_b rfl), trivial⟩)
            · rw [ite_t hb] at h
              refine E_gm rfl ?_
              refine E_gm rfl ?_
              refine E_gm rfl ?_
              refine E_gh rfl ?_
              refine E_pt rfl rfl ?_
              refine E_pt rfl rfl ?_
              refine E_do (S' := [.arr 0 [(.int .i64 (I64 num_2.1)), (.ref 2 1 0 (List.length s_6.2) none), (.bool (ByteArray.toList y_3 == ByteArray.toList (ByteArray.mk #[49]))), (.int .i64 s_17.2), .nils], .arr 0 [(.int .i64 (I64 num_2.1)), (.ref 2 1 0 (List.length s_6.2) none), (.bool (ByteArray.toList y_3 == ByteArray.toList (ByteArray.mk #[49]))), (.int .i64 s_17.2), .nils], .arr 1 (flat (avI .u8) s_6.2)]) rfl rfl ?_
              refine E_mv (v' := (.bool true)) rfl ?_
              refine E_nil ?_
              refine And.intro (by simp [okLog, nthL, okPair, hp, fpOf]) ?_
              exact E_jx _ h (wk_rn [some (0, 0), some (2, 0)] rfl (Nat.le_of_ble_eq_true rfl) ⟨(rn_ob rfl rfl (.cons (rn_b rfl) (.cons (rn_refL (encI .u8) rfl rfl rfl) (.cons (rn_b rfl) (.cons (rn_b rfl) (.cons (rn_b rfl) (.nil (Nat.zero_le _))))))) rfl), (rn_ob rfl rfl (.refl ((encI .u8).blwf 0 _)) rfl), trivial⟩ ⟨(rn_ptr rfl rfl rfl rfl), (rn_b rfl), trivial⟩)
          · rw [ite_f hb] at h
            refine E_gm rfl ?_
            refine E_gm rfl ?_
            refine E_gm rfl ?_
            refine E_gm rfl ?_
            refine E_gz rfl ?_
            refine E_gz rfl ?_
            refine E_gz rfl ?_
            refine E_gz rfl ?_
            refine E_gm rfl ?_
            refine E_pf rfl rfl ?_
            refine E_do (S' := [.arr 0 [(.int .i64 (I64 num_2.1)), (.ref 2 1 0 (List.length s_6.2) none), (.bool (ByteArray.toList y_3 == ByteArray.toList (ByteArray.mk #[49]))), (.int .i64 s_17.2), .nils], .arr 0 [(.int .i64 (I64 num_2.1)), (.ref 2 1 0 (List.length s_6.2) none), (.bool (ByteArray.toList y_3 == ByteArray.toList (ByteArray.mk #[49]))), (.int .i64 s_17.2), .nils], .arr 1 (flat (avI .u8) s_6.2)]) rfl rfl ?_
            refine E_mv (v' := (.bool false)) rfl ?_
            refine E_nil ?_
            refine And.intro (by simp [okLog, nthL, okPair, hp, fpOf]) ?_
            exact E_jx _ h (wk_rn [some (0, 0), some (2, 0)] rfl (Nat.le_of_ble_eq_true rfl) ⟨(rn_ob rfl rfl (.cons (rn_b rfl) (.cons (rn_refL (encI .u8) rfl rfl rfl) (.cons (rn_b rfl) (.cons (rn_b rfl) (.cons (rn_b rfl) (.nil (Nat.zero_le _))))))) rfl), (rn_ob rfl rfl (.refl ((encI .u8).blwf 0 _)) rfl), trivial⟩ ⟨(rn_ptr rfl rfl rfl rfl), (rn_b rfl), trivial⟩)
        · refine E_ret ?_
          cases h
          exact ⟨trivial, _, rfl, (fz_tup ⟨(fz_agg ⟨(fz_b rfl (.refl _)), (fz_ref (encI .u8) (Nat.zero_le _) rfl), (fz_b rfl (.refl _)), (fz_b rfl (.refl _)), (fz_b rfl (.refl _)), trivial⟩), (fz_b rfl (.refl _)), trivial⟩)⟩
def fc20 : FC := (.seq (.reg [⟨(some 2), none, .op (.new [.nils])⟩,
  ⟨(some 3), none, .op (.mv (.v (.int .i64 0)))⟩,
  ⟨(some 4), none, .op (.mv (.v (.int .i64 0)))⟩] [])
  (.seq (.reg [⟨(some 5), none, .op (.new [.nils])⟩] [])
  (.seq (.seq (.reg [⟨(some 13), none, .op (.mv (.t 0))⟩,
  ⟨(some 14), none, .call 47 [(.t 13), (.v (.str (ByteArray.mk #[10])))]⟩,
  ⟨(some 15), none, .op (.len .sl (.t 14))⟩,
  ⟨(some 16), none, .op (.mv (.v (.int .i64 0)))⟩] [])
  (.block 0 (.loop (.seq (.reg [⟨(some 17), none, .op (.bin .none .lss (.t 16) (.t 15))⟩] [])
  (.seq (.cond (.t 17)
  .skip
  (.exit 0))
  (.seq (.block 1 (.seq (.reg [⟨(some 18), none, .op (.mv (.t 16))⟩,
  ⟨(some 19), none, .op (.iad none none (.t 14) (.t 16))⟩,
  ⟨(some 20), none, .op (.load none (.t 19))⟩,
  ⟨(some 6), none, .op (.mv (.t 18))⟩,
  ⟨(some 7), none, .op (.mv (.t 20))⟩] [])
  (.seq (.reg [⟨(some 21), none, .op (.mv (.t 7))⟩,
  ⟨(some 22), none, .call 47 [(.t 21), (.v (.str (ByteArray.mk #[32])))]⟩,
  ⟨(some 23), none, .call 53 [(.t 22), (.v (.fn (.func 54) [] []))]⟩,
  ⟨(some 8), none, .op (.mv (.t 23))⟩] [])
  (.seq (.seq (.reg [⟨(some 24), none, .op (.mv (.t 8))⟩,
  ⟨(some 25), none, .op (.len .sl (.t 24))⟩,
  ⟨(some 26), none, .op (.bin .none .eql (.t 25) (.v (.int .i64 0)))⟩,
  ⟨(some 27), none, .op (.mv (.t 26))⟩,
  ⟨(some 28), some (27, false), .op (.mv (.t 8))⟩,
  ⟨(some 29), some (27, false), .op (.iad none none (.t 28) (.v (.int .i64 0)))⟩,
  ⟨(some 30), some (27, false), .op (.load none (.t 29))⟩,
  ⟨(some 31), some (27, false), .op (.idxs (.t 30) (.v (.int .i64 0)))⟩,
  ⟨(some 32), some (27, false), .op (.bin .none .eql (.t 31) (.v (.int .u8 35)))⟩,
  ⟨(some 33), none, .op (.pick (.t 27) (.v (.bool true)) (.t 32))⟩] [])
  (.cond (.t 33)
  (.exit 1)
  .skip))
  (.seq (.reg [⟨(some 9), none, .op (.mv (.v (.bool false)))⟩] [])
  (.seq (.seq (.reg [⟨(some 34), none, .op (.mv (.t 8))⟩,
  ⟨(some 35), none, .op (.iad none none (.t 34) (.v (.int .i64 0)))⟩,
  ⟨(some 36), none, .op (.load none (.t 35))⟩,
  ⟨(some 37), none, .op (.bin .none .eql (.t 36) (.v (.str (ByteArray.mk #[102, 117, 110, 99]))))⟩] [])
  (.cond (.t 37)
  (.seq (.reg [⟨(some 38), none, .op (.build [(.int .i64 0), .nils, (.bool false), (.int .i64 0), .nils] [])⟩,
  ⟨(some 10), none, .op (.new [(.int .i64 0), .nils, (.bool false), (.int .i64 0), .nils])⟩,
  ⟨none, none, .op (.store 5 (.t 10) (.t 38))⟩] [])
  (.seq (.reg [⟨(some 40), none, .op (.mv (.t 8))⟩,
  ⟨(some 41), none, .call 55 [(.t 40)]⟩,
  ⟨(some 39), none, .op (.mv (.t 41))⟩,
  ⟨(some 42), none, .op (.ext 0 (.t 39))⟩,
  ⟨(some 43), none, .op (.ext 1 (.t 39))⟩,
  ⟨none, none, .op (.store 5 (.t 10) (.t 42))⟩,
  ⟨(some 9), none, .op (.mv (.t 43))⟩] [])
  (.reg [⟨(some 44), none, .op (.fad 0 (.t 5))⟩,
  ⟨(some 45), none, .op (.load none (.t 44))⟩,
  ⟨(some 46), none, .op (.load (some 5) (.t 10))⟩,
  ⟨(some 47), none, .op (.bsl (some 5) [(.int .i64 0), .nils, (.bool false), (.int .i64 0), .nils] 1 [(0, 5, (.t 46))])⟩,
  ⟨(some 48), none, .op (.app (some 5) 72 (.t 45) (.t 47))⟩,
  ⟨(some 49), none, .op (.fad 0 (.t 5))⟩,
  ⟨none, none, .op (.store 1 (.t 49) (.t 48))⟩] [])))
  (.seq (.reg [⟨(some 50), none, .op (.fad 0 (.t 5))⟩,
  ⟨(some 51), none, .op (.load none (.t 50))⟩,
  ⟨(some 52), none, .op (.len .sl (.t 51))⟩,
  ⟨(some 53), none, .op (.bin .none .gtr (.t 52) (.v (.int .i64 0)))⟩] [])
  (.cond (.t 53)
  (.seq (.reg [⟨(some 54), none, .op (.build [(.int .u8 0), (.int .i64 0), (.int .u64 0)] [])⟩,
  ⟨(some 11), none, .op (.new [(.int .u8 0), (.int .i64 0), (.int .u64 0)])⟩,
  ⟨none, none, .op (.store 3 (.t 11) (.t 54))⟩] [])
  (.seq (.reg [⟨(some 56), none, .op (.mv (.t 8))⟩,
  ⟨(some 57), none, .call 56 [(.t 56)]⟩,
  ⟨(some 55), none, .op (.mv (.t 57))⟩,
  ⟨(some 58), none, .op (.ext 0 (.t 55))⟩,
  ⟨(some 59), none, .op (.ext 1 (.t 55))⟩,
  ⟨none, none, .op (.store 3 (.t 11) (.t 58))⟩,
  ⟨(some 9), none, .op (.mv (.t 59))⟩] [])
  (.seq (.reg [⟨(some 60), none, .op (.fad 0 (.t 5))⟩,
  ⟨(some 61), none, .op (.load none (.t 60))⟩,
  ⟨(some 62), none, .op (.fad 0 (.t 5))⟩,
  ⟨(some 63), none, .op (.load none (.t 62))⟩,
  ⟨(some 64), none, .op (.len .sl (.t 63))⟩,
  ⟨(some 65), none, .op (.bin .none .sub (.t 64) (.v (.int .i64 1)))⟩,
  ⟨(some 66), none, .op (.iad none (some 5) (.t 61) (.t 65))⟩,
  ⟨(some 12), none, .op (.mv (.t 66))⟩] [])
  (.reg [⟨(some 67), none, .op (.mv (.t 12))⟩,
  ⟨(some 68), none, .op (.mv (.t 12))⟩,
  ⟨(some 69), none, .op (.nchk (.t 68))⟩,
  ⟨(some 70), none, .op (.fad 4 (.t 69))⟩,
  ⟨(some 71), none, .op (.load none (.t 70))⟩,
  ⟨(some 72), none, .op (.load (some 3) (.t 11))⟩,
  ⟨(some 73), none, .op (.bsl (some 3) [(.int .u8 0), (.int .i64 0), (.int .u64 0)] 1 [(0, 3, (.t 72))])⟩,
  ⟨(some 74), none, .op (.app (some 3) 24 (.t 71) (.t 73))⟩,
  ⟨(some 75), none, .op (.nchk (.t 67))⟩,
  ⟨(some 76), none, .op (.fad 4 (.t 75))⟩,
  ⟨none, none, .op (.store 1 (.t 76) (.t 74))⟩] [(4, 6)]))))
  .skip))))
  (.seq (.reg [⟨(some 77), none, .op (.mv (.t 9))⟩,
  ⟨(some 78), none, .op (.un .not (.t 77))⟩] [])
  (.cond (.t 78)
  (.seq (.reg [⟨(some 79), none, .op (.build [.nils] [])⟩,
  ⟨(some 80), none, .op (.mv (.t 6))⟩,
  ⟨(some 81), none, .op (.bin .none .add (.t 80) (.v (.int .i64 1)))⟩,
  ⟨none, none, .op (.store 1 (.t 2) (.t 79))⟩,
  ⟨(some 3), none, .op (.mv (.t 81))⟩,
  ⟨(some 4), none, .op (.mv (.v (.int .i64 40)))⟩] [])
  .ret)
  .skip))))))))
  (.reg [⟨(some 82), none, .op (.bin .none .add (.t 16) (.v (.int .i64 1)))⟩,
  ⟨(some 16), none, .op (.mv (.t 82))⟩] [])))))))
  (.seq (.reg [⟨(some 83), none, .op (.load (some 1) (.t 5))⟩,
  ⟨none, none, .op (.store 1 (.t 2) (.t 83))⟩,
  ⟨(some 3), none, .op (.mv (.v (.int .i64 0)))⟩,
  ⟨(some 4), none, .op (.mv (.v (.int .i64 0)))⟩] [])
  .ret))))
theorem fn20 : Fn3 Tryd.prog 20 84 [(2, (some (some 1))), (3, none), (4, none)] fc20 := ⟨_, _, Tryd.func20, rfl, rfl, rfl, by kernel_rfl⟩
def text_Parse_s (text_00 : ByteArray) : Option (Program × Int × Int) :=
  ((strings_Split_s text_00 (ByteArray.mk #[10])).bind fun spl_1 => ((rng (fun (i_3 : Nat) (s_4 : ByteArray) (s_2 : (List Func)) => (((strings_Split_s s_4 (ByteArray.mk #[32])).bind fun wsp_6 => (delS wsp_6).bind fun spl_6 => (jp (fun (s_8 : Bool) => (if s_8 then (some (.nxt s_2)) else ((getI spl_6 0).bind fun y_11 => (jp (fun (s_13 : (Bool × (List Func))) => (if (!s_13.1) then (some (.ret (some ((Program.mk []), (I64 ((i_3 : Int) + 1)), 40)))) else (some (.nxt s_13.2)))) (fun k_12 => (if (ByteArray.toList y_11 == ByteArray.toList (ByteArray.mk #[102, 117, 110, 99])) then ((text_function_s spl_6).bind fun vfun_14 => ((pushF s_2 vfun_14.1).bind fun l_15 => (k_12 (vfun_14.2, l_15)))) else (if (decide ((List.length s_2 : Int) > 0)) then ((text_instruction_s spl_6).bind fun ins_16 => ((pushC s_2 ins_16.1).bind fun c_17 => (k_12 (ins_16.2, c_17)))) else (k_12 (false, s_2))))))))) (fun k_7 => (if ((List.length spl_6 : Int) == 0) then (k_7 true) else ((getI spl_6 0).bind fun y_9 => ((strI y_9 0).bind fun b_10 => (k_7 (b_10 == 35)))))))) : Option (Stp (List Func) (Option (Program × Int × Int))))) spl_1 []).bind (oc (fun (s_2 : (List Func)) => (some ((Program.mk s_2), 0, 0))))))
theorem text_Parse_ev {text_00 : ByteArray} {r : (Program × Int × Int)} (h : text_Parse_s text_00 = some r) : PureEv Tryd.prog 20 [(.str text_00)] (.tup [(Program.av r.1), (.int .i64 r.2.1), (.int .i64 r.2.2)]) := by
  unfold text_Parse_s at h
  refine PureEv_end mixed fn20 (by simp) [2, 5, 10, 11, 48] 6 ?_
  unfold fc20
  refine E_sq ?_
  refine E_reg ?_
  refine E_op (v' := .ptr 0 0 0) (S' := [.arr 0 [.nils]]) rfl rfl rfl ?_
  refine E_mv (v' := (.int .i64 0)) rfl ?_
  refine E_mv (v' := (.int .i64 0)) rfl ?_
  refine E_nil ?_
  refine E_nx ?_
  refine E_sq ?_
  refine E_reg ?_
  refine E_op (v' := .ptr 1 0 0) (S' := [.arr 0 [.nils], .arr 0 [.nils]]) rfl rfl rfl ?_
  refine E_nil ?_
  refine E_nx ?_
  refine E_as ?_
  refine E_sq ?_
  refine E_reg ?_
  refine E_mv (v' := (.str text_00)) rfl ?_
  obtain ⟨spl_1, hspl_1, h⟩ := bd_some h
  refine E_callW (strings_Split_ev  hspl_1) rfl ⟨(.refl _), (.refl _), trivial⟩ (blwL_of ⟨rfl, rfl, trivial⟩) (encS.blws 0) ?_
  refine E_len rfl ?_
  refine E_mv (v' := (.int .i64 0)) rfl ?_
  refine E_nil ?_
  refine E_nx ?_
  refine E_sq ?_
  refine E_rngO (fun s_2 => [(2, (.ptr 0 0 0)), (5, (.ptr 1 0 0)), (14, (.sl false 1 (List.map avS spl_1)))]) (fun s_2 => [.arr 0 [.nils], .arr 0 [(.ref 2 1 0 (List.length s_2) (some 5))], .arr 1 (fk Func.av 4 rF s_2), .arr 1 (flat Instr.av (lastL Func.Code s_2))]) h (by decide) (by decide) (fun _ => ⟨rfl, rfl, rfl, rfl⟩) (wk_rn [some (0, 0), some (1, 0), none, none] rfl (Nat.le_of_ble_eq_true rfl) ⟨(rn_ob rfl rfl (.cons (rn_b rfl) (.nil (Nat.zero_le _))) rfl), (rn_ob rfl rfl (.cons (rn_nil rfl) (.nil (Nat.zero_le _))) rfl), (rn_obN rfl rfl rfl), (rn_obN rfl rfl rfl), trivial⟩ ⟨(rn_b rfl), (rn_b rfl), (rn_ptr rfl rfl rfl rfl), (rn_ptr rfl rfl rfl rfl), (rn_b (encS.blws 0)), trivial⟩) (fun i_3 s_4 s_2 c hx_5 hlt h => ?_) (fun s_2 fr' S' h hw => ?_)
  · refine E_sq ?_
    refine E_reg ?_
    refine E_mv (v' := (.int .i64 (i_3 : Int))) rfl ?_
    refine E_iadF rfl rfl (getI_of hx_5) ?_
    refine E_op0 (v' := (.str s_4)) rfl rfl ?_
    refine E_mv (v' := (.int .i64 (i_3 : Int))) rfl ?_
    refine E_mv (v' := (.str s_4)) rfl ?_
    refine E_nil ?_
    refine E_nx ?_
    refine E_sq ?_
    refine E_reg ?_
    refine E_mv (v' := (.str s_4)) rfl ?_
    obtain ⟨wsp_6, hwsp_6, h⟩ := bd_some h
    obtain ⟨spl_6, hspl_6, h⟩ := bd_some h
    obtain ⟨hwd_6, rfl⟩ := delS_some hspl_6
    refine E_callF (S' := [.arr 0 [.nils], .arr 0 [(.ref 2 1 0 (List.length s_2) (some 5))], .arr 1 (fk Func.av 4 rF s_2), .arr 1 (flat Instr.av (lastL Func.Code s_2)), .arr 0 (flat avS wsp_6)]) (r' := (.ref 4 0 0 wsp_6.length none)) (strings_Split_o_ev hwsp_6) [] rfl rfl (by decide) rfl rfl trivial ⟨(fr_outN rfl rfl (.refl (encS.blwf 0 _)) rfl), trivial⟩ ⟨.inr rfl, .inr rfl, .inr rfl, .inr rfl, trivial⟩ rfl (.cons (rn_b rfl) (.cons (rn_b rfl) (.nil (Nat.zero_le _)))) (fo_ref rfl rfl rfl rfl) ?_
    refine E_callF (S' := [.arr 0 [.nils], .arr 0 [(.ref 2 1 0 (List.length s_2) (some 5))], .arr 1 (fk Func.av 4 rF s_2), .arr 1 (flat Instr.av (lastL Func.Code s_2)), .arr 1 (flat avS (delE wsp_6))]) (r' := (.ref 4 1 0 (delE wsp_6).length none)) (slices_DeleteFunc_0_ev (ver := 0) hwd_6.1 hwd_6.2) [4] rfl rfl (by decide) rfl rfl ⟨(fr_in rfl rfl (.refl (encS.blwf 0 _))), trivial⟩ ⟨(fr_out rfl rfl (.refl (encS.blwf 0 _)) rfl rfl), trivial⟩ ⟨.inr rfl, .inr rfl, .inr rfl, .inr rfl, .inl rfl, trivial⟩ rfl (.cons (fi_ref rfl rfl rfl rfl) (.cons (rn_b rfl) (.nil (Nat.zero_le _)))) (fo_ref rfl rfl rfl rfl) ?_
    refine E_mv (v' := (.ref 4 1 0 (delE wsp_6).length none)) rfl ?_
    refine E_nil ?_
    refine E_nxw (F := [(2, (.ptr 0 0 0)), (5, (.ptr 1 0 0)), (6, (.int .i64 (i_3 : Int))), (8, (.sl false 1 (List.map avS (delE wsp_6)))), (14, (.sl false 1 (List.map avS spl_1))), (15, (.int .i64 (List.length spl_1 : Int))), (16, (.int .i64 (i_3 : Int)))]) (T := [.arr 0 [.nils], .arr 0 [(.ref 2 1 0 (List.length s_2) (some 5))], .arr 1 (fk Func.av 4 rF s_2), .arr 1 (flat Instr.av (lastL Func.Code s_2))]) (wk_fz 4 6 rfl ⟨⟨rfl, fzL_id rfl⟩, ⟨rfl, fzL_id rfl⟩, ⟨rfl, fzL_id (fk_blw Func.enc (fun _ => rfl) _)⟩, ⟨rfl, fzL_id (Instr.enc.blwf 4 _)⟩, trivial⟩ ⟨(fz_b rfl (.refl _)), (fz_b rfl (.refl _)), (fz_b rfl (.refl _)), (fz_ref encS (Nat.le_of_ble_eq_true rfl) rfl), (fz_b (encS.blws 4) (.refl _)), (fz_b rfl (.refl _)), (fz_b rfl (.refl _)), trivial⟩) ?_
    refine E_as ?_
    refine E_jp h (fun s_8 => [(2, (.ptr 0 0 0)), (5, (.ptr 1 0 0)), (6, (.int .i64 (i_3 : Int))), (8, (.sl false 1 (List.map avS (delE wsp_6)))), (14, (.sl false 1 (List.map avS spl_1))), (15, (.int .i64 (List.length spl_1 : Int))), (16, (.int .i64 (i_3 : Int))), (33, (.bool s_8))]) (fun s_8 => [.arr 0 [.nils], .arr 0 [(.ref 2 1 0 (List.length s_2) (some 5))], .arr 1 (fk Func.av 4 rF s_2), .arr 1 (flat Instr.av (lastL Func.Code s_2))]) (fun k_7 h => ?_) (fun s_8 h => ?_)
    · refine E_reg ?_
      refine E_mv (v' := (.sl false 1 (List.map avS (delE wsp_6)))) rfl ?_
      refine E_len rfl ?_
      refine E_op0 (v' := (.bool ((List.length (delE wsp_6) : Int) == 0))) rfl rfl ?_
      refine E_mv (v' := (.bool ((List.length (delE wsp_6) : Int) == 0))) rfl ?_
      refine E_gsT (b := ((List.length (delE wsp_6) : Int) == 0)) rfl rfl rfl (fun hb => ?_) (fun hb => ?_)
      · rw [ite_f hb] at h
        refine E_mv (v' := (.sl false 1 (List.map avS (delE wsp_6)))) rfl ?_
        refine E_gh rfl ?_
        obtain ⟨y_9, hy_9, h⟩ := bd_some h
        refine E_iadF rfl rfl hy_9 ?_
        refine E_gh rfl ?_
        refine E_op0 (v' := (.str y_9)) rfl rfl ?_
        refine E_gh rfl ?_
        obtain ⟨b_10, hb_10, h⟩ := bd_some h
        refine E_idxS rfl rfl hb_10 ?_
        refine E_gh rfl ?_
        refine E_op0 (v' := (.bool (b_10 == 35))) rfl rfl ?_
        refine E_pf rfl rfl ?_
        refine E_nil ?_
        exact E_jx _ h (wk_rn [some (0, 0), some (1, 0), some (2, 0), some (3, 0)] rfl (Nat.le_of_ble_eq_true rfl) ⟨(rn_ob rfl rfl (.cons (rn_b rfl) (.nil (Nat.zero_le _))) rfl), (rn_ob rfl rfl (.cons (rn_refK Func.enc rfl rfl rfl rfl rfl) (.nil (Nat.zero_le _))) rfl), (rn_ob rfl rfl (rnl_fk Func.enc (fun _ _ hx => rn_kid Instr.enc hx rfl rfl rfl)) rfl), (rn_ob rfl rfl (.refl (Instr.enc.blwf 0 _)) rfl), trivial⟩ ⟨(rn_ptr rfl rfl rfl rfl), (rn_ptr rfl rfl rfl rfl), (rn_b rfl), (rn_b (encS.blws 0)), (rn_b (encS.blws 0)), (rn_b rfl), (rn_b rfl), (rn_b rfl), trivial⟩)
      · rw [ite_t hb] at h
        refine E_gm rfl ?_
        refine E_gm rfl ?_
        refine E_gm rfl ?_
        refine E_gm rfl ?_
        refine E_pt rfl rfl ?_
        refine E_nil ?_
        exact E_jx _ h (wk_rn [some (0, 0), some (1, 0), some (2, 0), some (3, 0)] rfl (Nat.le_of_ble_eq_true rfl) ⟨(rn_ob rfl rfl (.cons (rn_b rfl) (.nil (Nat.zero_le _))) rfl), (rn_ob rfl rfl (.cons (rn_refK Func.enc rfl rfl rfl rfl rfl) (.nil (Nat.zero_le _))) rfl), (rn_ob rfl rfl (rnl_fk Func.enc (fun _ _ hx => rn_kid Instr.enc hx rfl rfl rfl)) rfl), (rn_ob rfl rfl (.refl (Instr.enc.blwf 0 _)) rfl), trivial⟩ ⟨(rn_ptr rfl rfl rfl rfl), (rn_ptr rfl rfl rfl rfl), (rn_b rfl), (rn_b (encS.blws 0)), (rn_b (encS.blws 0)), (rn_b rfl), (rn_b rfl), (rn_b rfl), trivial⟩)
    · refine E_sq ?_
      refine E_cs (t := s_8) rfl (fun hb => ?_) (fun hb => ?_)
      · rw [ite_t hb] at h
        refine E_exit ?_
        refine E_the ?_
        cases h
        exact L_nx rfl rfl (wk_rn [some (0, 0), some (1, 0), some (2, 0), some (3, 0)] rfl (Nat.le_of_ble_eq_true rfl) ⟨(rn_ob rfl rfl (.cons (rn_b rfl) (.nil (Nat.zero_le _))) rfl), (rn_ob rfl rfl (.cons (rn_refK Func.enc rfl rfl rfl rfl rfl) (.nil (Nat.zero_le _))) rfl), (rn_ob rfl rfl (rnl_fk Func.enc (fun _ _ hx => rn_kid Instr.enc hx rfl rfl rfl)) rfl), (rn_ob rfl rfl (.refl (Instr.enc.blwf 0 _)) rfl), trivial⟩ ⟨(rn_b rfl), (rn_b rfl), (rn_ptr rfl rfl rfl rfl), (rn_ptr rfl rfl rfl rfl), (rn_b (encS.blws 0)), trivial⟩)
      · rw [ite_f hb] at h
        refine E_skip ?_
        refine E_nx ?_
        refine E_sq ?_
        refine E_reg ?_
        refine E_mv (v' := (.bool false)) rfl ?_
        refine E_nil ?_
        refine E_nx ?_
        refine E_as ?_
        refine E_sq ?_
        refine E_reg ?_
        refine E_mv (v' := (.sl false 1 (List.map avS (delE wsp_6)))) rfl ?_
        obtain ⟨y_11, hy_11, h⟩ := bd_some h
        refine E_iadF rfl rfl hy_11 ?_
        refine E_op0 (v' := (.str y_11)) rfl rfl ?_
        refine E_op0 (v' := (.bool (ByteArray.toList y_11 == ByteArray.toList (ByteArray.mk #[102, 117, 110, 99])))) rfl rfl ?_
        refine E_nil ?_
        refine E_nx ?_
        refine E_jp h (fun s_13 => [(2, (.ptr 0 0 0)), (5, (.ptr 1 0 0)), (6, (.int .i64 (i_3 : Int))), (9, (.bool s_13.1)), (14, (.sl false 1 (List.map avS spl_1))), (15, (.int .i64 (List.length spl_1 : Int))), (16, (.int .i64 (i_3 : Int)))]) (fun s_13 => [.arr 0 [.nils], .arr 0 [(.ref 2 1 0 (List.length s_13.2) (some 5))], .arr 1 (fk Func.av 4 rF s_13.2), .arr 1 (flat Instr.av (lastL Func.Code s_13.2))]) (fun k_12 h => ?_) (fun s_13 h => ?_)
        · refine E_cs (t := (ByteArray.toList y_11 == ByteArray.toList (ByteArray.mk #[102, 117, 110, 99]))) rfl (fun hb => ?_) (fun hb => ?_)
          · rw [ite_t hb] at h
            refine E_sq ?_
            refine E_reg ?_
            refine E_op0 (v' := (.agg [(.int .i64 0), .nils, (.bool false), (.int .i64 0), .nils])) rfl rfl ?_
            refine E_op (v' := .ptr 4 0 0) (S' := [.arr 0 [.nils], .arr 0 [(.ref 2 1 0 (List.length s_2) (some 5))], .arr 1 (fk Func.av 4 rF s_2), .arr 1 (flat Instr.av (lastL Func.Code s_2)), .arr 0 [(.int .i64 0), .nils, (.bool false), (.int .i64 0), .nils]]) rfl rfl rfl ?_
            refine E_do (S' := [.arr 0 [.nils], .arr 0 [(.ref 2 1 0 (List.length s_2) (some 5))], .arr 1 (fk Func.av 4 rF s_2), .arr 1 (flat Instr.av (lastL Func.Code s_2)), .arr 0 [(.int .i64 0), .nils, (.bool false), (.int .i64 0), .nils]]) rfl rfl ?_
            refine E_nil ?_
            refine E_nxw (F := [(2, (.ptr 0 0 0)), (5, (.ptr 1 0 0)), (6, (.int .i64 (i_3 : Int))), (8, (.sl false 1 (List.map avS (delE wsp_6)))), (14, (.sl false 1 (List.map avS spl_1))), (15, (.int .i64 (List.length spl_1 : Int))), (16, (.int .i64 (i_3 : Int))), (10, (.ptr 3 0 0))]) (T := [.arr 0 [.nils], .arr 0 [(.ref 2 1 0 (List.length (noN s_2)) (some 5))], .arr 1 (flat FB.av (noN s_2)), .arr 0 [(.int .i64 0), .nils, (.bool false), (.int .i64 0), .nils]]) (wk_trans (fr'' := [(2, (.ptr 0 0 0)), (5, (.ptr 1 0 0)), (6, (.int .i64 (i_3 : Int))), (8, (.sl false 1 (List.map avS (delE wsp_6)))), (14, (.sl false 1 (List.map avS spl_1))), (15, (.int .i64 (List.length spl_1 : Int))), (16, (.int .i64 (i_3 : Int))), (10, (.ptr 3 0 0))]) (S'' := [.arr 0 [.nils], .arr 0 [(.ref 2 1 0 (List.length (noN s_2)) (some 5))], .arr 1 (flat FB.av (noN s_2)), .arr 0 [(.int .i64 0), .nils, (.bool false), (.int .i64 0), .nils]]) (wk_rn (fr' := [(2, (.ptr 0 0 0)), (5, (.ptr 1 0 0)), (6, (.int .i64 (i_3 : Int))), (8, (.sl false 1 (List.map avS (delE wsp_6)))), (14, (.sl false 1 (List.map avS spl_1))), (15, (.int .i64 (List.length spl_1 : Int))), (16, (.int .i64 (i_3 : Int))), (10, (.ptr 3 0 0))]) (S' := [.arr 0 [.nils], .arr 0 [(.ref 2 1 0 (List.length s_2) (some 5))], .arr 1 (fk Func.av 4 rG s_2), .arr 0 [(.int .i64 0), .nils, (.bool false), (.int .i64 0), .nils], .arr 1 (flat Instr.av (lastL Func.Code s_2))]) [some (0, 0), some (1, 0), some (2, 0), some (4, 0), some (3, 0)] rfl (Nat.le_of_ble_eq_true rfl) ⟨(rn_ob rfl rfl (.cons (rn_b rfl) (.nil (Nat.zero_le _))) rfl), (rn_ob rfl rfl (.cons (rn_refK Func.enc rfl rfl rfl rfl rfl) (.nil (Nat.zero_le _))) rfl), (rn_ob rfl rfl (rnl_fk Func.enc (fun _ _ hx => rn_kid Instr.enc hx rfl rfl rfl)) rfl), (rn_ob rfl rfl (.refl (show blwL 0 _ = true from rfl)) rfl), (rn_ob rfl rfl (.refl (Instr.enc.blwf 0 _)) rfl), trivial⟩ ⟨(rn_ptr rfl rfl rfl rfl), (rn_ptr rfl rfl rfl rfl), (rn_b rfl), (rn_b (encS.blws 0)), (rn_b (encS.blws 0)), (rn_b rfl), (rn_b rfl), (rn_ptr rfl rfl rfl rfl), trivial⟩) (wk_fz 4 6 rfl ⟨⟨rfl, fzL_id rfl⟩, ⟨rfl, (by rw [noN_length]; exact fz_b rfl (.refl _)), trivial⟩, ⟨rfl, (by rw [flat_noN]; exact fzL_fk Func.enc (fun _ _ hx v hv => by cases hv; exact fz_kid Instr.enc hx (Nat.le_of_ble_eq_true rfl) rfl))⟩, ⟨rfl, fzL_id (show blwL 4 _ = true from rfl)⟩, trivial⟩ ⟨(fz_b rfl (.refl _)), (fz_b rfl (.refl _)), (fz_b rfl (.refl _)), (fz_b (encS.blws 4) (.refl _)), (fz_b (encS.blws 4) (.refl _)), (fz_b rfl (.refl _)), (fz_b rfl (.refl _)), (fz_b rfl (.refl _)), trivial⟩)) ?_
            refine E_sq ?_
            refine E_reg ?_
            refine E_mv (v' := (.sl false 1 (List.map avS (delE wsp_6)))) rfl ?_
            obtain ⟨vfun_14, hvfun_14, h⟩ := bd_some h
            refine E_callW (text_function_evN  hvfun_14) rfl ⟨(.refl _), trivial⟩ (blwL_of ⟨(encS.blws 0), trivial⟩) (tup_blw ⟨agg_blw ⟨rfl, (encI .u8).blws 0, rfl, rfl, rfl, trivial⟩, rfl, trivial⟩) ?_
            refine E_mv (v' := (.tup [(FB.av (vfun_14.1, true)), (.bool vfun_14.2)])) rfl ?_
            refine E_op0 (v' := (FB.av (vfun_14.1, true))) rfl rfl ?_
            refine E_op0 (v' := (.bool vfun_14.2)) rfl rfl ?_
            refine E_do (S' := [.arr 0 [.nils], .arr 0 [(.ref 2 1 0 (List.length (noN s_2)) (some 5))], .arr 1 (flat FB.av (noN s_2)), .arr 0 [(.int .i64 vfun_14.1.Params), (.sl false 1 (List.map (avI .u8) vfun_14.1.Locals)), (.bool vfun_14.1.Result), (.int .i64 vfun_14.1.Keep), .nils]]) rfl rfl ?_
            refine E_mv (v' := (.bool vfun_14.2)) rfl ?_
            refine E_nil ?_
            refine E_nx ?_
            refine E_reg ?_
            refine E_op0 (v' := (.ptr 1 0 0)) rfl rfl ?_
            refine E_op (v' := (.ref 2 1 0 (List.length (noN s_2)) (some 5))) (S' := [.arr 0 [.nils], .arr 0 [(.ref 2 1 0 (List.length (noN s_2)) (some 5))], .arr 1 (flat FB.av (noN s_2)), .arr 0 [(.int .i64 vfun_14.1.Params), (.sl false 1 (List.map (avI .u8) vfun_14.1.Locals)), (.bool vfun_14.1.Result), (.int .i64 vfun_14.1.Keep), .nils]]) rfl rfl rfl ?_
            refine E_opw (v' := (FB.av (vfun_14.1, true))) rfl (.aggL ⟨(.refl _), (.refl _), (.refl _), (.refl _), (.refl _), trivial⟩) rfl ?_
            refine E_opw (v' := (.sl true 5 (List.map FB.av [(vfun_14.1, true)]))) rfl (.refl _) rfl ?_
            obtain ⟨l_15, hl_15, h⟩ := bd_some h; obtain ⟨hcd, hbd, rfl⟩ := pushF_some hl_15
            refine E_appR (l := noN s_2) (m := [(vfun_14.1, true)]) (S' := [.arr 0 [.nils], .arr 0 [(.ref 2 1 0 (List.length (noN s_2)) (some 5))], .arr 2 (flat FB.av (noN s_2 ++ [(vfun_14.1, true)])), .arr 0 [(.int .i64 vfun_14.1.Params), (.sl false 1 (List.map (avI .u8) vfun_14.1.Locals)), (.bool vfun_14.1.Result), (.int .i64 vfun_14.1.Keep), .nils]]) FB.enc rfl (src_sl (f := FB.av) (esh := some 5) [(vfun_14.1, true)]) rfl (by rw [noN_length]; exact hbd) rfl ?_
            refine E_op0 (v' := (.ptr 1 0 0)) rfl rfl ?_
            refine E_do (S' := [.arr 0 [.nils], .arr 0 [(.ref 2 2 0 (List.length (noN s_2 ++ [(vfun_14.1, true)])) (some 5))], .arr 2 (flat FB.av (noN s_2 ++ [(vfun_14.1, true)])), .arr 0 [(.int .i64 vfun_14.1.Params), (.sl false 1 (List.map (avI .u8) vfun_14.1.Locals)), (.bool vfun_14.1.Result), (.int .i64 vfun_14.1.Keep), .nils]]) rfl rfl ?_
            refine E_nil ?_
            exact E_jx _ h (wk_rn [some (0, 0), some (1, 0), some (2, 0), none] rfl (Nat.le_of_ble_eq_true rfl) ⟨(rn_ob rfl rfl (.cons (rn_b rfl) (.nil (Nat.zero_le _))) rfl), (rn_ob rfl rfl (.cons (rn_refK Func.enc rfl rfl rfl rfl (by simp [noN_length])) (.nil (Nat.zero_le _))) rfl), (rn_ob rfl rfl (by rw [flat_push]; exact rnl_push Func.enc (by show RnV _ _ (.ref 3 1 0 _ _); rw [hcd]; exact rn_nil rfl)) rfl), (rn_obN rfl (by rw [lastL_snoc, hcd]; rfl) rfl), trivial⟩ ⟨(rn_ptr rfl rfl rfl rfl), (rn_ptr rfl rfl rfl rfl), (rn_b rfl), (rn_b rfl), (rn_b (encS.blws 0)), (rn_b rfl), (rn_b rfl), trivial⟩)
          · rw [ite_f hb] at h
            refine E_sq ?_
            refine E_reg ?_
            refine E_op0 (v' := (.ptr 1 0 0)) rfl rfl ?_
            refine E_op (v' := (.ref 2 1 0 (List.length s_2) (some 5))) (S' := [.arr 0 [.nils], .arr 0 [(.ref 2 1 0 (List.length s_2) (some 5))], .arr 1 (fk Func.av 4 rF s_2), .arr 1 (flat Instr.av (lastL Func.Code s_2))]) rfl rfl rfl ?_
            refine E_lenR rfl ?_
            refine E_op0 (v' := (.bool (decide ((List.length s_2 : Int) > 0)))) rfl rfl ?_
            refine E_nil ?_
            refine E_nx ?_
            refine E_cs (t := (decide ((List.length s_2 : Int) > 0))) rfl (fun hb => ?_) (fun hb => ?_)
            · rw [ite_t hb] at h
              refine E_sq ?_
              refine E_reg ?_
              refine E_opw (v' := (Instr.av (Instr.mk 0 0 0))) rfl (.aggL ⟨(.refl _), (.refl _), (.refl _), trivial⟩) rfl ?_
              refine E_op (v' := .ptr 4 0 0) (S' := [.arr 0 [.nils], .arr 0 [(.ref 2 1 0 (List.length s_2) (some 5))], .arr 1 (fk Func.av 4 rF s_2), .arr 1 (flat Instr.av (lastL Func.Code s_2)), .arr 0 [(.int .u8 0), (.int .i64 0), (.int .u64 0)]]) rfl rfl rfl ?_
              refine E_do (S' := [.arr 0 [.nils], .arr 0 [(.ref 2 1 0 (List.length s_2) (some 5))], .arr 1 (fk Func.av 4 rF s_2), .arr 1 (flat Instr.av (lastL Func.Code s_2)), .arr 0 [(.int .u8 0), (.int .i64 0), (.int .u64 0)]]) rfl rfl ?_
              refine E_nil ?_
              refine E_nx ?_
              refine E_sq ?_
              refine E_reg ?_
              refine E_mv (v' := (.sl false 1 (List.map avS (delE wsp_6)))) rfl ?_
              obtain ⟨ins_16, hins_16, h⟩ := bd_some h
              refine E_callW (text_instruction_ev  hins_16) rfl ⟨(.refl _), trivial⟩ (blwL_of ⟨(encS.blws 0), trivial⟩) (tup_blw ⟨(Instr.enc.blw _ 0), rfl, trivial⟩) ?_
              refine E_mv (v' := (.tup [(Instr.av ins_16.1), (.bool ins_16.2)])) rfl ?_
              refine E_op0 (v' := (Instr.av ins_16.1)) rfl rfl ?_
              refine E_op0 (v' := (.bool ins_16.2)) rfl rfl ?_
              refine E_do (S' := [.arr 0 [.nils], .arr 0 [(.ref 2 1 0 (List.length s_2) (some 5))], .arr 1 (fk Func.av 4 rF s_2), .arr 1 (flat Instr.av (lastL Func.Code s_2)), .arr 0 [(.int .u8 ins_16.1.Op), (.int .i64 ins_16.1.Arg), (.int .u64 ins_16.1.Imm)]]) rfl rfl ?_
              refine E_mv (v' := (.bool ins_16.2)) rfl ?_
              refine E_nil ?_
              refine E_nx ?_
              refine E_sq ?_
              obtain ⟨ys, hys, h⟩ := bd_some h
              obtain ⟨l, x, c, rfl, h66, hc, rfl⟩ := pushC_some hys
              refine E_reg ?_
              refine E_op0 (v' := (.ptr 1 0 0)) rfl rfl ?_
              refine E_op (v' := (.ref 2 1 0 (List.length (l ++ [x])) (some 5))) (S' := [.arr 0 [.nils], .arr 0 [(.ref 2 1 0 (List.length (l ++ [x])) (some 5))], .arr 1 (fk Func.av 4 rF (l ++ [x])), .arr 1 (flat Instr.av (lastL Func.Code (l ++ [x]))), .arr 0 [(.int .u8 ins_16.1.Op), (.int .i64 ins_16.1.Arg), (.int .u64 ins_16.1.Imm)]]) rfl rfl rfl ?_
              refine E_op0 (v' := (.ptr 1 0 0)) rfl rfl ?_
              refine E_op (v' := (.ref 2 1 0 (List.length (l ++ [x])) (some 5))) (S' := [.arr 0 [.nils], .arr 0 [(.ref 2 1 0 (List.length (l ++ [x])) (some 5))], .arr 1 (fk Func.av 4 rF (l ++ [x])), .arr 1 (flat Instr.av (lastL Func.Code (l ++ [x]))), .arr 0 [(.int .u8 ins_16.1.Op), (.int .i64 ins_16.1.Arg), (.int .u64 ins_16.1.Imm)]]) rfl rfl rfl ?_
              refine E_lenR rfl ?_
              refine E_op0 (v' := (.int .i64 (l.length : Int))) rfl (congrArg (AV.int .i64) h66) ?_
              refine E_iadR (n := (l.length : Int)) rfl rfl ⟨by omega, by simp; omega⟩ ?_
              refine E_mv (v' := (.ptr 2 1 (0 + Int.toNat (l.length : Int) * szOf (some 5)))) rfl ?_
              refine E_nil ?_
              refine E_nx ?_
              refine E_regp ?_
              refine E_mv (v' := (.ptr 2 1 (0 + Int.toNat (l.length : Int) * szOf (some 5)))) rfl ?_
              refine E_mv (v' := (.ptr 2 1 (0 + Int.toNat (l.length : Int) * szOf (some 5)))) rfl ?_
              refine E_op0 (v' := (.ptr 2 1 (0 + Int.toNat (l.length : Int) * szOf (some 5)))) rfl rfl ?_
              refine E_op0 (v' := (.ptr 2 1 (0 + Int.toNat (l.length : Int) * szOf (some 5) + 4))) rfl rfl ?_
              refine E_ldV rfl rfl (fk_part Func.enc (by decide) (hxe rfl)) ?_
              refine E_opw (v' := (Instr.av ins_16.1)) rfl (.aggL ⟨(.refl _), (.refl _), (.refl _), trivial⟩) rfl ?_
              refine E_opw (v' := (.sl true 3 (List.map Instr.av [ins_16.1]))) rfl (.refl _) rfl ?_
              refine E_apL (l := x.Code) (S' := [.arr 0 [.nils], .arr 0 [(.ref 2 1 0 (List.length (l ++ [x])) (some 5))], .arr 1 (fk Func.av 4 rF (l ++ [x])), .arr 2 (flat Instr.av c), .arr 0 [(.int .u8 ins_16.1.Op), (.int .i64 ins_16.1.Arg), (.int .u64 ins_16.1.Imm)]]) Instr.enc rfl (src_sl [ins_16.1]) (congrArg (fun c => Ob.arr 1 (flat Instr.av c)) lastL_snoc) hc rfl ?_
              refine E_op0 (v' := (.ptr 2 1 (0 + Int.toNat (l.length : Int) * szOf (some 5)))) rfl rfl ?_
              refine E_op0 (v' := (.ptr 2 1 (0 + Int.toNat (l.length : Int) * szOf (some 5) + 4))) rfl rfl ?_
              refine E_stV (S' := [.arr 0 [.nils], .arr 0 [(.ref 2 1 0 (List.length (l ++ [x])) (some 5))], .arr 1 (flat Func.av l ++ (Func.av x).cells.set 4 (.ref 3 2 0 (List.length c) (some 3))), .arr 2 (flat Instr.av c), .arr 0 [(.int .u8 ins_16.1.Op), (.int .i64 ins_16.1.Arg), (.int .u64 ins_16.1.Imm)]]) rfl rfl rfl rfl rfl (by rw [fk_len Func.enc]; simp [szOf]; omega) (congrArg (fun q => ([.arr 0 [.nils], .arr 0 [(.ref 2 1 0 (List.length (l ++ [x])) (some 5))], .arr 1 q, .arr 2 (flat Instr.av c), .arr 0 [(.int .u8 ins_16.1.Op), (.int .i64 ins_16.1.Arg), (.int .u64 ins_16.1.Imm)]] : List Ob)) (fk_splice Func.enc (hxe rfl))) ?_
              refine E_nil ?_
              refine And.intro (by simp [okLog, nthL, okPair, hp, fpOf]) ?_
              exact E_jx _ h (wk_rn [some (0, 0), some (1, 0), some (2, 0), some (3, 0)] rfl (Nat.le_of_ble_eq_true rfl) ⟨(rn_ob rfl rfl (.cons (rn_b rfl) (.nil (Nat.zero_le _))) rfl), (rn_ob rfl rfl (.cons (rn_refK Func.enc rfl rfl rfl rfl (by simp)) (.nil (Nat.zero_le _))) rfl), (rn_ob rfl rfl (rnl_write Func.enc (fun _ => rfl) (rn_refL Instr.enc rfl rfl (congrArg (fun c => Ob.arr 1 (flat Instr.av c)) lastL_snoc))) rfl), (rn_ob rfl rfl (rnl_eq Instr.enc (lastL_snoc (L := Func.Code) (l := l) (x := ⟨x.Params, x.Locals, x.Result, x.Keep, c⟩)).symm) rfl), trivial⟩ ⟨(rn_ptr rfl rfl rfl rfl), (rn_ptr rfl rfl rfl rfl), (rn_b rfl), (rn_b rfl), (rn_b (encS.blws 0)), (rn_b rfl), (rn_b rfl), trivial⟩)
            · rw [ite_f hb] at h
              refine E_skip ?_
              exact E_jx _ h (wk_rn [some (0, 0), some (1, 0), some (2, 0), some (3, 0)] rfl (Nat.le_of_ble_eq_true rfl) ⟨(rn_ob rfl rfl (.cons (rn_b rfl) (.nil (Nat.zero_le _))) rfl), (rn_ob rfl rfl (.cons (rn_refK Func.enc rfl rfl rfl rfl rfl) (.nil (Nat.zero_le _))) rfl), (rn_ob rfl rfl (rnl_fk Func.enc (fun _ _ hx => rn_kid Instr.enc hx rfl rfl rfl)) rfl), (rn_ob rfl rfl (.refl (Instr.enc.blwf 0 _)) rfl), trivial⟩ ⟨(rn_ptr rfl rfl rfl rfl), (rn_ptr rfl rfl rfl rfl), (rn_b rfl), (rn_b rfl), (rn_b (encS.blws 0)), (rn_b rfl), (rn_b rfl), trivial⟩)
        · refine E_sq ?_
          refine E_reg ?_
          refine E_mv (v' := (.bool s_13.1)) rfl ?_
          refine E_op0 (v' := (.bool (!s_13.1))) rfl rfl ?_
          refine E_nil ?_
          refine E_nx ?_
          refine E_cs (t := (!s_13.1)) rfl (fun hb => ?_) (fun hb => ?_)
          · rw [ite_t hb] at h
            refine E_sq ?_
            refine E_reg ?_
            refine E_op0 (v' := (.agg [.nils])) rfl rfl ?_
            refine E_mv (v' := (.int .i64 (i_3 : Int))) rfl ?_
            refine E_op0 (v' := (.int .i64 (I64 ((i_3 : Int) + 1)))) rfl rfl ?_
            refine E_do (S' := [.arr 0 [.nils], .arr 0 [(.ref 2 1 0 (List.length s_13.2) (some 5))], .arr 1 (fk Func.av 4 rF s_13.2), .arr 1 (flat Instr.av (lastL Func.Code s_13.2))]) rfl rfl ?_
            refine E_mv (v' := (.int .i64 (I64 ((i_3 : Int) + 1)))) rfl ?_
            refine E_mv (v' := (.int .i64 40)) rfl ?_
            refine E_nil ?_
            refine E_nx ?_
            refine E_ret ?_
            cases h
            refine L_rrO rfl (fun h => ?_)
            refine E_thr ?_
            cases h
            exact ⟨trivial, _, rfl, (fz_tup ⟨(fz_agg ⟨(fz_b rfl .nil), trivial⟩), (fz_b rfl (.refl _)), (fz_b rfl (.refl _)), trivial⟩)⟩
          · rw [ite_f hb] at h
            refine E_skip ?_
            cases h
            exact L_nn rfl (wk_rn [some (0, 0), some (1, 0), some (2, 0), some (3, 0)] rfl (Nat.le_of_ble_eq_true rfl) ⟨(rn_ob rfl rfl (.cons (rn_b rfl) (.nil (Nat.zero_le _))) rfl), (rn_ob rfl rfl (.cons (rn_refK Func.enc rfl rfl rfl rfl rfl) (.nil (Nat.zero_le _))) rfl), (rn_ob rfl rfl (rnl_fk Func.enc (fun _ _ hx => rn_kid Instr.enc hx rfl rfl rfl)) rfl), (rn_ob rfl rfl (.refl (Instr.enc.blwf 0 _)) rfl), trivial⟩ ⟨(rn_b rfl), (rn_b rfl), (rn_ptr rfl rfl rfl rfl), (rn_ptr rfl rfl rfl rfl), (rn_b (encS.blws 0)), trivial⟩)
  · refine X_nx (wk_trans hw (wk_fz (fr' := [(2, (.ptr 0 0 0)), (5, (.ptr 1 0 0))]) (S' := [.arr 0 [.nils], .arr 0 [(.ref 2 1 0 (List.length s_2) (some 5))], .arr 1 (flat Func.av s_2)]) 3 6 rfl ⟨⟨rfl, fzL_id rfl⟩, ⟨rfl, fzL_id rfl⟩, ⟨rfl, (fzL_fk Func.enc (fun _ _ hx v hv => by cases hv; exact fz_kid Instr.enc hx (Nat.le_of_ble_eq_true rfl) rfl))⟩, trivial⟩ ⟨(fz_b rfl (.refl _)), (fz_b rfl (.refl _)), trivial⟩)) ?_
    refine E_sq ?_
    refine E_reg ?_
    refine E_op (v' := (.agg [(.ref 2 1 0 (List.length s_2) (some 5))])) (S' := [.arr 0 [.nils], .arr 0 [(.ref 2 1 0 (List.length s_2) (some 5))], .arr 1 (flat Func.av s_2)]) rfl rfl rfl ?_
    refine E_do (S' := [.arr 0 [(.ref 2 1 0 (List.length s_2) (some 5))], .arr 0 [(.ref 2 1 0 (List.length s_2) (some 5))], .arr 1 (flat Func.av s_2)]) rfl rfl ?_
    refine E_mv (v' := (.int .i64 0)) rfl ?_
    refine E_mv (v' := (.int .i64 0)) rfl ?_
    refine E_nil ?_
    refine E_nx ?_
    refine E_ret ?_
    cases h
    exact ⟨trivial, _, rfl, (fz_tup ⟨(fz_agg ⟨(fz_ref Func.enc (Nat.zero_le _) rfl), trivial⟩), (fz_b rfl (.refl _)), (fz_b rfl (.refl _)), trivial⟩)⟩
end Go.Proofs.YtkfhljombjmdbaaDoor
/- text.Print: what it computes, and that it does. (Printed by mkQ.py.) -/
namespace Go.Proofs.YtkfhljombjmdbaaDoor
open Go Go.Ab Go.RowKit Go.Proofs
set_option maxRecDepth 20000
set_option maxHeartbeats 2000000
set_option linter.unusedVariables false
set_option linter.unusedSimpArgs false
def fc24 : FC := (.seq (.reg [⟨(some 1), none, .op (.box (.t 0))⟩,
  ⟨(some 2), none, .op (.mv (.v (.str (ByteArray.mk #[]))))⟩,
  ⟨(some 3), none, .op (.mv (.v (.int .i64 0)))⟩] [])
  (.seq (.seq (.reg [⟨(some 17), none, .op (.load (some 1) (.t 1))⟩,
  ⟨(some 18), none, .call 60 [(.t 17)]⟩,
  ⟨(some 16), none, .op (.mv (.t 18))⟩,
  ⟨(some 19), none, .op (.ext 0 (.t 16))⟩,
  ⟨(some 20), none, .op (.ext 1 (.t 16))⟩,
  ⟨(some 4), none, .op (.mv (.t 19))⟩,
  ⟨(some 5), none, .op (.mv (.t 20))⟩] [])
  (.seq (.reg [⟨(some 21), none, .op (.mv (.t 5))⟩,
  ⟨(some 22), none, .op (.bin .none .neq (.t 21) (.v (.int .i64 0)))⟩] [])
  (.cond (.t 22)
  (.seq (.reg [⟨(some 23), none, .op (.mv (.t 5))⟩,
  ⟨(some 2), none, .op (.mv (.v (.str (ByteArray.mk #[]))))⟩,
  ⟨(some 3), none, .op (.mv (.t 23))⟩] [])
  .ret)
  .skip)))
  (.seq (.reg [⟨(some 6), none, .op (.new [.nilp, .nils])⟩] [])
  (.seq (.seq (.reg [⟨(some 24), none, .op (.fad 0 (.t 1))⟩,
  ⟨(some 25), none, .op (.load none (.t 24))⟩,
  ⟨(some 26), none, .op (.len .sl (.t 25))⟩,
  ⟨(some 27), none, .op (.mv (.v (.int .i64 0)))⟩] [])
  (.block 0 (.loop (.seq (.reg [⟨(some 28), none, .op (.bin .none .lss (.t 27) (.t 26))⟩] [])
  (.seq (.cond (.t 28)
  .skip
  (.exit 0))
  (.seq (.block 1 (.seq (.reg [⟨(some 29), none, .op (.iad none (some 5) (.t 25) (.t 27))⟩,
  ⟨(some 30), none, .op (.load (some 5) (.t 29))⟩,
  ⟨(some 8), none, .op (.new [(.int .i64 0), .nils, (.bool false), (.int .i64 0), .nils])⟩,
  ⟨none, none, .op (.store 5 (.t 8) (.t 30))⟩] [])
  (.seq (.reg [⟨(some 9), none, .op (.mv (.v (.str (ByteArray.mk #[]))))⟩,
  ⟨(some 10), none, .op (.mv (.v (.str (ByteArray.mk #[48]))))⟩,
  ⟨(some 11), none, .op (.mv (.v (.str (ByteArray.mk #[45]))))⟩] [])
  (.seq (.seq (.reg [⟨(some 31), none, .op (.fad 1 (.t 8))⟩,
  ⟨(some 32), none, .op (.load none (.t 31))⟩,
  ⟨(some 33), none, .op (.len .sl (.t 32))⟩,
  ⟨(some 34), none, .op (.mv (.v (.int .i64 0)))⟩] [])
  (.block 2 (.loop (.seq (.reg [⟨(some 35), none, .op (.bin .none .lss (.t 34) (.t 33))⟩] [])
  (.seq (.cond (.t 35)
  .skip
  (.exit 2))
  (.seq (.block 3 (.seq (.reg [⟨(some 36), none, .op (.iad none none (.t 32) (.t 34))⟩,
  ⟨(some 37), none, .op (.load none (.t 36))⟩,
  ⟨(some 13), none, .op (.mv (.t 37))⟩] [])
  (.reg [⟨(some 38), none, .op (.mv (.t 9))⟩,
  ⟨(some 39), none, .op (.bsl none [(.str (ByteArray.mk #[]))] 2 [(0, 1, (.v (.str (ByteArray.mk #[110])))), (1, 1, (.v (.str (ByteArray.mk #[112]))))])⟩,
  ⟨(some 40), none, .op (.mv (.t 13))⟩,
  ⟨(some 41), none, .op (.iad none none (.t 39) (.t 40))⟩,
  ⟨(some 42), none, .op (.load none (.t 41))⟩,
  ⟨(some 43), none, .op (.bin .none .add (.t 38) (.t 42))⟩,
  ⟨(some 9), none, .op (.mv (.t 43))⟩] [])))
  (.reg [⟨(some 44), none, .op (.bin .none .add (.t 34) (.v (.int .i64 1)))⟩,
  ⟨(some 34), none, .op (.mv (.t 44))⟩] [])))))))
  (.seq (.seq (.reg [⟨(some 45), none, .op (.mv (.t 9))⟩,
  ⟨(some 46), none, .op (.bin .none .eql (.t 45) (.v (.str (ByteArray.mk #[]))))⟩] [])
  (.cond (.t 46)
  (.reg [⟨(some 9), none, .op (.mv (.v (.str (ByteArray.mk #[45]))))⟩] [])
  .skip))
  (.seq (.seq (.reg [⟨(some 47), none, .op (.fad 2 (.t 8))⟩,
  ⟨(some 48), none, .op (.load none (.t 47))⟩] [])
  (.cond (.t 48)
  (.reg [⟨(some 10), none, .op (.mv (.v (.str (ByteArray.mk #[49]))))⟩] [])
  .skip))
  (.seq (.seq (.reg [⟨(some 49), none, .op (.fad 3 (.t 8))⟩,
  ⟨(some 50), none, .op (.load none (.t 49))⟩,
  ⟨(some 51), none, .op (.bin .none .geq (.t 50) (.v (.int .i64 0)))⟩] [])
  (.cond (.t 51)
  (.reg [⟨(some 52), none, .op (.fad 3 (.t 8))⟩,
  ⟨(some 53), none, .op (.load none (.t 52))⟩,
  ⟨(some 54), none, .call 61 [(.t 53)]⟩,
  ⟨(some 11), none, .op (.mv (.t 54))⟩] [])
  .skip))
  (.seq (.reg [⟨(some 55), none, .op (.fad 0 (.t 8))⟩,
  ⟨(some 56), none, .op (.load none (.t 55))⟩,
  ⟨(some 57), none, .call 61 [(.t 56)]⟩,
  ⟨(some 58), none, .op (.bin .none .add (.v (.str (ByteArray.mk #[102, 117, 110, 99, 32]))) (.t 57))⟩,
  ⟨(some 59), none, .op (.bin .none .add (.t 58) (.v (.str (ByteArray.mk #[32]))))⟩,
  ⟨(some 60), none, .op (.mv (.t 9))⟩,
  ⟨(some 61), none, .op (.bin .none .add (.t 59) (.t 60))⟩,
  ⟨(some 62), none, .op (.bin .none .add (.t 61) (.v (.str (ByteArray.mk #[32]))))⟩,
  ⟨(some 63), none, .op (.mv (.t 10))⟩,
  ⟨(some 64), none, .op (.bin .none .add (.t 62) (.t 63))⟩,
  ⟨(some 65), none, .op (.bin .none .add (.t 64) (.v (.str (ByteArray.mk #[32]))))⟩,
  ⟨(some 66), none, .op (.mv (.t 11))⟩,
  ⟨(some 67), none, .op (.bin .none .add (.t 65) (.t 66))⟩,
  ⟨(some 68), none, .op (.bin .none .add (.t 67) (.v (.str (ByteArray.mk #[10]))))⟩,
  ⟨(some 69), none, .call 62 [(.t 6), (.t 68)]⟩] [])
  (.seq (.reg [⟨(some 70), none, .op (.fad 4 (.t 8))⟩,
  ⟨(some 71), none, .op (.load none (.t 70))⟩,
  ⟨(some 72), none, .op (.len .sl (.t 71))⟩,
  ⟨(some 73), none, .op (.mv (.v (.int .i64 0)))⟩] [])
  (.block 4 (.loop (.seq (.reg [⟨(some 74), none, .op (.bin .none .lss (.t 73) (.t 72))⟩] [])
  (.seq (.cond (.t 74)
  .skip
  (.exit 4))
  (.seq (.block 5 (.seq (.reg [⟨(some 75), none, .op (.iad none (some 3) (.t 71) (.t 73))⟩,
  ⟨(some 76), none, .op (.load (some 3) (.t 75))⟩,
  ⟨(some 15), none, .op (.new [(.int .u8 0), (.int .i64 0), (.int .u64 0)])⟩,
  ⟨none, none, .op (.store 3 (.t 15) (.t 76))⟩] [])
  (.seq (.reg [⟨(some 77), none, .call 63 []⟩,
  ⟨(some 78), none, .op (.fad 0 (.t 15))⟩,
  ⟨(some 79), none, .op (.load none (.t 78))⟩,
  ⟨(some 80), none, .op (.bin .none .sub (.t 79) (.v (.int .u8 1)))⟩,
  ⟨(some 81), none, .op (.iad none none (.t 77) (.t 80))⟩,
  ⟨(some 82), none, .op (.load none (.t 81))⟩,
  ⟨(some 83), none, .call 62 [(.t 6), (.t 82)]⟩] [(0, 2)])
  (.seq (.seq (.reg [⟨(some 84), none, .op (.fad 0 (.t 15))⟩,
  ⟨(some 85), none, .op (.load none (.t 84))⟩,
  ⟨(some 86), none, .call 64 [(.t 85)]⟩,
  ⟨(some 87), none, .op (.bin .none .gtr (.t 86) (.v (.int .u64 0)))⟩] [])
  (.cond (.t 87)
  (.reg [⟨(some 88), none, .op (.fad 2 (.t 15))⟩,
  ⟨(some 89), none, .op (.load none (.t 88))⟩,
  ⟨(some 90), none, .op (.fad 1 (.t 15))⟩,
  ⟨(some 91), none, .op (.load none (.t 90))⟩,
  ⟨(some 92), none, .op (.cint .u64 (.t 91))⟩,
  ⟨(some 93), none, .op (.bin .none .add (.t 89) (.t 92))⟩,
  ⟨(some 94), none, .call 42 [(.t 93), (.v (.int .i64 10))]⟩,
  ⟨(some 95), none, .op (.bin .none .add (.v (.str (ByteArray.mk #[32]))) (.t 94))⟩,
  ⟨(some 96), none, .call 62 [(.t 6), (.t 95)]⟩] [])
  .skip))
  (.reg [⟨(some 97), none, .call 65 [(.t 6), (.v (.int .u8 10))]⟩] [])))))
  (.reg [⟨(some 98), none, .op (.bin .none .add (.t 73) (.v (.int .i64 1)))⟩,
  ⟨(some 73), none, .op (.mv (.t 98))⟩] [])))))))))))))))
  (.reg [⟨(some 99), none, .op (.bin .none .add (.t 27) (.v (.int .i64 1)))⟩,
  ⟨(some 27), none, .op (.mv (.t 99))⟩] [])))))))
  (.seq (.reg [⟨(some 100), none, .call 66 [(.t 6)]⟩,
  ⟨(some 2), none, .op (.mv (.t 100))⟩,
  ⟨(some 3), none, .op (.mv (.v (.int .i64 0)))⟩] [])
  .ret)))))
theorem fn24 : Fn3 Tryd.prog 24 101 [(2, none), (3, none)] fc24 := ⟨_, _, Tryd.func24, rfl, rfl, rfl, by kernel_rfl⟩
def text_head_s (f_4 : Func) : Option ByteArray :=
  ((rng (fun (i_7 : Nat) (k_8 : Int) (s_6 : ByteArray) => (((getI [(ByteArray.mk #[110]), (ByteArray.mk #[112])] k_8).bind fun y_10 => ((catS s_6 y_10).bind fun s_11 => (some (.nxt s_11)))) : Option (Stp ByteArray (Option ByteArray)))) f_4.Locals (ByteArray.mk #[])).bind (oc (fun (s_6 : ByteArray) => (jp (fun (s_13 : ByteArray) => (jp (fun (s_15 : ByteArray) => (jp (fun (s_17 : ByteArray) => ((strconv_Itoa_s f_4.Params).bind fun ito_19 => ((catS (ByteArray.mk #[102, 117, 110, 99, 32]) ito_19).bind fun s_20 => ((catS s_20 (ByteArray.mk #[32])).bind fun s_21 => ((catS s_21 s_13).bind fun s_22 => ((catS s_22 (ByteArray.mk #[32])).bind fun s_23 => ((catS s_23 s_15).bind fun s_24 => ((catS s_24 (ByteArray.mk #[32])).bind fun s_25 => ((catS s_25 s_17).bind fun s_26 => ((catS s_26 (ByteArray.mk #[10])).bind fun s_27 => (some s_27))))))))))) (fun k_16 => (if (decide (f_4.Keep ≥ 0)) then ((strconv_Itoa_s f_4.Keep).bind fun ito_18 => (k_16 ito_18)) else (k_16 (ByteArray.mk #[45])))))) (fun k_14 => (if f_4.Result then (k_14 (ByteArray.mk #[49])) else (k_14 (ByteArray.mk #[48])))))) (fun k_12 => (if (ByteArray.toList s_6 == ByteArray.toList (ByteArray.mk #[])) then (k_12 (ByteArray.mk #[45])) else (k_12 s_6)))))))
def text_line_s (i_30 : Instr) (a : List UInt8) : Option (List UInt8) :=
  text_names_s.bind fun nam_32 => (getI nam_32 (U8 (i_30.Op - 1))).bind fun y_33 => (wr a y_33.data.toList).bind fun a1 => (text_most_s i_30.Op).bind fun mos_34 =>
    (if (decide (mos_34 > 0)) then ((strconv_FormatUint_s (U64 (i_30.Imm + (U64 i_30.Arg))) 10).bind fun vfor_37 => ((catS (ByteArray.mk #[32]) vfor_37).bind fun s_38 => wr a1 s_38.data.toList)) else some a1).bind fun a2 => wr a2 [10]
def text_func_s (f_4 : Func) (a : List UInt8) : Option (List UInt8) :=
  (text_head_s f_4).bind fun s => (wr a s.data.toList).bind fun a1 => if f_4.Code.length ≤ 4611686018427387904 then foldA text_line_s f_4.Code a1 else none
def text_Print_s (p_00 : Program) : Option (ByteArray × Int) :=
  (code_Encode_s p_00).bind fun enc_1 => if (enc_1.2 != 0) then (some ((ByteArray.mk #[]), enc_1.2)) else
    (if p_00.Funcs.length ≤ 4611686018427387904 then foldA text_func_s p_00.Funcs [] else none).bind fun acc => some (⟨acc.toArray⟩, 0)
theorem ite_some {c : Prop} [Decidable c] {α : Type} {x : Option α} {r : α} (h : (if c then x else none) = some r) : c ∧ x = some r := by
  split at h
  · exact ⟨by assumption, h⟩
  · cases h
theorem vr_str {s : ByteArray} : ∀ (pm : Pm) (L : Nat → Ab.Loc) (σ : Hp) y, VR pm L σ (.str s) y → y = .string s := fun _ _ _ _ h => by cases h; rfl
theorem vr_int {k : IntKind} {n : Int} : ∀ (pm : Pm) (L : Nat → Ab.Loc) (σ : Hp) y, VR pm L σ (.int k n) y → y = .int k n := fun _ _ _ _ h => by cases h; rfl
theorem vr_two (n : Int) : ∀ (pm : Pm) (L : Nat → Ab.Loc) (σ : Hp), VR pm L σ (.tup [.int .i64 n, .nili]) (.tuple #[.int .i64 n, .nilIface]) := fun _ _ _ => .tup rfl (fun j h h' => by
  match j, h with
  | 0, _ => exact .int
  | 1, _ => exact .nili)
theorem ck24 : (Tryd.f24.body.map (bchk cx.P cx.n cx.bs cx.es cx.nw cx.T)) = some true := by kernel_rfl
theorem hck24 : ∀ fn c, cx.P.funcs[24]? = some fn → fn.body = some c → bchk cx.P cx.n cx.bs cx.es cx.nw cx.T c = true := by
  intro fn c hf hb
  have e : some fn = some Tryd.f24 := hf.symm.trans Tryd.func24
  cases e
  have := ck24
  rw [hb] at this
  simpa using this
theorem text_Print_ev {p_00 : Program} {r : (ByteArray × Int)} (h : text_Print_s p_00 = some r) : PureEv Tryd.prog 24 [(Program.av p_00)] (.tup [(.str r.1), (.int .i64 r.2)]) := by
  unfold text_Print_s at h
  refine PureEv_wp (X := cx) fn24 (Nat.le_of_ble_eq_true rfl) hck24 ?_
  intro c g0 a w hr hb hat
  unfold fc24 at hr
  obtain ⟨c0, cA, rfl, r0, rA⟩ := inv_seq hr
  obtain ⟨cB, cC, rfl, rB, rC⟩ := inv_seq rA
  obtain ⟨cN, cD, rfl, rN, rD⟩ := inv_seq rC
  obtain ⟨cL, cE, rfl, rL, rE⟩ := inv_seq rD
  simp only [bchk, Bool.and_eq_true] at hb
  obtain ⟨hb0, hbB, hbN, hbL, hbE⟩ := hb
  obtain ⟨enc_1, henc_1, h⟩ := bd_some h
  refine wp_seq (wp_mono (VC_wp cx.hm c0 _ r0 _ [] (fun e fr S => e = .normal ∧ S = [] ∧ Wk [] fr [] [(1, (.cptr (Program.av p_00).cells 0))] []) (VT_VC (ow := []) (fun _ _ _ h => h) ?_) a w hat) ?_)
  · refine E_reg ?_
    refine E_op0 (v' := (.cptr (Program.av p_00).cells 0)) rfl rfl ?_
    refine E_mv (v' := (.str (ByteArray.mk #[]))) rfl ?_
    refine E_mv (v' := (.int .i64 0)) rfl ?_
    refine E_nil ?_
    exact ⟨rfl, rfl, wk_aw ⟨.refl _, trivial⟩⟩
  rintro e a w ⟨fr, S, hat, rfl, rfl, hwk⟩
  replace hat := hwk _ _ _ _ hat
  refine wp_seq (wp_mono (VC_wp cx.hm cB _ rB _ [] (fun e fr S => (e = .normal ∧ S = [] ∧ (enc_1.2 != 0) = false ∧ Wk [] fr [] [(1, (.cptr (Program.av p_00).cells 0))] []) ∨ (e = .ret ∧ S = [] ∧ ∃ v, retV3 [] (Fr.get fr) [(2, none), (3, none)] = some v ∧ AVw v (.tup [(.str r.1), (.int .i64 r.2)]))) (VT_VC (ow := []) (fun _ _ _ h => h) ?_) a w hat) ?_)
  · refine E_sq ?_
    refine E_reg ?_
    refine E_op0 (v' := (Program.av p_00)) rfl rfl ?_
    refine E_callW (code_Encode_ev  henc_1) rfl ⟨(.refl _), trivial⟩ (blwL_of ⟨(Program.enc.blw _ 0), trivial⟩) (tup_blw ⟨((encI .u8).blws 0), rfl, trivial⟩) ?_
    refine E_mv (v' := (.tup [(.sl false 1 (List.map (avI .u8) enc_1.1)), (.int .i64 enc_1.2)])) rfl ?_
    refine E_op0 (v' := (.sl false 1 (List.map (avI .u8) enc_1.1))) rfl rfl ?_
    refine E_op0 (v' := (.int .i64 enc_1.2)) rfl rfl ?_
    refine E_mv (v' := (.sl false 1 (List.map (avI .u8) enc_1.1))) rfl ?_
    refine E_mv (v' := (.int .i64 enc_1.2)) rfl ?_
    refine E_nil ?_
    refine E_nx ?_
    refine E_sq ?_
    refine E_reg ?_
    refine E_mv (v' := (.int .i64 enc_1.2)) rfl ?_
    refine E_op0 (v' := (.bool (enc_1.2 != 0))) rfl rfl ?_
    refine E_nil ?_
    refine E_nx ?_
    refine E_cs (t := (enc_1.2 != 0)) rfl (fun hb => ?_) (fun hb => ?_)
    · rw [ite_t hb] at h
      refine E_sq ?_
      refine E_reg ?_
      refine E_mv (v' := (.int .i64 enc_1.2)) rfl ?_
      refine E_mv (v' := (.str (ByteArray.mk #[]))) rfl ?_
      refine E_mv (v' := (.int .i64 enc_1.2)) rfl ?_
      refine E_nil ?_
      refine E_nx ?_
      refine E_ret ?_
      cases h
      exact .inr ⟨rfl, rfl, _, rfl, .refl _⟩
    · refine E_skip ?_
      exact .inl ⟨rfl, rfl, hb, wk_aw ⟨.refl _, trivial⟩⟩
  rintro e a w ⟨fr, S, hat, hk⟩
  rcases hk with ⟨rfl, rfl, he0, hwk⟩ | ⟨rfl, rfl, hret⟩
  case inr => exact ⟨fr, [], hat, trivial, rfl, hret⟩
  replace hat := hwk _ _ _ _ hat
  rw [ite_f he0] at h
  obtain ⟨acc1, hacc, h⟩ := bd_some h
  obtain ⟨hlen, hfold⟩ := ite_some hacc
  cases h
  refine wp_seq (new_wp (X := cx) Tryd.zeroValue126 rN hbN hat (fun N0 a w he hat => ?_))
  refine wp_seq (wp_mono (?_ : cL.wp cx.P (fun e' a' w' => ∃ fr' acc', AtS cx.T cx.e g0 N0 cx.n fr' acc' a' w' ∧ (fun e fr acc => e = Exit.normal ∧ acc = acc1 ∧ Wk OB fr OB [(6, (.ptr 0 0 0))] OB) e' fr' acc') a w) ?_)
  case refine_2 =>
    rintro e a w ⟨fr, acc, hat, rfl, rfl, hwk⟩
    refine end_wp (ow := []) he se_str rE hbE (hat.wk he hwk) rfl ?_
    refine E_sq ?_
    refine E_reg ?_
    refine E_mv (v' := (.str ⟨acc.toArray⟩)) rfl ?_
    refine E_mv (v' := (.int .i64 0)) rfl ?_
    refine E_nil ?_
    refine E_nx ?_
    refine E_ret ?_
    exact ⟨trivial, rfl, _, rfl, .refl _⟩
  refine (?_ : SC cx g0 N0 _ _ _ _) cL rL hbL a w hat
  refine S_seq (S_pure he (ow := []) ?_)
  refine E_reg ?_
  refine E_op0 (v' := (.cptr (Program.av p_00).cells 0)) rfl rfl ?_
  refine E_op0 (v' := (.sl false 5 (List.map Func.av p_00.Funcs))) rfl rfl ?_
  refine E_len rfl ?_
  refine E_mv (v' := (.int .i64 0)) rfl ?_
  refine E_nil ?_
  refine ⟨rfl, ?_⟩
  show SC cx g0 N0 _ _ _ _
  refine S_rng he hlen hfold [(6, (.ptr 0 0 0)), (25, (.sl false 5 (List.map Func.av p_00.Funcs)))] (by decide) (by decide) ⟨rfl, rfl, rfl, rfl⟩ (wk_aw ⟨.refl _, .refl _, .refl _, .refl _, trivial⟩) (fun i_3 f_4 b b' hx_5 hlt h => ?_) (fun fr' hw => ⟨rfl, rfl, wk_trans hw (wk_aw ⟨.refl _, trivial⟩)⟩)
  obtain ⟨s_h, hs_h, h⟩ := bd_some h
  obtain ⟨b1, hb1, hcode⟩ := bd_some h
  obtain ⟨hcl, hcf⟩ := ite_some hcode
  clear h hcode
  obtain ⟨hbl, rfl⟩ := wr_some hb1
  refine S_pres he (ow := [8]) (ss := [_, _, _, _, _, _]) (rest := .seq _ (.seq _ _)) ?_
  · have h := hs_h
    unfold text_head_s at h
    refine E_sq ?_
    refine E_reg ?_
    refine E_iadF rfl rfl (getI_of hx_5) ?_
    refine E_op0 (v' := (Func.av f_4)) rfl rfl ?_
    refine E_op (v' := .ptr 1 0 0) (S' := [.arr 0 [], .arr 0 [(.int .i64 0), .nils, (.bool false), (.int .i64 0), .nils]]) rfl rfl rfl ?_
    refine E_do (S' := [.arr 0 [], .arr 0 [(.int .i64 f_4.Params), (.sl false 1 (List.map (avI .u8) f_4.Locals)), (.bool f_4.Result), (.int .i64 f_4.Keep), (.sl false 3 (List.map Instr.av f_4.Code))]]) rfl rfl ?_
    refine E_nil ?_
    refine E_nx ?_
    refine E_sq ?_
    refine E_reg ?_
    refine E_mv (v' := (.str (ByteArray.mk #[]))) rfl ?_
    refine E_mv (v' := (.str (ByteArray.mk #[48]))) rfl ?_
    refine E_mv (v' := (.str (ByteArray.mk #[45]))) rfl ?_
    refine E_nil ?_
    refine E_nx ?_
    refine E_as ?_
    refine E_sq ?_
    refine E_reg ?_
    refine E_op0 (v' := (.ptr 1 0 1)) rfl rfl ?_
    refine E_op (v' := (.sl false 1 (List.map (avI .u8) f_4.Locals))) (S' := [.arr 0 [], .arr 0 [(.int .i64 f_4.Params), (.sl false 1 (List.map (avI .u8) f_4.Locals)), (.bool f_4.Result), (.int .i64 f_4.Keep), (.sl false 3 (List.map Instr.av f_4.Code))]]) rfl rfl rfl ?_
    refine E_len rfl ?_
    refine E_mv (v' := (.int .i64 0)) rfl ?_
    refine E_nil ?_
    refine E_nx ?_
    refine E_sq ?_
    refine E_rngO (fun s_6 => [(6, (.ptr 0 0 0)), (8, (.ptr 1 0 0)), (9, (.str s_6)), (10, (.str (ByteArray.mk #[48]))), (11, (.str (ByteArray.mk #[45]))), (25, (.sl false 5 (List.map Func.av p_00.Funcs))), (26, (.int .i64 (List.length p_00.Funcs : Int))), (27, (.int .i64 (i_3 : Int))), (32, (.sl false 1 (List.map (avI .u8) f_4.Locals)))]) (fun s_6 => [.arr 0 [], .arr 0 [(.int .i64 f_4.Params), (.sl false 1 (List.map (avI .u8) f_4.Locals)), (.bool f_4.Result), (.int .i64 f_4.Keep), (.sl false 3 (List.map Instr.av f_4.Code))]]) h (by decide) (by decide) (fun _ => ⟨rfl, rfl, rfl, rfl⟩) (wk_rn [some (0, 0), some (1, 0)] rfl (Nat.le_of_ble_eq_true rfl) ⟨(rn_obS rfl rfl (.nil (Nat.zero_le _)) rfl), (rn_ob rfl rfl (.cons (rn_b rfl) (.cons (rn_b ((encI .u8).blws 0)) (.cons (rn_b rfl) (.cons (rn_b rfl) (.cons (rn_b (Instr.enc.blws 0)) (.nil (Nat.zero_le _))))))) rfl), trivial⟩ ⟨(rn_b rfl), (rn_b rfl), (rn_ptr rfl rfl rfl rfl), (rn_ptr rfl rfl rfl rfl), (rn_b rfl), (rn_b rfl), (rn_b rfl), (rn_b (Func.enc.blws 0)), (rn_b rfl), (rn_b rfl), (rn_b ((encI .u8).blws 0)), trivial⟩) (fun i_7 k_8 s_6 c hx_9 hlt h => ?_) (fun s_6 fr' S' h hw => ?_)
    · refine E_sq ?_
      refine E_reg ?_
      refine E_iadF rfl rfl (getI_of hx_9) ?_
      refine E_op0 (v' := (.int .u8 k_8)) rfl rfl ?_
      refine E_mv (v' := (.int .u8 k_8)) rfl ?_
      refine E_nil ?_
      refine E_nx ?_
      refine E_reg ?_
      refine E_mv (v' := (.str s_6)) rfl ?_
      refine E_opw (v' := (.sl true 1 (List.map avS [(ByteArray.mk #[110]), (ByteArray.mk #[112])]))) rfl (.refl _) rfl ?_
      refine E_mv (v' := (.int .u8 k_8)) rfl ?_
      obtain ⟨y_10, hy_10, h⟩ := bd_some h
      refine E_iadF rfl rfl hy_10 ?_
      refine E_op0 (v' := (.str y_10)) rfl rfl ?_
      obtain ⟨s_11, hs_11, h⟩ := bd_some h
      refine E_cat rfl rfl hs_11 ?_
      refine E_mv (v' := (.str s_11)) rfl ?_
      refine E_nil ?_
      cases h
      exact L_nn rfl (wk_rn [some (0, 0), some (1, 0)] rfl (Nat.le_of_ble_eq_true rfl) ⟨(rn_obS rfl rfl (.nil (Nat.zero_le _)) rfl), (rn_ob rfl rfl (.cons (rn_b rfl) (.cons (rn_b ((encI .u8).blws 0)) (.cons (rn_b rfl) (.cons (rn_b rfl) (.cons (rn_b (Instr.enc.blws 0)) (.nil (Nat.zero_le _))))))) rfl), trivial⟩ ⟨(rn_b rfl), (rn_b rfl), (rn_ptr rfl rfl rfl rfl), (rn_ptr rfl rfl rfl rfl), (rn_b rfl), (rn_b rfl), (rn_b rfl), (rn_b (Func.enc.blws 0)), (rn_b rfl), (rn_b rfl), (rn_b ((encI .u8).blws 0)), trivial⟩)
    · refine X_nx hw ?_
      refine E_as ?_
      refine E_sq ?_
      refine E_reg ?_
      refine E_mv (v' := (.str s_6)) rfl ?_
      refine E_op0 (v' := (.bool (ByteArray.toList s_6 == ByteArray.toList (ByteArray.mk #[])))) rfl rfl ?_
      refine E_nil ?_
      refine E_nx ?_
      refine E_jp h (fun s_13 => [(6, (.ptr 0 0 0)), (8, (.ptr 1 0 0)), (9, (.str s_13)), (10, (.str (ByteArray.mk #[48]))), (11, (.str (ByteArray.mk #[45]))), (25, (.sl false 5 (List.map Func.av p_00.Funcs))), (26, (.int .i64 (List.length p_00.Funcs : Int))), (27, (.int .i64 (i_3 : Int)))]) (fun s_13 => [.arr 0 [], .arr 0 [(.int .i64 f_4.Params), (.sl false 1 (List.map (avI .u8) f_4.Locals)), (.bool f_4.Result), (.int .i64 f_4.Keep), (.sl false 3 (List.map Instr.av f_4.Code))]]) (fun k_12 h => ?_) (fun s_13 h => ?_)
      · refine E_cs (t := (ByteArray.toList s_6 == ByteArray.toList (ByteArray.mk #[]))) rfl (fun hb => ?_) (fun hb => ?_)
        · rw [ite_t hb] at h
          refine E_reg ?_
          refine E_mv (v' := (.str (ByteArray.mk #[45]))) rfl ?_
          refine E_nil ?_
          exact E_jx _ h (wk_rn [some (0, 0), some (1, 0)] rfl (Nat.le_of_ble_eq_true rfl) ⟨(rn_obS rfl rfl (.nil (Nat.zero_le _)) rfl), (rn_ob rfl rfl (.cons (rn_b rfl) (.cons (rn_b ((encI .u8).blws 0)) (.cons (rn_b rfl) (.cons (rn_b rfl) (.cons (rn_b (Instr.enc.blws 0)) (.nil (Nat.zero_le _))))))) rfl), trivial⟩ ⟨(rn_ptr rfl rfl rfl rfl), (rn_ptr rfl rfl rfl rfl), (rn_b rfl), (rn_b rfl), (rn_b rfl), (rn_b (Func.enc.blws 0)), (rn_b rfl), (rn_b rfl), trivial⟩)
        · rw [ite_f hb] at h
          refine E_skip ?_
          exact E_jx _ h (wk_rn [some (0, 0), some (1, 0)] rfl (Nat.le_of_ble_eq_true rfl) ⟨(rn_obS rfl rfl (.nil (Nat.zero_le _)) rfl), (rn_ob rfl rfl (.cons (rn_b rfl) (.cons (rn_b ((encI .u8).blws 0)) (.cons (rn_b rfl) (.cons (rn_b rfl) (.cons (rn_b (Instr.enc.blws 0)) (.nil (Nat.zero_le _))))))) rfl), trivial⟩ ⟨(rn_ptr rfl rfl rfl rfl), (rn_ptr rfl rfl rfl rfl), (rn_b rfl), (rn_b rfl), (rn_b rfl), (rn_b (Func.enc.blws 0)), (rn_b rfl), (rn_b rfl), trivial⟩)
      · refine E_as ?_
        refine E_sq ?_
        refine E_reg ?_
        refine E_op0 (v' := (.ptr 1 0 2)) rfl rfl ?_
        refine E_op (v' := (.bool f_4.Result)) (S' := [.arr 0 [], .arr 0 [(.int .i64 f_4.Params), (.sl false 1 (List.map (avI .u8) f_4.Locals)), (.bool f_4.Result), (.int .i64 f_4.Keep), (.sl false 3 (List.map Instr.av f_4.Code))]]) rfl rfl rfl ?_
        refine E_nil ?_
        refine E_nx ?_
        refine E_jp h (fun s_15 => [(6, (.ptr 0 0 0)), (8, (.ptr 1 0 0)), (9, (.str s_13)), (10, (.str s_15)), (11, (.str (ByteArray.mk #[45]))), (25, (.sl false 5 (List.map Func.av p_00.Funcs))), (26, (.int .i64 (List.length p_00.Funcs : Int))), (27, (.int .i64 (i_3 : Int)))]) (fun s_15 => [.arr 0 [], .arr 0 [(.int .i64 f_4.Params), (.sl false 1 (List.map (avI .u8) f_4.Locals)), (.bool f_4.Result), (.int .i64 f_4.Keep), (.sl false 3 (List.map Instr.av f_4.Code))]]) (fun k_14 h => ?_) (fun s_15 h => ?_)
        · refine E_cs (t := f_4.Result) rfl (fun hb => ?_) (fun hb => ?_)
          · rw [ite_t hb] at h
            refine E_reg ?_
            refine E_mv (v' := (.str (ByteArray.mk #[49]))) rfl ?_
            refine E_nil ?_
            exact E_jx _ h (wk_rn [some (0, 0), some (1, 0)] rfl (Nat.le_of_ble_eq_true rfl) ⟨(rn_obS rfl rfl (.nil (Nat.zero_le _)) rfl), (rn_ob rfl rfl (.cons (rn_b rfl) (.cons (rn_b ((encI .u8).blws 0)) (.cons (rn_b rfl) (.cons (rn_b rfl) (.cons (rn_b (Instr.enc.blws 0)) (.nil (Nat.zero_le _))))))) rfl), trivial⟩ ⟨(rn_ptr rfl rfl rfl rfl), (rn_ptr rfl rfl rfl rfl), (rn_b rfl), (rn_b rfl), (rn_b rfl), (rn_b (Func.enc.blws 0)), (rn_b rfl), (rn_b rfl), trivial⟩)
          · rw [ite_f hb] at h
            refine E_skip ?_
            exact E_jx _ h (wk_rn [some (0, 0), some (1, 0)] rfl (Nat.le_of_ble_eq_true rfl) ⟨(rn_obS rfl rfl (.nil (Nat.zero_le _)) rfl), (rn_ob rfl rfl (.cons (rn_b rfl) (.cons (rn_b ((encI .u8).blws 0)) (.cons (rn_b rfl) (.cons (rn_b rfl) (.cons (rn_b (Instr.enc.blws 0)) (.nil (Nat.zero_le _))))))) rfl), trivial⟩ ⟨(rn_ptr rfl rfl rfl rfl), (rn_ptr rfl rfl rfl rfl), (rn_b rfl), (rn_b rfl), (rn_b rfl), (rn_b (Func.enc.blws 0)), (rn_b rfl), (rn_b rfl), trivial⟩)
        · refine E_as ?_
          refine E_sq ?_
          refine E_reg ?_
          refine E_op0 (v' := (.ptr 1 0 3)) rfl rfl ?_
          refine E_op (v' := (.int .i64 f_4.Keep)) (S' := [.arr 0 [], .arr 0 [(.int .i64 f_4.Params), (.sl false 1 (List.map (avI .u8) f_4.Locals)), (.bool f_4.Result), (.int .i64 f_4.Keep), (.sl false 3 (List.map Instr.av f_4.Code))]]) rfl rfl rfl ?_
          refine E_op0 (v' := (.bool (decide (f_4.Keep ≥ 0)))) rfl rfl ?_
          refine E_nil ?_
          refine E_nx ?_
          refine E_jpw h (fun s_17 => [(6, (.ptr 0 0 0)), (8, (.ptr 1 0 0)), (9, (.str s_13)), (10, (.str s_15)), (11, (.str s_17)), (25, (.sl false 5 (List.map Func.av p_00.Funcs))), (26, (.int .i64 (List.length p_00.Funcs : Int))), (27, (.int .i64 (i_3 : Int)))]) (fun s_17 => [.arr 0 [], .arr 0 [(.int .i64 f_4.Params), (.sl false 1 (List.map (avI .u8) f_4.Locals)), (.bool f_4.Result), (.int .i64 f_4.Keep), (.sl false 3 (List.map Instr.av f_4.Code))]]) (fun s_17 => [(6, (.ptr 0 0 0)), (8, (.cptr (Func.av f_4).cells 0)), (9, (.str s_13)), (10, (.str s_15)), (11, (.str s_17)), (25, (.sl false 5 (List.map Func.av p_00.Funcs))), (26, (.int .i64 (List.length p_00.Funcs : Int))), (27, (.int .i64 (i_3 : Int)))]) (fun _ => OB) (fun s_17 => wk_fz 1 6 rfl ⟨⟨rfl, trivial⟩, trivial⟩ ⟨(fz_b rfl (.refl _)), (fz_ptr (Nat.le_of_ble_eq_true rfl) rfl ⟨(fz_b rfl (.refl _)), (fz_b ((encI .u8).blws 1) (.refl _)), (fz_b rfl (.refl _)), (fz_b rfl (.refl _)), (fz_b (Instr.enc.blws 1) (.refl _)), trivial⟩), (fz_b rfl (.refl _)), (fz_b rfl (.refl _)), (fz_b rfl (.refl _)), (fz_b (Func.enc.blws 1) (.refl _)), (fz_b rfl (.refl _)), (fz_b rfl (.refl _)), trivial⟩) (fun k_16 h => ?_) (fun s_17 h => ?_)
          · refine E_cs (t := (decide (f_4.Keep ≥ 0))) rfl (fun hb => ?_) (fun hb => ?_)
            · rw [ite_t hb] at h
              refine E_reg ?_
              refine E_op0 (v' := (.ptr 1 0 3)) rfl rfl ?_
              refine E_op (v' := (.int .i64 f_4.Keep)) (S' := [.arr 0 [], .arr 0 [(.int .i64 f_4.Params), (.sl false 1 (List.map (avI .u8) f_4.Locals)), (.bool f_4.Result), (.int .i64 f_4.Keep), (.sl false 3 (List.map Instr.av f_4.Code))]]) rfl rfl rfl ?_
              obtain ⟨ito_18, hito_18, h⟩ := bd_some h
              refine E_callW (strconv_Itoa_ev  hito_18) rfl ⟨(.refl _), trivial⟩ (blwL_of ⟨rfl, trivial⟩) rfl ?_
              refine E_mv (v' := (.str ito_18)) rfl ?_
              refine E_nil ?_
              exact E_jx _ h (wk_rn [some (0, 0), some (1, 0)] rfl (Nat.le_of_ble_eq_true rfl) ⟨(rn_obS rfl rfl (.nil (Nat.zero_le _)) rfl), (rn_ob rfl rfl (.cons (rn_b rfl) (.cons (rn_b ((encI .u8).blws 0)) (.cons (rn_b rfl) (.cons (rn_b rfl) (.cons (rn_b (Instr.enc.blws 0)) (.nil (Nat.zero_le _))))))) rfl), trivial⟩ ⟨(rn_ptr rfl rfl rfl rfl), (rn_ptr rfl rfl rfl rfl), (rn_b rfl), (rn_b rfl), (rn_b rfl), (rn_b (Func.enc.blws 0)), (rn_b rfl), (rn_b rfl), trivial⟩)
            · rw [ite_f hb] at h
              refine E_skip ?_
              exact E_jx _ h (wk_rn [some (0, 0), some (1, 0)] rfl (Nat.le_of_ble_eq_true rfl) ⟨(rn_obS rfl rfl (.nil (Nat.zero_le _)) rfl), (rn_ob rfl rfl (.cons (rn_b rfl) (.cons (rn_b ((encI .u8).blws 0)) (.cons (rn_b rfl) (.cons (rn_b rfl) (.cons (rn_b (Instr.enc.blws 0)) (.nil (Nat.zero_le _))))))) rfl), trivial⟩ ⟨(rn_ptr rfl rfl rfl rfl), (rn_ptr rfl rfl rfl rfl), (rn_b rfl), (rn_b rfl), (rn_b rfl), (rn_b (Func.enc.blws 0)), (rn_b rfl), (rn_b rfl), trivial⟩)
          · refine E_skip ?_
            refine ⟨rfl, rfl, ?_⟩
            obtain ⟨ito_19, hito_19, h⟩ := bd_some h
            obtain ⟨s_20, hs_20, h⟩ := bd_some h
            obtain ⟨s_21, hs_21, h⟩ := bd_some h
            obtain ⟨s_22, hs_22, h⟩ := bd_some h
            obtain ⟨s_23, hs_23, h⟩ := bd_some h
            obtain ⟨s_24, hs_24, h⟩ := bd_some h
            obtain ⟨s_25, hs_25, h⟩ := bd_some h
            obtain ⟨s_26, hs_26, h⟩ := bd_some h
            obtain ⟨s_27, hs_27, h⟩ := bd_some h
            cases h
            refine S_seq (S_call he (ow := []) (rs := [⟨(some 55), none, .op (.fad 0 (.t 8))⟩,
              ⟨(some 56), none, .op (.load none (.t 55))⟩,
              ⟨(some 57), none, .call 61 [(.t 56)]⟩,
              ⟨(some 58), none, .op (.bin .none .add (.v (.str (ByteArray.mk #[102, 117, 110, 99, 32]))) (.t 57))⟩,
              ⟨(some 59), none, .op (.bin .none .add (.t 58) (.v (.str (ByteArray.mk #[32]))))⟩,
              ⟨(some 60), none, .op (.mv (.t 9))⟩,
              ⟨(some 61), none, .op (.bin .none .add (.t 59) (.t 60))⟩,
              ⟨(some 62), none, .op (.bin .none .add (.t 61) (.v (.str (ByteArray.mk #[32]))))⟩,
              ⟨(some 63), none, .op (.mv (.t 10))⟩,
              ⟨(some 64), none, .op (.bin .none .add (.t 62) (.t 63))⟩,
              ⟨(some 65), none, .op (.bin .none .add (.t 64) (.v (.str (ByteArray.mk #[32]))))⟩,
              ⟨(some 66), none, .op (.mv (.t 11))⟩,
              ⟨(some 67), none, .op (.bin .none .add (.t 65) (.t 66))⟩,
              ⟨(some 68), none, .op (.bin .none .add (.t 67) (.v (.str (ByteArray.mk #[10]))))⟩]) (d := some 69) (f := 62) (qs := [.t 6, .t 68]) rfl ?_)
            refine E_reg ?_
            refine E_op0 (v' := (.cptr (Func.av f_4).cells 0)) rfl rfl ?_
            refine E_op0 (v' := (.int .i64 f_4.Params)) rfl rfl ?_
            refine E_callW (strconv_Itoa_ev  hito_19) rfl ⟨(.refl _), trivial⟩ (blwL_of ⟨rfl, trivial⟩) rfl ?_
            refine E_cat rfl rfl hs_20 ?_
            refine E_cat rfl rfl hs_21 ?_
            refine E_mv (v' := (.str s_13)) rfl ?_
            refine E_cat rfl rfl hs_22 ?_
            refine E_cat rfl rfl hs_23 ?_
            refine E_mv (v' := (.str s_15)) rfl ?_
            refine E_cat rfl rfl hs_24 ?_
            refine E_cat rfl rfl hs_25 ?_
            refine E_mv (v' := (.str s_17)) rfl ?_
            refine E_cat rfl rfl hs_26 ?_
            refine E_cat rfl rfl hs_27 ?_
            refine E_nil ?_
            refine ⟨rfl, .str s_h, .string s_h, s_h.data.toList, _, .tup [.int .i64 s_h.size, .nili], bc_str _, vr_str, vr_two _, rfl, hbl, ?_⟩
            show SC cx g0 N0 _ _ _ _
            refine S_wk he (fr' := [(6, (.ptr 0 0 0)), (8, (.cptr (Func.av f_4).cells 0)), (25, (.sl false 5 (List.map Func.av p_00.Funcs))), (26, (.int .i64 (List.length p_00.Funcs : Int))), (27, (.int .i64 (i_3 : Int)))]) (wk_aw ⟨.refl _, .refl _, .refl _, .refl _, .refl _, trivial⟩) ?_
            refine S_seq (S_pure he (ow := []) ?_)
            refine E_reg ?_
            refine E_op0 (v' := (.cptr (Func.av f_4).cells 4)) rfl rfl ?_
            refine E_op0 (v' := (.sl false 3 (List.map Instr.av f_4.Code))) rfl rfl ?_
            refine E_len rfl ?_
            refine E_mv (v' := (.int .i64 0)) rfl ?_
            refine E_nil ?_
            refine ⟨rfl, ?_⟩
            show SC cx g0 N0 _ _ _ _
            refine S_rng he hcl hcf [(6, (.ptr 0 0 0)), (25, (.sl false 5 (List.map Func.av p_00.Funcs))), (26, (.int .i64 (List.length p_00.Funcs : Int))), (27, (.int .i64 (i_3 : Int))), (71, (.sl false 3 (List.map Instr.av f_4.Code)))] (by decide) (by decide) ⟨rfl, rfl, rfl, rfl⟩ (wk_aw ⟨.refl _, .refl _, .refl _, .refl _, .refl _, .refl _, .refl _, trivial⟩) (fun i_29 i_30 q q' hx_31 hlt2 h => ?_) (fun fr' hw => ⟨rfl, rfl, wk_trans hw (wk_aw ⟨.refl _, .refl _, .refl _, .refl _, trivial⟩)⟩)
            obtain ⟨nam_32, hnam_32, h⟩ := bd_some h
            obtain ⟨y_33, hy_33, h⟩ := bd_some h
            obtain ⟨q1, hq1, h⟩ := bd_some h
            obtain ⟨hql, rfl⟩ := wr_some hq1
            obtain ⟨mos_34, hmos_34, h⟩ := bd_some h
            obtain ⟨q2, hq2, h⟩ := bd_some h
            obtain ⟨hql2, rfl⟩ := wr_some h
            refine S_pres he (ow := [15]) (ss := [_]) (rest := .seq _ (.seq (.seq _ _) _)) ?_
            refine E_sq ?_
            refine E_reg ?_
            refine E_iadF rfl rfl (getI_of hx_31) ?_
            refine E_op0 (v' := (Instr.av i_30)) rfl rfl ?_
            refine E_op (v' := .ptr 1 0 0) (S' := [.arr 0 [], .arr 0 [(.int .u8 0), (.int .i64 0), (.int .u64 0)]]) rfl rfl rfl ?_
            refine E_do (S' := [.arr 0 [], .arr 0 [(.int .u8 i_30.Op), (.int .i64 i_30.Arg), (.int .u64 i_30.Imm)]]) rfl rfl ?_
            refine E_nil ?_
            refine E_nxw (F := [(6, (.ptr 0 0 0)), (15, (.cptr (Instr.av i_30).cells 0)), (25, (.sl false 5 (List.map Func.av p_00.Funcs))), (26, (.int .i64 (List.length p_00.Funcs : Int))), (27, (.int .i64 (i_3 : Int))), (71, (.sl false 3 (List.map Instr.av f_4.Code))), (72, (.int .i64 (List.length f_4.Code : Int))), (73, (.int .i64 (i_29 : Int)))]) (T := OB) (wk_fz 1 6 rfl ⟨⟨rfl, trivial⟩, trivial⟩ ⟨(fz_b rfl (.refl _)), (fz_ptr (Nat.le_of_ble_eq_true rfl) rfl ⟨(fz_b rfl (.refl _)), (fz_b rfl (.refl _)), (fz_b rfl (.refl _)), trivial⟩), (fz_b (Func.enc.blws 1) (.refl _)), (fz_b rfl (.refl _)), (fz_b rfl (.refl _)), (fz_b (Instr.enc.blws 1) (.refl _)), (fz_b rfl (.refl _)), (fz_b rfl (.refl _)), trivial⟩) ?_
            refine E_skip ?_
            refine ⟨rfl, rfl, ?_⟩
            refine S_seq (S_call he (ow := []) (rs := [⟨(some 77), none, .call 63 []⟩,
              ⟨(some 78), none, .op (.fad 0 (.t 15))⟩,
              ⟨(some 79), none, .op (.load none (.t 78))⟩,
              ⟨(some 80), none, .op (.bin .none .sub (.t 79) (.v (.int .u8 1)))⟩,
              ⟨(some 81), none, .op (.iad none none (.t 77) (.t 80))⟩,
              ⟨(some 82), none, .op (.load none (.t 81))⟩]) (d := some 83) (f := 62) (qs := [.t 6, .t 82]) rfl ?_)
            refine E_regp ?_
            refine E_callW (text_names_ev  hnam_32) rfl trivial (blwL_of trivial) (encS.blws 0) ?_
            refine E_op0 (v' := (.cptr (Instr.av i_30).cells 0)) rfl rfl ?_
            refine E_op0 (v' := (.int .u8 i_30.Op)) rfl rfl ?_
            refine E_op0 (v' := (.int .u8 (U8 (i_30.Op - 1)))) rfl rfl ?_
            refine E_iadF rfl rfl hy_33 ?_
            refine E_op0 (v' := (.str y_33)) rfl rfl ?_
            refine E_nil ?_
            refine And.intro (by simp [okLog, nthL, okPair, hp, fpOf]) ?_
            refine ⟨rfl, .str y_33, .string y_33, y_33.data.toList, _, .tup [.int .i64 y_33.size, .nili], bc_str _, vr_str, vr_two _, rfl, hql, ?_⟩
            show SC cx g0 N0 _ _ _ _
            have fin : ∀ (q2 : List UInt8), q2.length + [10].length ≤ 140737488355328 → SC cx g0 N0 (.reg ([] ++ [⟨(some 97), none, .call 65 [(.t 6), (.v (.int .u8 10))]⟩]) []) [(6, (.ptr 0 0 0)), (25, (.sl false 5 (List.map Func.av p_00.Funcs))), (26, (.int .i64 (List.length p_00.Funcs : Int))), (27, (.int .i64 (i_3 : Int))), (71, (.sl false 3 (List.map Instr.av f_4.Code))), (72, (.int .i64 (List.length f_4.Code : Int))), (73, (.int .i64 (i_29 : Int)))] q2 (fun e' fr' acc' => e' = .normal ∧ acc' = q2 ++ [10] ∧ Wk OB fr' OB ((73, .int .i64 i_29) :: (72, .int .i64 f_4.Code.length) :: [(6, (.ptr 0 0 0)), (25, (.sl false 5 (List.map Func.av p_00.Funcs))), (26, (.int .i64 (List.length p_00.Funcs : Int))), (27, (.int .i64 (i_3 : Int))), (71, (.sl false 3 (List.map Instr.av f_4.Code)))]) OB) := by
              intro q2 hq
              refine S_call he (ow := []) (rs := []) (d := some 97) (f := 65) (qs := [.t 6, .v (.int .u8 10)]) rfl ?_
              refine E_reg ?_
              refine E_nil ?_
              exact ⟨rfl, .int .u8 10, .int .u8 10, [10], _, .nili, bc_byte, vr_int, fun _ _ _ => .nili, rfl, hq, rfl, rfl, wk_aw ⟨.refl _, .refl _, .refl _, .refl _, .refl _, .refl _, .refl _, trivial⟩⟩
            refine S_wk he (fr' := [(6, (.ptr 0 0 0)), (15, (.cptr (Instr.av i_30).cells 0)), (25, (.sl false 5 (List.map Func.av p_00.Funcs))), (26, (.int .i64 (List.length p_00.Funcs : Int))), (27, (.int .i64 (i_3 : Int))), (71, (.sl false 3 (List.map Instr.av f_4.Code))), (72, (.int .i64 (List.length f_4.Code : Int))), (73, (.int .i64 (i_29 : Int)))]) (wk_aw ⟨.refl _, .refl _, .refl _, .refl _, .refl _, .refl _, .refl _, .refl _, trivial⟩) ?_
            refine S_seq (S_seq (S_pure he (ow := []) ?_))
            refine E_reg ?_
            refine E_op0 (v' := (.cptr (Instr.av i_30).cells 0)) rfl rfl ?_
            refine E_op0 (v' := (.int .u8 i_30.Op)) rfl rfl ?_
            refine E_callW (text_most_ev  hmos_34) rfl ⟨(.refl _), trivial⟩ (blwL_of ⟨rfl, trivial⟩) rfl ?_
            refine E_op0 (v' := (.bool (decide (mos_34 > 0)))) rfl rfl ?_
            refine E_nil ?_
            refine ⟨rfl, ?_⟩
            show SC cx g0 N0 _ _ _ _
            refine S_cond (t := (decide (mos_34 > 0))) rfl (fun hb => ?_) (fun hb => ?_)
            · rw [if_pos hb] at hq2
              obtain ⟨vfor_37, hvfor_37, h⟩ := bd_some hq2
              obtain ⟨s_38, hs_38, h⟩ := bd_some h
              obtain ⟨hql3, rfl⟩ := wr_some h
              refine S_call he (ow := []) (rs := [⟨(some 88), none, .op (.fad 2 (.t 15))⟩,
              ⟨(some 89), none, .op (.load none (.t 88))⟩,
              ⟨(some 90), none, .op (.fad 1 (.t 15))⟩,
              ⟨(some 91), none, .op (.load none (.t 90))⟩,
              ⟨(some 92), none, .op (.cint .u64 (.t 91))⟩,
              ⟨(some 93), none, .op (.bin .none .add (.t 89) (.t 92))⟩,
              ⟨(some 94), none, .call 42 [(.t 93), (.v (.int .i64 10))]⟩,
              ⟨(some 95), none, .op (.bin .none .add (.v (.str (ByteArray.mk #[32]))) (.t 94))⟩]) (d := some 96) (f := 62) (qs := [.t 6, .t 95]) rfl ?_
              refine E_reg ?_
              refine E_op0 (v' := (.cptr (Instr.av i_30).cells 2)) rfl rfl ?_
              refine E_op0 (v' := (.int .u64 i_30.Imm)) rfl rfl ?_
              refine E_op0 (v' := (.cptr (Instr.av i_30).cells 1)) rfl rfl ?_
              refine E_op0 (v' := (.int .i64 i_30.Arg)) rfl rfl ?_
              refine E_op0 (v' := (.int .u64 (U64 i_30.Arg))) rfl rfl ?_
              refine E_op0 (v' := (.int .u64 (U64 (i_30.Imm + (U64 i_30.Arg))))) rfl rfl ?_
              refine E_callW (strconv_FormatUint_ev  hvfor_37) rfl ⟨(.refl _), (.refl _), trivial⟩ (blwL_of ⟨rfl, rfl, trivial⟩) rfl ?_
              refine E_cat rfl rfl hs_38 ?_
              refine E_nil ?_
              refine ⟨rfl, .str s_38, .string s_38, s_38.data.toList, _, .tup [.int .i64 s_38.size, .nili], bc_str _, vr_str, vr_two _, rfl, hql3, ?_⟩
              show SC cx g0 N0 _ _ _ _
              refine S_wk he ?_ (fin _ hql2)
              exact wk_aw ⟨.refl _, .refl _, .refl _, .refl _, .refl _, .refl _, .refl _, trivial⟩
            · rw [if_neg (by simpa using hb)] at hq2
              cases hq2
              refine S_pure he (ow := []) (E_skip ⟨rfl, ?_⟩)
              show SC cx g0 N0 _ _ _ _
              refine S_wk he ?_ (fin _ hql2)
              exact wk_aw ⟨.refl _, .refl _, .refl _, .refl _, .refl _, .refl _, .refl _, trivial⟩
end Go.Proofs.YtkfhljombjmdbaaDoor
/- Plain laws of numerals: which texts are a number's, and how they are read. -/
namespace Go.Ab
open Go

def isDig (c : UInt8) : Bool := decide (48 ≤ c.toNat ∧ c.toNat ≤ 57)
/-- What digits say. -/
def valD : Nat → List UInt8 → Nat
  | a, [] => a
  | a, c :: r => valD (a * 10 + (c.toNat - 48)) r
theorem valD_nil (a : Nat) : valD a [] = a := by unfold valD; rfl
theorem valD_cons (a : Nat) (c : UInt8) (r : List UInt8) : valD a (c :: r) = valD (a * 10 + (c.toNat - 48)) r := by conv => lhs; unfold valD
theorem valD_snoc (l : List UInt8) : ∀ (a : Nat) (c : UInt8), valD a (l ++ [c]) = valD a l * 10 + (c.toNat - 48) := by
  induction l with
  | nil => intro a c; rw [List.nil_append, valD_cons, valD_nil, valD_nil]
  | cons x l ih => intro a c; rw [List.cons_append, valD_cons, ih, valD_cons]
theorem valD_ge (l : List UInt8) : ∀ (a : Nat), a ≤ valD a l := by
  induction l with
  | nil => intro a; rw [valD_nil]; exact Nat.le_refl _
  | cons x l ih => intro a; rw [valD_cons]; exact Nat.le_trans (show a ≤ a * 10 + (x.toNat - 48) by omega) (ih _)
/-- A numeral: digits, no nought ahead. -/
def numP (l : List UInt8) : Bool := l.all isDig && decide (l ≠ []) && (decide (l.length = 1) || decide (l.head? ≠ some 48))

theorem dig_of (d : Nat) (h : d < 10) : isDig (UInt8.ofNat (48 + d)) = true ∧ (UInt8.ofNat (48 + d)).toNat = 48 + d := by
  have e : (UInt8.ofNat (48 + d)).toNat = 48 + d := by rw [UInt8.toNat_ofNat', Nat.mod_eq_of_lt (by omega)]
  exact ⟨by unfold isDig; rw [e]; simp; omega, e⟩
theorem dig_back {c : UInt8} (h : isDig c = true) : UInt8.ofNat (48 + (c.toNat - 48)) = c := by
  unfold isDig at h
  simp only [decide_eq_true_eq] at h
  rw [show 48 + (c.toNat - 48) = c.toNat by omega, UInt8.ofNat_toNat]

theorem numP_snoc {l : List UInt8} {c : UInt8} (hl : l ≠ []) (h : numP (l ++ [c]) = true) : numP l = true ∧ l.head? ≠ some 48 ∧ isDig c = true := by
  unfold numP at h ⊢
  simp only [Bool.and_eq_true, decide_eq_true_eq, Bool.or_eq_true, List.all_append, List.all_cons, List.all_nil, Bool.and_true] at h ⊢
  obtain ⟨⟨⟨h1, h2⟩, _⟩, h3⟩ := h
  cases l with
  | nil => exact (hl rfl).elim
  | cons x r =>
    simp only [List.cons_append, List.length_cons, List.length_append, List.head?_cons] at h3 ⊢
    rcases h3 with h3 | h3
    · simp at h3
    · exact ⟨⟨⟨h1, by simp⟩, .inr h3⟩, h3, h2⟩

theorem dec_len (u : Nat) : Lib.decDigits u ≠ [] := by
  rw [Lib.decDigits]; split <;> simp
theorem dec_head : ∀ (u : Nat), 1 ≤ u → (Lib.decDigits u).head? ≠ some 48 := by
  intro u
  induction u using Nat.strongRecOn with
  | _ u ih =>
    intro h
    rw [Lib.decDigits]
    split
    · rename_i hu
      simp only [List.head?_cons, ne_eq, Option.some.injEq]
      intro e
      have := congrArg UInt8.toNat e
      rw [(dig_of u hu).2] at this
      simp at this
      omega
    · have := ih (u / 10) (by omega) (by omega)
      have hne := dec_len (u / 10)
      rw [List.head?_append]
      cases e : Lib.decDigits (u / 10) with
      | nil => exact (hne e).elim
      | cons x r => rw [e] at this; simpa using this
theorem dec_digs : ∀ (u : Nat), (Lib.decDigits u).all isDig = true := by
  intro u
  induction u using Nat.strongRecOn with
  | _ u ih =>
    rw [Lib.decDigits]
    split
    · rename_i hu
      rw [List.all_cons, (dig_of u hu).1]; rfl
    · rw [List.all_append, ih (u / 10) (by omega), List.all_cons, (dig_of (u % 10) (Nat.mod_lt _ (by decide))).1]; rfl
theorem dec_val : ∀ (u : Nat), valD 0 (Lib.decDigits u) = u := by
  intro u
  induction u using Nat.strongRecOn with
  | _ u ih =>
    rw [Lib.decDigits]
    split
    · rename_i hu
      rw [valD_cons, valD_nil, (dig_of u hu).2]; omega
    · rw [valD_snoc, ih (u / 10) (by omega), (dig_of (u % 10) (Nat.mod_lt _ (by decide))).2]; omega
theorem dec_numP (u : Nat) : numP (Lib.decDigits u) = true := by
  unfold numP
  simp only [Bool.and_eq_true, decide_eq_true_eq, Bool.or_eq_true]
  refine ⟨⟨dec_digs u, dec_len u⟩, ?_⟩
  by_cases h : 1 ≤ u
  · exact .inr (dec_head u h)
  · left
    have : u = 0 := by omega
    subst this
    rw [Lib.decDigits, dif_pos (by decide)]; rfl

theorem val_pos {l : List UInt8} (h : numP l = true) (h0 : l.head? ≠ some 48) : 1 ≤ valD 0 l := by
  unfold numP at h
  simp only [Bool.and_eq_true, decide_eq_true_eq, Bool.or_eq_true] at h
  cases l with
  | nil => exact (h.1.2 rfl).elim
  | cons c r =>
    rw [valD_cons]
    have hc : isDig c = true := by have := h.1.1; simp only [List.all_cons, Bool.and_eq_true] at this; exact this.1
    unfold isDig at hc
    simp only [decide_eq_true_eq] at hc
    have hne : c.toNat ≠ 48 := fun e => h0 (by
      simp only [List.head?_cons, Option.some.injEq]
      exact UInt8.toNat_inj.1 (by rw [e]; rfl))
    have := valD_ge r (0 * 10 + (c.toNat - 48))
    omega

/-- A numeral is the digits of what it says. -/
theorem num_decN : ∀ (k : Nat) (l : List UInt8), l.length = k → numP l = true → Lib.decDigits (valD 0 l) = l := by
  intro k
  induction k with
  | zero =>
    intro l hk h
    have : l = [] := List.eq_nil_of_length_eq_zero hk
    subst this
    simp [numP] at h
  | succ k ih =>
    intro l hk h
    have hne : l ≠ [] := fun e => by subst e; simp at hk
    obtain ⟨l', c, rfl⟩ : ∃ l' c, l = l' ++ [c] := ⟨l.dropLast, l.getLast hne, (List.dropLast_concat_getLast hne).symm⟩
    have hk' : l'.length = k := by simpa using hk
    by_cases hl : l' = []
    · subst hl
      unfold numP at h
      rw [List.nil_append] at h ⊢
      simp only [List.all_cons, List.all_nil, Bool.and_true, Bool.and_eq_true] at h
      have hc := h.1.1
      have hc' := hc
      unfold isDig at hc'
      simp only [decide_eq_true_eq] at hc'
      rw [valD_cons, valD_nil]
      rw [Lib.decDigits, dif_pos (by omega), Nat.zero_mul, Nat.zero_add, dig_back hc]
    · obtain ⟨h1, h2, h3⟩ := numP_snoc hl h
      have hp := val_pos h1 h2
      have e0 := ih l' hk' h1
      rw [valD_snoc]
      generalize valD 0 l' = v at *
      have h3' := h3
      unfold isDig at h3'
      simp only [decide_eq_true_eq] at h3'
      rw [Lib.decDigits, dif_neg (by omega)]
      have e1 : (v * 10 + (c.toNat - 48)) / 10 = v := by omega
      have e2 : (v * 10 + (c.toNat - 48)) % 10 = c.toNat - 48 := by omega
      rw [e1, e2, e0, dig_back h3]
theorem num_dec (l : List UInt8) (h : numP l = true) : Lib.decDigits (valD 0 l) = l := num_decN _ l rfl h
theorem num_iff (l : List UInt8) (n : Nat) : l = Lib.decDigits n ↔ numP l = true ∧ valD 0 l = n :=
  ⟨fun h => by subst h; exact ⟨dec_numP n, dec_val n⟩, fun ⟨h, e⟩ => by rw [← e, num_dec l h]⟩
theorem parseM_cons (M a : Nat) (c : UInt8) (r : List UInt8) : Lib.parseUintM M a (c :: r) = if 48 ≤ c.toNat ∧ c.toNat ≤ 57 then (if 1844674407370955162 ≤ a then .range else if M < a * 10 + (c.toNat - 48) then .range else Lib.parseUintM M (a * 10 + (c.toNat - 48)) r) else .«syntax» := by
  conv => lhs; unfold Lib.parseUintM
theorem parseM_nil (M a : Nat) : Lib.parseUintM M a [] = .ok a := by unfold Lib.parseUintM; rfl
theorem parseM_ok (l : List UInt8) : ∀ a, l.all isDig = true → valD a l ≤ 18446744073709551615 → Lib.parseUintM 18446744073709551615 a l = .ok (valD a l) := by
  induction l with
  | nil => intro a _ _; rw [parseM_nil, valD_nil]
  | cons c r ih =>
    intro a h hv
    rw [List.all_cons, Bool.and_eq_true] at h
    have hc := h.1
    unfold isDig at hc
    simp only [decide_eq_true_eq] at hc
    rw [valD_cons] at hv ⊢
    have hg := valD_ge r (a * 10 + (c.toNat - 48))
    rw [parseM_cons, if_pos hc, if_neg (by omega), if_neg (by omega)]
    exact ih _ h.2 hv
theorem parseM_le (l : List UInt8) : ∀ a u, a ≤ 18446744073709551615 → Lib.parseUintM 18446744073709551615 a l = .ok u → u ≤ 18446744073709551615 := by
  induction l with
  | nil => intro a u ha h; rw [parseM_nil] at h; cases h; exact ha
  | cons c r ih =>
    intro a u ha h
    rw [parseM_cons] at h
    split at h
    · split at h
      · cases h
      · split at h
        · cases h
        · exact ih _ u (by omega) h
    · cases h
/-- A text is a number's numeral just when it is read and written back. -/
theorem parse_num (l : List UInt8) (u : Nat) (hu : u < 18446744073709551616) (h : l = Lib.decDigits u) : Lib.parseUintB 64 l = .ok u := by
  subst h
  unfold Lib.parseUintB
  rw [if_neg (dec_len u)]
  have := parseM_ok (Lib.decDigits u) 0 (dec_digs u) (by rw [dec_val]; omega)
  rw [dec_val] at this
  exact this
theorem parse_lt (l : List UInt8) (u : Nat) (h : Lib.parseUintB 64 l = .ok u) : u < 18446744073709551616 := by
  unfold Lib.parseUintB at h
  split at h
  · cases h
  · have := parseM_le l 0 u (by omega) h
    omega
/-- The number that a text is the numeral of. -/
def numOf (l : List UInt8) : Option Nat := if numP l = true ∧ valD 0 l < 18446744073709551616 then some (valD 0 l) else none
theorem numOf_iff (l : List UInt8) (n : Nat) : numOf l = some n ↔ l = Lib.decDigits n ∧ n < 18446744073709551616 := by
  unfold numOf
  rw [num_iff]
  split
  · rename_i h
    constructor
    · intro e; cases e; exact ⟨⟨h.1, rfl⟩, h.2⟩
    · rintro ⟨⟨_, e⟩, _⟩; rw [e]
  · rename_i h
    constructor
    · intro e; cases e
    · rintro ⟨⟨a, e⟩, b⟩; exact (h ⟨a, by rw [e]; exact b⟩).elim
end Go.Ab
