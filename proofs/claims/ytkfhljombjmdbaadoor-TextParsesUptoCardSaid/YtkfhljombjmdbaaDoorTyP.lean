/- The two readers of texts: the program's last function's code is an object of its own. (Printed by mkP.py.) -/
import Derived.Test.YtkfhljombjmdbaaDoorGenP
import Derived.Test.YtkfhljombjmdbaaDoorWlH1
namespace Go.Proofs.YtkfhljombjmdbaaDoor
open Go Go.Ab
set_option maxRecDepth 20000
set_option maxHeartbeats 2000000
set_option linter.unusedVariables false
set_option linter.unusedSimpArgs false
def FuncN.cells (x : Func) : List AV := [(.int .i64 x.Params), (.sl false 1 (List.map (avI .u8) x.Locals)), (.bool x.Result), (.int .i64 x.Keep), .nils]
def FuncN.av (x : Func) : AV := .agg (FuncN.cells x)
/-- Functions, of which some are known to have nil as code. -/
def FB.cells (x : Func × Bool) : List AV := if x.2 then FuncN.cells x.1 else Func.cells x.1
def FB.av (x : Func × Bool) : AV := .agg (FB.cells x)
theorem FB.enc : Enc FB.av (some 5) := by
  refine ⟨fun x => ?_, fun x => ?_, fun x => ?_, fun x n => ?_⟩
  · obtain ⟨x, b⟩ := x; cases b <;> rfl
  · obtain ⟨x, b⟩ := x; cases b <;> rfl
  · obtain ⟨x, b⟩ := x; cases b <;> rfl
  · obtain ⟨x, b⟩ := x
    cases b
    · exact Func.enc.blw x n
    · exact blwL_of ⟨rfl, (encL (encI .u8) 1).blw x.Locals n, rfl, rfl, rfl, trivial⟩
def noN (xs : List Func) : List (Func × Bool) := xs.map fun x => (x, false)
theorem flat_noN (xs : List Func) : flat FB.av (noN xs) = flat Func.av xs := by
  induction xs with
  | nil => rfl
  | cons x r ih => show flat FB.av ((x, false) :: noN r) = _; rw [flat_cons, flat_cons, ih]; rfl
theorem flat_push (xs : List Func) (y : Func) : flat FB.av (noN xs ++ [(y, true)]) = flat Func.av xs ++ (Func.av y).cells.set 4 .nils := by
  rw [flat_append, flat_noN]; rfl
theorem noN_length (xs : List Func) : (noN xs).length = xs.length := List.length_map ..
/-- The cell of a last element's code. -/
def rF (x : Func) : AV := .ref 3 1 0 x.Code.length (some 3)
def rG (x : Func) : AV := .ref 4 1 0 x.Code.length (some 3)
/-- A function is put behind, whose code must be nil. -/
def pushF (xs : List Func) (y : Func) : Option (List Func) := if y.Code.isEmpty ∧ ((xs.length + 1) * 72 ≤ 140737488355328 ∧ xs.length + 1 ≤ 140737488355328) then some (xs ++ [y]) else none
/-- An instruction is put behind the last function's. -/
def pushC (xs : List Func) (i : Instr) : Option (List Func) := match xs.getLast? with
  | none => none
  | some x => if I64 ((xs.length : Int) - 1) = (xs.length : Int) - 1 then (appL 24 x.Code [i]).map fun c => xs.dropLast ++ [{ x with Code := c }] else none
theorem pushC_some {xs ys : List Func} {i : Instr} (h : pushC xs i = some ys) : ∃ l x c, xs = l ++ [x] ∧ I64 (((l ++ [x]).length : Int) - 1) = (l.length : Int) ∧ appL 24 x.Code [i] = some c ∧ ys = l ++ [{ x with Code := c }] := by
  rcases snoc_of xs with rfl | ⟨l, x, rfl⟩
  · cases h
  · have e : (l ++ [x]).getLast? = some x := by simp
    unfold pushC at h
    rw [e] at h
    simp only at h
    split at h
    · obtain ⟨c, hc, rfl⟩ := Option.map_eq_some_iff.1 h
      refine ⟨l, x, c, rfl, by rename_i q; rw [q]; simp, hc, by simp⟩
    · cases h
theorem hxe {l : List Func} {p : Nat} (h : p = 0 + (l.length : Int).toNat * szOf (some 5)) : p + 4 = l.length * szOf (some 5) + 4 := by subst h; simp
def delS (xs : List ByteArray) : Option (List ByteArray) := if xs ≠ [] ∧ xs.length ≤ 9223372036854775807 then some (delE xs) else none
theorem delS_some {xs ys : List ByteArray} (h : delS xs = some ys) : (xs ≠ [] ∧ xs.length ≤ 9223372036854775807) ∧ ys = delE xs := by
  unfold delS at h
  split at h
  · cases h; exact ⟨by assumption, rfl⟩
  · cases h
theorem pushF_some {xs ys : List Func} {y : Func} (h : pushF xs y = some ys) : y.Code = [] ∧ ((xs.length + 1) * 72 ≤ 140737488355328 ∧ xs.length + 1 ≤ 140737488355328) ∧ ys = xs ++ [y] := by
  unfold pushF at h
  split at h
  · rename_i q
    cases h
    exact ⟨by simpa using q.1, q.2, rfl⟩
  · cases h
theorem text_function_evN {w_00 : (List ByteArray)} {r : (Func × Bool)} (h : text_function_s w_00 = some r) : PureEv Tryd.prog 55 [(.sl false 1 (List.map avS w_00))] (.tup [(FuncN.av r.1), (.bool r.2)]) := by
  unfold text_function_s at h
  refine PureEv_end mixed fn55 (by simp) [2, 6, 56] 6 ?_
  unfold fc55
  refine E_sq ?_
  refine E_reg ?_
  refine E_op (v' := .ptr 0 0 0) (S' := [.arr 0 [(.int .i64 0), .nils, (.bool false), (.int .i64 0), .nils]]) rfl rfl rfl ?_
  refine E_mv (v' := (.bool false)) rfl ?_
  refine E_nil ?_
  refine E_nx ?_
  refine E_as ?_
  refine E_sq ?_
  refine E_reg ?_
  refine E_mv (v' := (.sl false 1 (List.map avS w_00))) rfl ?_
  refine E_len rfl ?_
  refine E_op0 (v' := (.bool ((List.length w_00 : Int) != 5))) rfl rfl ?_
  refine E_nil ?_
  refine E_nx ?_
  refine E_sq ?_
  refine E_cs (t := ((List.length w_00 : Int) != 5)) rfl (fun hb => ?_) (fun hb => ?_)
  · rw [ite_t hb] at h
    refine E_sq ?_
    refine E_reg ?_
    refine E_op0 (v' := (.agg [(.int .i64 0), .nils, (.bool false), (.int .i64 0), .nils])) rfl rfl ?_
    refine E_do (S' := [.arr 0 [(.int .i64 0), .nils, (.bool false), (.int .i64 0), .nils]]) rfl rfl ?_
    refine E_mv (v' := (.bool false)) rfl ?_
    refine E_nil ?_
    refine E_nx ?_
    refine E_ret ?_
    refine E_thr ?_
    cases h
    exact ⟨trivial, _, rfl, (fz_tup ⟨(fz_agg ⟨(fz_b rfl (.refl _)), (fz_b rfl .nil), (fz_b rfl (.refl _)), (fz_b rfl (.refl _)), (fz_b rfl (.refl _)), trivial⟩), (fz_b rfl (.refl _)), trivial⟩)⟩
  · rw [ite_f hb] at h
    refine E_skip ?_
    refine E_nx ?_
    refine E_sq ?_
    refine E_reg ?_
    refine E_mv (v' := (.sl false 1 (List.map avS w_00))) rfl ?_
    obtain ⟨y_1, hy_1, h⟩ := bd_some h
    refine E_iadF rfl rfl hy_1 ?_
    refine E_op0 (v' := (.str y_1)) rfl rfl ?_
    obtain ⟨num_2, hnum_2, h⟩ := bd_some h
    refine E_callW (text_number_ev  hnum_2) rfl ⟨(.refl _), (.refl _), trivial⟩ (blwL_of ⟨rfl, rfl, trivial⟩) (tup_blw ⟨rfl, rfl, trivial⟩) ?_
    refine E_mv (v' := (.tup [(.int .u64 num_2.1), (.bool num_2.2)])) rfl ?_
    refine E_op0 (v' := (.int .u64 num_2.1)) rfl rfl ?_
    refine E_op0 (v' := (.bool num_2.2)) rfl rfl ?_
    refine E_mv (v' := (.int .u64 num_2.1)) rfl ?_
    refine E_mv (v' := (.bool num_2.2)) rfl ?_
    refine E_nil ?_
    refine E_nx ?_
    refine E_sq ?_
    refine E_reg ?_
    refine E_mv (v' := (.int .u64 num_2.1)) rfl ?_
    refine E_op0 (v' := (.int .i64 (I64 num_2.1))) rfl rfl ?_
    refine E_mv (v' := (.sl false 1 (List.map avS w_00))) rfl ?_
    obtain ⟨y_3, hy_3, h⟩ := bd_some h
    refine E_iadF rfl rfl hy_3 ?_
    refine E_op0 (v' := (.str y_3)) rfl rfl ?_
    refine E_op0 (v' := (.bool (ByteArray.toList y_3 == ByteArray.toList (ByteArray.mk #[49])))) rfl rfl ?_
    refine E_op0 (v' := (.agg [(.int .i64 (I64 num_2.1)), .nils, (.bool (ByteArray.toList y_3 == ByteArray.toList (ByteArray.mk #[49]))), (.int .i64 (-1)), .nils])) rfl rfl ?_
    refine E_op (v' := .ptr 1 0 0) (S' := [.arr 0 [(.int .i64 0), .nils, (.bool false), (.int .i64 0), .nils], .arr 0 [(.int .i64 0), .nils, (.bool false), (.int .i64 0), .nils]]) rfl rfl rfl ?_
    refine E_do (S' := [.arr 0 [(.int .i64 0), .nils, (.bool false), (.int .i64 0), .nils], .arr 0 [(.int .i64 (I64 num_2.1)), .nils, (.bool (ByteArray.toList y_3 == ByteArray.toList (ByteArray.mk #[49]))), (.int .i64 (-1)), .nils]]) rfl rfl ?_
    refine E_nil ?_
    refine E_nx ?_
    refine E_as ?_
    refine E_sq ?_
    refine E_reg ?_
    refine E_mv (v' := (.sl false 1 (List.map avS w_00))) rfl ?_
    obtain ⟨y_4, hy_4, h⟩ := bd_some h
    refine E_iadF rfl rfl hy_4 ?_
    refine E_op0 (v' := (.str y_4)) rfl rfl ?_
    refine E_op0 (v' := (.bool (!(ByteArray.toList y_4 == ByteArray.toList (ByteArray.mk #[45]))))) rfl rfl ?_
    refine E_nil ?_
    refine E_nx ?_
    refine E_jp h (fun s_6 => [(0, (.sl false 1 (List.map avS w_00))), (2, (.ptr 0 0 0)), (5, (.bool s_6.1)), (6, (.ptr 1 0 0))]) (fun s_6 => [.arr 0 [(.int .i64 0), .nils, (.bool false), (.int .i64 0), .nils], .arr 0 [(.int .i64 (I64 num_2.1)), (.ref 2 1 0 (List.length s_6.2) none), (.bool (ByteArray.toList y_3 == ByteArray.toList (ByteArray.mk #[49]))), (.int .i64 (-1)), .nils], .arr 1 (flat (avI .u8) s_6.2)]) (fun k_5 h => ?_) (fun s_6 h => ?_)
    · refine E_cs (t := (!(ByteArray.toList y_4 == ByteArray.toList (ByteArray.mk #[45])))) rfl (fun hb => ?_) (fun hb => ?_)
      · rw [ite_t hb] at h
        refine E_sq ?_
        refine E_reg ?_
        refine E_mv (v' := (.sl false 1 (List.map avS w_00))) rfl ?_
        refine E_iadF rfl rfl hy_4 ?_
        refine E_op0 (v' := (.str y_4)) rfl rfl ?_
        refine E_s2b rfl ?_
        refine E_len rfl ?_
        refine E_mv (v' := (.int .i64 0)) rfl ?_
        refine E_nil ?_
        refine E_nx ?_
        refine E_rngO (fun s_7 => [(0, (.sl false 1 (List.map avS w_00))), (2, (.ptr 0 0 0)), (5, (.bool s_7.1)), (6, (.ptr 1 0 0)), (37, (.sl false 1 (List.map (avI .u8) (ofStr y_4))))]) (fun s_7 => [.arr 0 [(.int .i64 0), .nils, (.bool false), (.int .i64 0), .nils], .arr 0 [(.int .i64 (I64 num_2.1)), (.ref 2 1 0 (List.length s_7.2) none), (.bool (ByteArray.toList y_3 == ByteArray.toList (ByteArray.mk #[49]))), (.int .i64 (-1)), .nils], .arr 1 (flat (avI .u8) s_7.2)]) h (by decide) (by decide) (fun _ => ⟨rfl, rfl, rfl, rfl⟩) (wk_rn [some (0, 0), some (1, 0), none] rfl (Nat.le_of_ble_eq_true rfl) ⟨(rn_ob rfl rfl (.cons (rn_b rfl) (.cons (rn_b rfl) (.cons (rn_b rfl) (.cons (rn_b rfl) (.cons (rn_b rfl) (.nil (Nat.zero_le _))))))) rfl), (rn_ob rfl rfl (.cons (rn_b rfl) (.cons (rn_nil rfl) (.cons (rn_b rfl) (.cons (rn_b rfl) (.cons (rn_b rfl) (.nil (Nat.zero_le _))))))) rfl), (rn_obN rfl rfl rfl), trivial⟩ ⟨(rn_b rfl), (rn_b rfl), (rn_b (encS.blws 0)), (rn_ptr rfl rfl rfl rfl), (rn_b rfl), (rn_ptr rfl rfl rfl rfl), (rn_b ((encI .u8).blws 0)), trivial⟩) (fun i_8 c_9 s_7 c hx_10 hlt h => ?_) (fun s_7 fr' S' h hw => ?_)
        · refine E_sq ?_
          refine E_reg ?_
          refine E_iadF rfl rfl (getI_of hx_10) ?_
          refine E_op0 (v' := (.int .u8 c_9)) rfl rfl ?_
          refine E_mv (v' := (.int .u8 c_9)) rfl ?_
          refine E_nil ?_
          refine E_nx ?_
          refine E_sq ?_
          refine E_reg ?_
          refine E_mv (v' := (.int .u8 c_9)) rfl ?_
          obtain ⟨ind_11, hind_11, h⟩ := bd_some h
          refine E_callW (strings_IndexByte_ev  hind_11) rfl ⟨(.refl _), (.refl _), trivial⟩ (blwL_of ⟨rfl, rfl, trivial⟩) rfl ?_
          refine E_mv (v' := (.int .i64 ind_11)) rfl ?_
          refine E_nil ?_
          refine E_nx ?_
          refine E_jp h (fun s_13 => [(0, (.sl false 1 (List.map avS w_00))), (2, (.ptr 0 0 0)), (5, (.bool s_13)), (6, (.ptr 1 0 0)), (9, (.int .i64 ind_11)), (37, (.sl false 1 (List.map (avI .u8) (ofStr y_4)))), (38, (.int .i64 (List.length (ofStr y_4) : Int))), (39, (.int .i64 (i_8 : Int)))]) (fun s_13 => [.arr 0 [(.int .i64 0), .nils, (.bool false), (.int .i64 0), .nils], .arr 0 [(.int .i64 (I64 num_2.1)), (.ref 2 1 0 (List.length s_7.2) none), (.bool (ByteArray.toList y_3 == ByteArray.toList (ByteArray.mk #[49]))), (.int .i64 (-1)), .nils], .arr 1 (flat (avI .u8) s_7.2)]) (fun k_12 h => ?_) (fun s_13 h => ?_)
          · refine E_reg ?_
            refine E_mv (v' := (.bool s_7.1)) rfl ?_
            refine E_mv (v' := (.bool s_7.1)) rfl ?_
            refine E_gsT (b := s_7.1) rfl rfl rfl (fun hb => ?_) (fun hb => ?_)
            · rw [ite_t hb] at h
              refine E_mv (v' := (.int .i64 ind_11)) rfl ?_
              refine E_gh rfl ?_
              refine E_op0 (v' := (.bool (decide (ind_11 ≥ 0)))) rfl rfl ?_
              refine E_pt rfl rfl ?_
              refine E_mv (v' := (.bool (decide (ind_11 ≥ 0)))) rfl ?_
              refine E_nil ?_
              exact E_jx _ h (wk_rn [some (0, 0), some (1, 0), some (2, 0)] rfl (Nat.le_of_ble_eq_true rfl) ⟨(rn_ob rfl rfl (.cons (rn_b rfl) (.cons (rn_b rfl) (.cons (rn_b rfl) (.cons (rn_b rfl) (.cons (rn_b rfl) (.nil (Nat.zero_le _))))))) rfl), (rn_ob rfl rfl (.cons (rn_b rfl) (.cons (rn_refL (encI .u8) rfl rfl rfl) (.cons (rn_b rfl) (.cons (rn_b rfl) (.cons (rn_b rfl) (.nil (Nat.zero_le _))))))) rfl), (rn_ob rfl rfl (.refl ((encI .u8).blwf 0 _)) rfl), trivial⟩ ⟨(rn_b (encS.blws 0)), (rn_ptr rfl rfl rfl rfl), (rn_b rfl), (rn_ptr rfl rfl rfl rfl), (rn_b rfl), (rn_b ((encI .u8).blws 0)), (rn_b rfl), (rn_b rfl), trivial⟩)
            · rw [ite_f hb] at h
              refine E_gm rfl ?_
              refine E_pf rfl rfl ?_
              refine E_mv (v' := (.bool false)) rfl ?_
              refine E_nil ?_
              exact E_jx _ h (wk_rn [some (0, 0), some (1, 0), some (2, 0)] rfl (Nat.le_of_ble_eq_true rfl) ⟨(rn_ob rfl rfl (.cons (rn_b rfl) (.cons (rn_b rfl) (.cons (rn_b rfl) (.cons (rn_b rfl) (.cons (rn_b rfl) (.nil (Nat.zero_le _))))))) rfl), (rn_ob rfl rfl (.cons (rn_b rfl) (.cons (rn_refL (encI .u8) rfl rfl rfl) (.cons (rn_b rfl) (.cons (rn_b rfl) (.cons (rn_b rfl) (.nil (Nat.zero_le _))))))) rfl), (rn_ob rfl rfl (.refl ((encI .u8).blwf 0 _)) rfl), trivial⟩ ⟨(rn_b (encS.blws 0)), (rn_ptr rfl rfl rfl rfl), (rn_b rfl), (rn_ptr rfl rfl rfl rfl), (rn_b rfl), (rn_b ((encI .u8).blws 0)), (rn_b rfl), (rn_b rfl), trivial⟩)
          · refine E_reg ?_
            refine E_op0 (v' := (.ptr 1 0 1)) rfl rfl ?_
            refine E_op (v' := (.ref 2 1 0 (List.length s_7.2) none)) (S' := [.arr 0 [(.int .i64 0), .nils, (.bool false), (.int .i64 0), .nils], .arr 0 [(.int .i64 (I64 num_2.1)), (.ref 2 1 0 (List.length s_7.2) none), (.bool (ByteArray.toList y_3 == ByteArray.toList (ByteArray.mk #[49]))), (.int .i64 (-1)), .nils], .arr 1 (flat (avI .u8) s_7.2)]) rfl rfl rfl ?_
            refine E_mv (v' := (.int .i64 ind_11)) rfl ?_
            refine E_op0 (v' := (.int .i64 (if 0 > ind_11 then 0 else ind_11))) rfl rfl ?_
            refine E_op0 (v' := (.int .u8 (U8 (if 0 > ind_11 then 0 else ind_11)))) rfl rfl ?_
            refine E_opw (v' := (.sl true 1 (List.map (avI .u8) [(U8 (if 0 > ind_11 then 0 else ind_11))]))) rfl (.refl _) rfl ?_
            obtain ⟨l_14, hl_14, h⟩ := bd_some h
            refine E_apL (S' := [.arr 0 [(.int .i64 0), .nils, (.bool false), (.int .i64 0), .nils], .arr 0 [(.int .i64 (I64 num_2.1)), (.ref 2 1 0 (List.length s_7.2) none), (.bool (ByteArray.toList y_3 == ByteArray.toList (ByteArray.mk #[49]))), (.int .i64 (-1)), .nils], .arr 2 (flat (avI .u8) l_14)]) (encI .u8) rfl (src_sl [(U8 (if 0 > ind_11 then 0 else ind_11))]) rfl hl_14 rfl ?_
            refine E_op0 (v' := (.ptr 1 0 1)) rfl rfl ?_
            refine E_do (S' := [.arr 0 [(.int .i64 0), .nils, (.bool false), (.int .i64 0), .nils], .arr 0 [(.int .i64 (I64 num_2.1)), (.ref 2 2 0 (List.length l_14) none), (.bool (ByteArray.toList y_3 == ByteArray.toList (ByteArray.mk #[49]))), (.int .i64 (-1)), .nils], .arr 2 (flat (avI .u8) l_14)]) rfl rfl ?_
            refine E_nil ?_
            cases h
            exact L_nn rfl (wk_rn [some (0, 0), some (1, 0), some (2, 0)] rfl (Nat.le_of_ble_eq_true rfl) ⟨(rn_ob rfl rfl (.cons (rn_b rfl) (.cons (rn_b rfl) (.cons (rn_b rfl) (.cons (rn_b rfl) (.cons (rn_b rfl) (.nil (Nat.zero_le _))))))) rfl), (rn_ob rfl rfl (.cons (rn_b rfl) (.cons (rn_refL (encI .u8) rfl rfl rfl) (.cons (rn_b rfl) (.cons (rn_b rfl) (.cons (rn_b rfl) (.nil (Nat.zero_le _))))))) rfl), (rn_ob rfl rfl (.refl ((encI .u8).blwf 0 _)) rfl), trivial⟩ ⟨(rn_b rfl), (rn_b rfl), (rn_b (encS.blws 0)), (rn_ptr rfl rfl rfl rfl), (rn_b rfl), (rn_ptr rfl rfl rfl rfl), (rn_b ((encI .u8).blws 0)), trivial⟩)
        · exact X_jp _ h hw (wk_rn [some (0, 0), some (1, 0), some (2, 0)] rfl (Nat.le_of_ble_eq_true rfl) ⟨(rn_ob rfl rfl (.cons (rn_b rfl) (.cons (rn_b rfl) (.cons (rn_b rfl) (.cons (rn_b rfl) (.cons (rn_b rfl) (.nil (Nat.zero_le _))))))) rfl), (rn_ob rfl rfl (.cons (rn_b rfl) (.cons (rn_refL (encI .u8) rfl rfl rfl) (.cons (rn_b rfl) (.cons (rn_b rfl) (.cons (rn_b rfl) (.nil (Nat.zero_le _))))))) rfl), (rn_ob rfl rfl (.refl ((encI .u8).blwf 0 _)) rfl), trivial⟩ ⟨(rn_b (encS.blws 0)), (rn_ptr rfl rfl rfl rfl), (rn_b rfl), (rn_ptr rfl rfl rfl rfl), trivial⟩)
      · rw [ite_f hb] at h
        refine E_skip ?_
        exact E_jx _ h (wk_rn [some (0, 0), some (1, 0), none] rfl (Nat.le_of_ble_eq_true rfl) ⟨(rn_ob rfl rfl (.cons (rn_b rfl) (.cons (rn_b rfl) (.cons (rn_b rfl) (.cons (rn_b rfl) (.cons (rn_b rfl) (.nil (Nat.zero_le _))))))) rfl), (rn_ob rfl rfl (.cons (rn_b rfl) (.cons (rn_nil rfl) (.cons (rn_b rfl) (.cons (rn_b rfl) (.cons (rn_b rfl) (.nil (Nat.zero_le _))))))) rfl), (rn_obN rfl rfl rfl), trivial⟩ ⟨(rn_b (encS.blws 0)), (rn_ptr rfl rfl rfl rfl), (rn_b rfl), (rn_ptr rfl rfl rfl rfl), trivial⟩)
    · refine E_as ?_
      refine E_sq ?_
      refine E_reg ?_
      refine E_mv (v' := (.sl false 1 (List.map avS w_00))) rfl ?_
      obtain ⟨y_15, hy_15, h⟩ := bd_some h
      refine E_iadF rfl rfl hy_15 ?_
      refine E_op0 (v' := (.str y_15)) rfl rfl ?_
      refine E_op0 (v' := (.bool (!(ByteArray.toList y_15 == ByteArray.toList (ByteArray.mk #[45]))))) rfl rfl ?_
      refine E_nil ?_
      refine E_nx ?_
      refine E_jp h (fun s_17 => [(0, (.sl false 1 (List.map avS w_00))), (2, (.ptr 0 0 0)), (5, (.bool s_17.1)), (6, (.ptr 1 0 0))]) (fun s_17 => [.arr 0 [(.int .i64 0), .nils, (.bool false), (.int .i64 0), .nils], .arr 0 [(.int .i64 (I64 num_2.1)), (.ref 2 1 0 (List.length s_6.2) none), (.bool (ByteArray.toList y_3 == ByteArray.toList (ByteArray.mk #[49]))), (.int .i64 s_17.2), .nils], .arr 1 (flat (avI .u8) s_6.2)]) (fun k_16 h => ?_) (fun s_17 h => ?_)
      · refine E_cs (t := (!(ByteArray.toList y_15 == ByteArray.toList (ByteArray.mk #[45])))) rfl (fun hb => ?_) (fun hb => ?_)
        · rw [ite_t hb] at h
          refine E_sq ?_
          refine E_reg ?_
          refine E_mv (v' := (.sl false 1 (List.map avS w_00))) rfl ?_
          refine E_iadF rfl rfl hy_15 ?_
          refine E_op0 (v' := (.str y_15)) rfl rfl ?_
          obtain ⟨num_18, hnum_18, h⟩ := bd_some h
          refine E_callW (text_number_ev  hnum_18) rfl ⟨(.refl _), (.refl _), trivial⟩ (blwL_of ⟨rfl, rfl, trivial⟩) (tup_blw ⟨rfl, rfl, trivial⟩) ?_
          refine E_mv (v' := (.tup [(.int .u64 num_18.1), (.bool num_18.2)])) rfl ?_
          refine E_op0 (v' := (.int .u64 num_18.1)) rfl rfl ?_
          refine E_op0 (v' := (.bool num_18.2)) rfl rfl ?_
          refine E_mv (v' := (.int .u64 num_18.1)) rfl ?_
          refine E_mv (v' := (.bool num_18.2)) rfl ?_
          refine E_nil ?_
          refine E_nx ?_
          refine E_sq ?_
          refine E_reg ?_
          refine E_mv (v' := (.int .u64 num_18.1)) rfl ?_
          refine E_op0 (v' := (.int .i64 (I64 num_18.1))) rfl rfl ?_
          refine E_op0 (v' := (.ptr 1 0 3)) rfl rfl ?_
          refine E_do (S' := [.arr 0 [(.int .i64 0), .nils, (.bool false), (.int .i64 0), .nils], .arr 0 [(.int .i64 (I64 num_2.1)), (.ref 2 1 0 (List.length s_6.2) none), (.bool (ByteArray.toList y_3 == ByteArray.toList (ByteArray.mk #[49]))), (.int .i64 (I64 num_18.1)), .nils], .arr 1 (flat (avI .u8) s_6.2)]) rfl rfl ?_
          refine E_nil ?_
          refine E_nx ?_
          refine E_reg ?_
          refine E_mv (v' := (.bool s_6.1)) rfl ?_
          refine E_mv (v' := (.bool s_6.1)) rfl ?_
          refine E_gsT (b := s_6.1) rfl rfl rfl (fun hb => ?_) (fun hb => ?_)
          · rw [ite_t hb] at h
            refine E_mv (v' := (.bool num_18.2)) rfl ?_
            refine E_pt rfl rfl ?_
            refine E_mv (v' := (.bool num_18.2)) rfl ?_
            refine E_nil ?_
            exact E_jx _ h (wk_rn [some (0, 0), some (1, 0), some (2, 0)] rfl (Nat.le_of_ble_eq_true rfl) ⟨(rn_ob rfl rfl (.cons (rn_b rfl) (.cons (rn_b rfl) (.cons (rn_b rfl) (.cons (rn_b rfl) (.cons (rn_b rfl) (.nil (Nat.zero_le _))))))) rfl), (rn_ob rfl rfl (.cons (rn_b rfl) (.cons (rn_refL (encI .u8) rfl rfl rfl) (.cons (rn_b rfl) (.cons (rn_b rfl) (.cons (rn_b rfl) (.nil (Nat.zero_le _))))))) rfl), (rn_ob rfl rfl (.refl ((encI .u8).blwf 0 _)) rfl), trivial⟩ ⟨(rn_b (encS.blws 0)), (rn_ptr rfl rfl rfl rfl), (rn_b rfl), (rn_ptr rfl rfl rfl rfl), trivial⟩)
          · rw [ite_f hb] at h
            refine E_pf rfl rfl ?_
            refine E_mv (v' := (.bool false)) rfl ?_
            refine E_nil ?_
            exact E_jx _ h (wk_rn [some (0, 0), some (1, 0), some (2, 0)] rfl (Nat.le_of_ble_eq_true rfl) ⟨(rn_ob rfl rfl (.cons (rn_b rfl) (.cons (rn_b rfl) (.cons (rn_b rfl) (.cons (rn_b rfl) (.cons (rn_b rfl) (.nil (Nat.zero_le _))))))) rfl), (rn_ob rfl rfl (.cons (rn_b rfl) (.cons (rn_refL (encI .u8) rfl rfl rfl) (.cons (rn_b rfl) (.cons (rn_b rfl) (.cons (rn_b rfl) (.nil (Nat.zero_le _))))))) rfl), (rn_ob rfl rfl (.refl ((encI .u8).blwf 0 _)) rfl), trivial⟩ ⟨(rn_b (encS.blws 0)), (rn_ptr rfl rfl rfl rfl), (rn_b rfl), (rn_ptr rfl rfl rfl rfl), trivial⟩)
        · rw [ite_f hb] at h
          refine E_skip ?_
          exact E_jx _ h (wk_rn [some (0, 0), some (1, 0), some (2, 0)] rfl (Nat.le_of_ble_eq_true rfl) ⟨(rn_ob rfl rfl (.cons (rn_b rfl) (.cons (rn_b rfl) (.cons (rn_b rfl) (.cons (rn_b rfl) (.cons (rn_b rfl) (.nil (Nat.zero_le _))))))) rfl), (rn_ob rfl rfl (.cons (rn_b rfl) (.cons (rn_refL (encI .u8) rfl rfl rfl) (.cons (rn_b rfl) (.cons (rn_b rfl) (.cons (rn_b rfl) (.nil (Nat.zero_le _))))))) rfl), (rn_ob rfl rfl (.refl ((encI .u8).blwf 0 _)) rfl), trivial⟩ ⟨(rn_b (encS.blws 0)), (rn_ptr rfl rfl rfl rfl), (rn_b rfl), (rn_ptr rfl rfl rfl rfl), trivial⟩)
      · refine E_jp h (fun s_20 => [(2, (.ptr 0 0 0)), (3, (.bool s_20))]) (fun s_20 => [.arr 0 [(.int .i64 (I64 num_2.1)), (.ref 1 1 0 (List.length s_6.2) none), (.bool (ByteArray.toList y_3 == ByteArray.toList (ByteArray.mk #[49]))), (.int .i64 s_17.2), .nils], .arr 1 (flat (avI .u8) s_6.2)]) (fun k_19 h => ?_) (fun s_20 h => ?_)
        · refine E_regp ?_
          refine E_op (v' := (.agg [(.int .i64 (I64 num_2.1)), (.ref 2 1 0 (List.length s_6.2) none), (.bool (ByteArray.toList y_3 == ByteArray.toList (ByteArray.mk #[49]))), (.int .i64 s_17.2), .nils])) (S' := [.arr 0 [(.int .i64 0), .nils, (.bool false), (.int .i64 0), .nils], .arr 0 [(.int .i64 (I64 num_2.1)), (.ref 2 1 0 (List.length s_6.2) none), (.bool (ByteArray.toList y_3 == ByteArray.toList (ByteArray.mk #[49]))), (.int .i64 s_17.2), .nils], .arr 1 (flat (avI .u8) s_6.2)]) rfl rfl rfl ?_
          refine E_mv (v' := (.bool s_17.1)) rfl ?_
          refine E_mv (v' := (.bool s_17.1)) rfl ?_
          refine E_gsT (b := s_17.1) rfl rfl rfl (fun hb => ?_) (fun hb => ?_)
          · rw [ite_t hb] at h
            refine E_mv (v' := (.sl false 1 (List.map avS w_00))) rfl ?_
            refine E_gh rfl ?_
            obtain ⟨y_21, hy_21, h⟩ := bd_some h
            refine E_iadF rfl rfl hy_21 ?_
            refine E_gh rfl ?_
            refine E_op0 (v' := (.str y_21)) rfl rfl ?_
            refine E_gh rfl ?_
            refine E_op0 (v' := (.bool (ByteArray.toList y_21 == ByteArray.toList (ByteArray.mk #[48])))) rfl rfl ?_
            refine E_gh rfl ?_
            refine E_mv (v' := (.bool (ByteArray.toList y_21 == ByteArray.toList (ByteArray.mk #[48])))) rfl ?_
            refine E_gsT (b := (ByteArray.toList y_21 == ByteArray.toList (ByteArray.mk #[48]))) rfl rfl rfl (fun hb => ?_) (fun hb => ?_)
            · rw [ite_f hb] at h
              refine E_mv (v' := (.sl false 1 (List.map avS w_00))) rfl ?_
              refine E_gh rfl ?_
              refine E_iadF rfl rfl hy_21 ?_
              refine E_gh rfl ?_
              refine E_op0 (v' := (.str y_21)) rfl rfl ?_
              refine E_gh rfl ?_
              refine E_op0 (v' := (.bool (ByteArray.toList y_21 == ByteArray.toList (ByteArray.mk #[49])))) rfl rfl ?_
              refine E_gh rfl ?_
              refine E_pf rfl rfl ?_
              refine E_pt rfl rfl ?_
              refine E_do (S' := [.arr 0 [(.int .i64 (I64 num_2.1)), (.ref 2 1 0 (List.length s_6.2) none), (.bool (ByteArray.toList y_3 == ByteArray.toList (ByteArray.mk #[49]))), (.int .i64 s_17.2), .nils], .arr 0 [(.int .i64 (I64 num_2.1)), (.ref 2 1 0 (List.length s_6.2) none), (.bool (ByteArray.toList y_3 == ByteArray.toList (ByteArray.mk #[49]))), (.int .i64 s_17.2), .nils], .arr 1 (flat (avI .u8) s_6.2)]) rfl rfl ?_
              refine E_mv (v' := (.bool (ByteArray.toList y_21 == ByteArray.toList (ByteArray.mk #[49])))) rfl ?_
              refine E_nil ?_
              refine And.intro (by simp [okLog, nthL, okPair, hp, fpOf]) ?_
              exact E_jx _ h (wk_rn [some (0, 0), some (2, 0)] rfl (Nat.le_of_ble_eq_true rfl) ⟨(rn_ob rfl rfl (.cons (rn_b rfl) (.cons (rn_refL (encI .u8) rfl rfl rfl) (.cons (rn_b rfl) (.cons (rn_b rfl) (.cons (rn_b rfl) (.nil (Nat.zero_le _))))))) rfl), (rn_ob rfl rfl (.refl ((encI .u8).blwf 0 _)) rfl), trivial⟩ ⟨(rn_ptr rfl rfl rfl rfl), (rn_b rfl), trivial⟩)
            · rw [ite_t hb] at h
              refine E_gm rfl ?_
              refine E_gm rfl ?_
              refine E_gm rfl ?_
              refine E_gh rfl ?_
              refine E_pt rfl rfl ?_
              refine E_pt rfl rfl ?_
              refine E_do (S' := [.arr 0 [(.int .i64 (I64 num_2.1)), (.ref 2 1 0 (List.length s_6.2) none), (.bool (ByteArray.toList y_3 == ByteArray.toList (ByteArray.mk #[49]))), (.int .i64 s_17.2), .nils], .arr 0 [(.int .i64 (I64 num_2.1)), (.ref 2 1 0 (List.length s_6.2) none), (.bool (ByteArray.toList y_3 == ByteArray.toList (ByteArray.mk #[49]))), (.int .i64 s_17.2), .nils], .arr 1 (flat (avI .u8) s_6.2)]) rfl rfl ?_
              refine E_mv (v' := (.bool true)) rfl ?_
              refine E_nil ?_
              refine And.intro (by simp [okLog, nthL, okPair, hp, fpOf]) ?_
              exact E_jx _ h (wk_rn [some (0, 0), some (2, 0)] rfl (Nat.le_of_ble_eq_true rfl) ⟨(rn_ob rfl rfl (.cons (rn_b rfl) (.cons (rn_refL (encI .u8) rfl rfl rfl) (.cons (rn_b rfl) (.cons (rn_b rfl) (.cons (rn_b rfl) (.nil (Nat.zero_le _))))))) rfl), (rn_ob rfl rfl (.refl ((encI .u8).blwf 0 _)) rfl), trivial⟩ ⟨(rn_ptr rfl rfl rfl rfl), (rn_b rfl), trivial⟩)
          · rw [ite_f hb] at h
            refine E_gm rfl ?_
            refine E_gm rfl ?_
            refine E_gm rfl ?_
            refine E_gm rfl ?_
            refine E_gz rfl ?_
            refine E_gz rfl ?_
            refine E_gz rfl ?_
            refine E_gz rfl ?_
            refine E_gm rfl ?_
            refine E_pf rfl rfl ?_
            refine E_do (S' := [.arr 0 [(.int .i64 (I64 num_2.1)), (.ref 2 1 0 (List.length s_6.2) none), (.bool (ByteArray.toList y_3 == ByteArray.toList (ByteArray.mk #[49]))), (.int .i64 s_17.2), .nils], .arr 0 [(.int .i64 (I64 num_2.1)), (.ref 2 1 0 (List.length s_6.2) none), (.bool (ByteArray.toList y_3 == ByteArray.toList (ByteArray.mk #[49]))), (.int .i64 s_17.2), .nils], .arr 1 (flat (avI .u8) s_6.2)]) rfl rfl ?_
            refine E_mv (v' := (.bool false)) rfl ?_
            refine E_nil ?_
            refine And.intro (by simp [okLog, nthL, okPair, hp, fpOf]) ?_
            exact E_jx _ h (wk_rn [some (0, 0), some (2, 0)] rfl (Nat.le_of_ble_eq_true rfl) ⟨(rn_ob rfl rfl (.cons (rn_b rfl) (.cons (rn_refL (encI .u8) rfl rfl rfl) (.cons (rn_b rfl) (.cons (rn_b rfl) (.cons (rn_b rfl) (.nil (Nat.zero_le _))))))) rfl), (rn_ob rfl rfl (.refl ((encI .u8).blwf 0 _)) rfl), trivial⟩ ⟨(rn_ptr rfl rfl rfl rfl), (rn_b rfl), trivial⟩)
        · refine E_ret ?_
          cases h
          exact ⟨trivial, _, rfl, (fz_tup ⟨(fz_agg ⟨(fz_b rfl (.refl _)), (fz_ref (encI .u8) (Nat.zero_le _) rfl), (fz_b rfl (.refl _)), (fz_b rfl (.refl _)), (fz_b rfl (.refl _)), trivial⟩), (fz_b rfl (.refl _)), trivial⟩)⟩
theorem windlassref04_begin_evN {fuel : Nat} {w_00 : (List ByteArray)} {r : (Func × Bool)} (h : windlassref04_begin_s fuel w_00 = some r) : PureEv Tryd.prog 58 [(.sl false 1 (List.map avS w_00))] (.tup [(FuncN.av r.1), (.bool r.2)]) := by
  unfold windlassref04_begin_s at h
  refine PureEv_end mixed fn58 (by simp) [2, 4, 55, 60] 6 ?_
  unfold fc58
  refine E_sq ?_
  refine E_reg ?_
  refine E_op (v' := .ptr 0 0 0) (S' := [.arr 0 [(.int .i64 0), .nils, (.bool false), (.int .i64 0), .nils]]) rfl rfl rfl ?_
  refine E_mv (v' := (.bool false)) rfl ?_
  refine E_nil ?_
  refine E_nx ?_
  refine E_sq ?_
  refine E_reg ?_
  refine E_op0 (v' := (.agg [(.int .i64 0), .nils, (.bool false), (.int .i64 (-1)), .nils])) rfl rfl ?_
  refine E_op (v' := .ptr 1 0 0) (S' := [.arr 0 [(.int .i64 0), .nils, (.bool false), (.int .i64 0), .nils], .arr 0 [(.int .i64 0), .nils, (.bool false), (.int .i64 0), .nils]]) rfl rfl rfl ?_
  refine E_do (S' := [.arr 0 [(.int .i64 0), .nils, (.bool false), (.int .i64 0), .nils], .arr 0 [(.int .i64 0), .nils, (.bool false), (.int .i64 (-1)), .nils]]) rfl rfl ?_
  refine E_nil ?_
  refine E_nx ?_
  refine E_as ?_
  refine E_sq ?_
  refine E_reg ?_
  refine E_mv (v' := (.sl false 1 (List.map avS w_00))) rfl ?_
  refine E_len rfl ?_
  refine E_op0 (v' := (.bool ((List.length w_00 : Int) != 5))) rfl rfl ?_
  refine E_nil ?_
  refine E_nx ?_
  refine E_sq ?_
  refine E_cs (t := ((List.length w_00 : Int) != 5)) rfl (fun hb => ?_) (fun hb => ?_)
  · rw [ite_t hb] at h
    refine E_sq ?_
    refine E_reg ?_
    refine E_opw (v' := (FuncN.av (Func.mk 0 [] false (-1) []))) rfl (.aggL ⟨(.refl _), .nil, (.refl _), (.refl _), (.refl _), trivial⟩) rfl ?_
    refine E_do (S' := [.arr 0 [(.int .i64 0), (.sl false 1 (List.map (avI .u8) [])), (.bool false), (.int .i64 (-1)), .nils], .arr 0 [(.int .i64 0), .nils, (.bool false), (.int .i64 (-1)), .nils]]) rfl rfl ?_
    refine E_mv (v' := (.bool false)) rfl ?_
    refine E_nil ?_
    refine E_nx ?_
    refine E_ret ?_
    refine E_thr ?_
    cases h
    exact ⟨trivial, _, rfl, (fz_tup ⟨(fz_agg ⟨(fz_b rfl (.refl _)), (fz_b ((encI .u8).blws 0) (.refl _)), (fz_b rfl (.refl _)), (fz_b rfl (.refl _)), (fz_b rfl (.refl _)), trivial⟩), (fz_b rfl (.refl _)), trivial⟩)⟩
  · rw [ite_f hb] at h
    refine E_skip ?_
    refine E_nx ?_
    refine E_sq ?_
    refine E_reg ?_
    refine E_mv (v' := (.sl false 1 (List.map avS w_00))) rfl ?_
    obtain ⟨y_1, hy_1, h⟩ := bd_some h
    refine E_iadF rfl rfl hy_1 ?_
    refine E_op0 (v' := (.str y_1)) rfl rfl ?_
    obtain ⟨val_2, hval_2, h⟩ := bd_some h
    refine E_callW (windlassref02_Value_ev (fuel := fuel)  hval_2) rfl ⟨(.refl _), trivial⟩ (blwL_of ⟨rfl, trivial⟩) (tup_blw ⟨rfl, rfl, trivial⟩) ?_
    refine E_mv (v' := (.tup [(.int .u64 val_2.1), (.bool val_2.2)])) rfl ?_
    refine E_op0 (v' := (.int .u64 val_2.1)) rfl rfl ?_
    refine E_op0 (v' := (.bool val_2.2)) rfl rfl ?_
    refine E_mv (v' := (.int .u64 val_2.1)) rfl ?_
    refine E_mv (v' := (.bool val_2.2)) rfl ?_
    refine E_nil ?_
    refine E_nx ?_
    refine E_as ?_
    refine E_jp h (fun s_4 => [(0, (.sl false 1 (List.map avS w_00))), (2, (.ptr 0 0 0)), (4, (.ptr 1 0 0)), (5, (.int .u64 val_2.1)), (27, (.bool s_4))]) (fun s_4 => [.arr 0 [(.int .i64 0), .nils, (.bool false), (.int .i64 0), .nils], .arr 0 [(.int .i64 0), .nils, (.bool false), (.int .i64 (-1)), .nils]]) (fun k_3 h => ?_) (fun s_4 h => ?_)
    · refine E_reg ?_
      refine E_mv (v' := (.bool val_2.2)) rfl ?_
      refine E_op0 (v' := (.bool (!val_2.2))) rfl rfl ?_
      refine E_mv (v' := (.bool (!val_2.2))) rfl ?_
      refine E_gsT (b := (!val_2.2)) rfl rfl rfl (fun hb => ?_) (fun hb => ?_)
      · rw [ite_f hb] at h
        refine E_mv (v' := (.int .u64 val_2.1)) rfl ?_
        refine E_gh rfl ?_
        refine E_op0 (v' := (.bool (decide (val_2.1 > 255)))) rfl rfl ?_
        refine E_pf rfl rfl ?_
        refine E_nil ?_
        exact E_jx _ h (wk_rn [some (0, 0), some (1, 0)] rfl (Nat.le_of_ble_eq_true rfl) ⟨(rn_ob rfl rfl (.cons (rn_b rfl) (.cons (rn_b rfl) (.cons (rn_b rfl) (.cons (rn_b rfl) (.cons (rn_b rfl) (.nil (Nat.zero_le _))))))) rfl), (rn_ob rfl rfl (.cons (rn_b rfl) (.cons (rn_b rfl) (.cons (rn_b rfl) (.cons (rn_b rfl) (.cons (rn_b rfl) (.nil (Nat.zero_le _))))))) rfl), trivial⟩ ⟨(rn_b (encS.blws 0)), (rn_ptr rfl rfl rfl rfl), (rn_ptr rfl rfl rfl rfl), (rn_b rfl), (rn_b rfl), trivial⟩)
      · rw [ite_t hb] at h
        refine E_gm rfl ?_
        refine E_pt rfl rfl ?_
        refine E_nil ?_
        exact E_jx _ h (wk_rn [some (0, 0), some (1, 0)] rfl (Nat.le_of_ble_eq_true rfl) ⟨(rn_ob rfl rfl (.cons (rn_b rfl) (.cons (rn_b rfl) (.cons (rn_b rfl) (.cons (rn_b rfl) (.cons (rn_b rfl) (.nil (Nat.zero_le _))))))) rfl), (rn_ob rfl rfl (.cons (rn_b rfl) (.cons (rn_b rfl) (.cons (rn_b rfl) (.cons (rn_b rfl) (.cons (rn_b rfl) (.nil (Nat.zero_le _))))))) rfl), trivial⟩ ⟨(rn_b (encS.blws 0)), (rn_ptr rfl rfl rfl rfl), (rn_ptr rfl rfl rfl rfl), (rn_b rfl), (rn_b rfl), trivial⟩)
    · refine E_sq ?_
      refine E_cs (t := s_4) rfl (fun hb => ?_) (fun hb => ?_)
      · rw [ite_t hb] at h
        refine E_sq ?_
        refine E_reg ?_
        refine E_opw (v' := (FuncN.av (Func.mk 0 [] false (-1) []))) rfl (.aggL ⟨(.refl _), .nil, (.refl _), (.refl _), (.refl _), trivial⟩) rfl ?_
        refine E_do (S' := [.arr 0 [(.int .i64 0), (.sl false 1 (List.map (avI .u8) [])), (.bool false), (.int .i64 (-1)), .nils], .arr 0 [(.int .i64 0), .nils, (.bool false), (.int .i64 (-1)), .nils]]) rfl rfl ?_
        refine E_mv (v' := (.bool false)) rfl ?_
        refine E_nil ?_
        refine E_nx ?_
        refine E_ret ?_
        refine E_thr ?_
        cases h
        exact ⟨trivial, _, rfl, (fz_tup ⟨(fz_agg ⟨(fz_b rfl (.refl _)), (fz_b ((encI .u8).blws 0) (.refl _)), (fz_b rfl (.refl _)), (fz_b rfl (.refl _)), (fz_b rfl (.refl _)), trivial⟩), (fz_b rfl (.refl _)), trivial⟩)⟩
      · rw [ite_f hb] at h
        refine E_skip ?_
        refine E_nx ?_
        refine E_sq ?_
        refine E_reg ?_
        refine E_mv (v' := (.int .u64 val_2.1)) rfl ?_
        refine E_op0 (v' := (.int .i64 (I64 val_2.1))) rfl rfl ?_
        refine E_op0 (v' := (.ptr 1 0 0)) rfl rfl ?_
        refine E_do (S' := [.arr 0 [(.int .i64 0), .nils, (.bool false), (.int .i64 0), .nils], .arr 0 [(.int .i64 (I64 val_2.1)), .nils, (.bool false), (.int .i64 (-1)), .nils]]) rfl rfl ?_
        refine E_nil ?_
        refine E_nx ?_
        refine E_as ?_
        refine E_sq ?_
        refine E_reg ?_
        refine E_mv (v' := (.int .i64 0)) rfl ?_
        refine E_nil ?_
        refine E_nx ?_
        refine E_sq ?_
        refine E_whileO (fun s_5 => [(0, (.sl false 1 (List.map avS w_00))), (2, (.ptr 0 0 0)), (4, (.ptr 1 0 0)), (7, (.int .i64 s_5.1))]) (fun s_5 => [.arr 0 [(.int .i64 0), .nils, (.bool false), (.int .i64 0), .nils], .arr 0 [(.int .i64 (I64 val_2.1)), (.ref 2 1 0 (List.length s_5.2) none), (.bool false), (.int .i64 (-1)), .nils], .arr 1 (flat (avI .u8) s_5.2)]) h (wk_rn [some (0, 0), some (1, 0), none] rfl (Nat.le_of_ble_eq_true rfl) ⟨(rn_ob rfl rfl (.cons (rn_b rfl) (.cons (rn_b rfl) (.cons (rn_b rfl) (.cons (rn_b rfl) (.cons (rn_b rfl) (.nil (Nat.zero_le _))))))) rfl), (rn_ob rfl rfl (.cons (rn_b rfl) (.cons (rn_nil rfl) (.cons (rn_b rfl) (.cons (rn_b rfl) (.cons (rn_b rfl) (.nil (Nat.zero_le _))))))) rfl), (rn_obN rfl rfl rfl), trivial⟩ ⟨(rn_b (encS.blws 0)), (rn_ptr rfl rfl rfl rfl), (rn_ptr rfl rfl rfl rfl), (rn_b rfl), trivial⟩) (fun s_5 c h => ?_) (fun s_5 fr' S' h hw => ?_)
        · refine E_as ?_
          refine E_jp h (fun s_7 => [(0, (.sl false 1 (List.map avS w_00))), (2, (.ptr 0 0 0)), (4, (.ptr 1 0 0)), (7, (.int .i64 s_5.1)), (43, (.bool s_7))]) (fun s_7 => [.arr 0 [(.int .i64 0), .nils, (.bool false), (.int .i64 0), .nils], .arr 0 [(.int .i64 (I64 val_2.1)), (.ref 2 1 0 (List.length s_5.2) none), (.bool false), (.int .i64 (-1)), .nils], .arr 1 (flat (avI .u8) s_5.2)]) (fun k_6 h => ?_) (fun s_7 h => ?_)
          · refine E_reg ?_
            refine E_mv (v' := (.int .i64 s_5.1)) rfl ?_
            refine E_mv (v' := (.sl false 1 (List.map avS w_00))) rfl ?_
            obtain ⟨y_8, hy_8, h⟩ := bd_some h
            refine E_iadF rfl rfl hy_8 ?_
            refine E_op0 (v' := (.str y_8)) rfl rfl ?_
            refine E_op0 (v' := (.int .i64 (ByteArray.size y_8 : Int))) rfl rfl ?_
            refine E_op0 (v' := (.bool (decide (s_5.1 < (ByteArray.size y_8 : Int))))) rfl rfl ?_
            refine E_mv (v' := (.bool (decide (s_5.1 < (ByteArray.size y_8 : Int))))) rfl ?_
            refine E_gsT (b := (decide (s_5.1 < (ByteArray.size y_8 : Int)))) rfl rfl rfl (fun hb => ?_) (fun hb => ?_)
            · rw [ite_t hb] at h
              refine E_mv (v' := (.sl false 1 (List.map avS w_00))) rfl ?_
              refine E_gh rfl ?_
              refine E_iadF rfl rfl hy_8 ?_
              refine E_gh rfl ?_
              refine E_op0 (v' := (.str y_8)) rfl rfl ?_
              refine E_gh rfl ?_
              refine E_op0 (v' := (.bool (!(ByteArray.toList y_8 == ByteArray.toList (ByteArray.mk #[45]))))) rfl rfl ?_
              refine E_pt rfl rfl ?_
              refine E_nil ?_
              exact E_jx _ h (wk_rn [some (0, 0), some (1, 0), some (2, 0)] rfl (Nat.le_of_ble_eq_true rfl) ⟨(rn_ob rfl rfl (.cons (rn_b rfl) (.cons (rn_b rfl) (.cons (rn_b rfl) (.cons (rn_b rfl) (.cons (rn_b rfl) (.nil (Nat.zero_le _))))))) rfl), (rn_ob rfl rfl (.cons (rn_b rfl) (.cons (rn_refL (encI .u8) rfl rfl rfl) (.cons (rn_b rfl) (.cons (rn_b rfl) (.cons (rn_b rfl) (.nil (Nat.zero_le _))))))) rfl), (rn_ob rfl rfl (.refl ((encI .u8).blwf 0 _)) rfl), trivial⟩ ⟨(rn_b (encS.blws 0)), (rn_ptr rfl rfl rfl rfl), (rn_ptr rfl rfl rfl rfl), (rn_b rfl), (rn_b rfl), trivial⟩)
            · rw [ite_f hb] at h
              refine E_gm rfl ?_
              refine E_gm rfl ?_
              refine E_gm rfl ?_
              refine E_pf rfl rfl ?_
              refine E_nil ?_
              exact E_jx _ h (wk_rn [some (0, 0), some (1, 0), some (2, 0)] rfl (Nat.le_of_ble_eq_true rfl) ⟨(rn_ob rfl rfl (.cons (rn_b rfl) (.cons (rn_b rfl) (.cons (rn_b rfl) (.cons (rn_b rfl) (.cons (rn_b rfl) (.nil (Nat.zero_le _))))))) rfl), (rn_ob rfl rfl (.cons (rn_b rfl) (.cons (rn_refL (encI .u8) rfl rfl rfl) (.cons (rn_b rfl) (.cons (rn_b rfl) (.cons (rn_b rfl) (.nil (Nat.zero_le _))))))) rfl), (rn_ob rfl rfl (.refl ((encI .u8).blwf 0 _)) rfl), trivial⟩ ⟨(rn_b (encS.blws 0)), (rn_ptr rfl rfl rfl rfl), (rn_ptr rfl rfl rfl rfl), (rn_b rfl), (rn_b rfl), trivial⟩)
          · refine E_sq ?_
            refine E_cs (t := s_7) rfl (fun hb => ?_) (fun hb => ?_)
            · rw [ite_t hb] at h
              refine E_skip ?_
              refine E_nx ?_
              refine E_jp h (fun s_10 => [(0, (.sl false 1 (List.map avS w_00))), (2, (.ptr 0 0 0)), (4, (.ptr 1 0 0)), (7, (.int .i64 s_5.1))]) (fun s_10 => [.arr 0 [(.int .i64 0), .nils, (.bool false), (.int .i64 0), .nils], .arr 0 [(.int .i64 (I64 val_2.1)), (.ref 2 1 0 (List.length s_10) none), (.bool false), (.int .i64 (-1)), .nils], .arr 1 (flat (avI .u8) s_10)]) (fun k_9 h => ?_) (fun s_10 h => ?_)
              · refine E_block ?_
                refine E_sq ?_
                refine E_reg ?_
                refine E_mv (v' := (.sl false 1 (List.map avS w_00))) rfl ?_
                obtain ⟨y_11, hy_11, h⟩ := bd_some h
                refine E_iadF rfl rfl hy_11 ?_
                refine E_op0 (v' := (.str y_11)) rfl rfl ?_
                refine E_mv (v' := (.int .i64 s_5.1)) rfl ?_
                obtain ⟨b_12, hb_12, h⟩ := bd_some h
                refine E_idxS rfl rfl hb_12 ?_
                refine E_op0 (v' := (.bool (b_12 == 112))) rfl rfl ?_
                refine E_nil ?_
                refine E_nx ?_
                refine E_cs (t := (b_12 == 112)) rfl (fun hb => ?_) (fun hb => ?_)
                · rw [ite_t hb] at h
                  refine E_reg ?_
                  refine E_op0 (v' := (.ptr 1 0 1)) rfl rfl ?_
                  refine E_op (v' := (.ref 2 1 0 (List.length s_5.2) none)) (S' := [.arr 0 [(.int .i64 0), .nils, (.bool false), (.int .i64 0), .nils], .arr 0 [(.int .i64 (I64 val_2.1)), (.ref 2 1 0 (List.length s_5.2) none), (.bool false), (.int .i64 (-1)), .nils], .arr 1 (flat (avI .u8) s_5.2)]) rfl rfl rfl ?_
                  refine E_opw (v' := (.sl true 1 (List.map (avI .u8) [1]))) rfl (.refl _) rfl ?_
                  obtain ⟨l_13, hl_13, h⟩ := bd_some h
                  refine E_apL (S' := [.arr 0 [(.int .i64 0), .nils, (.bool false), (.int .i64 0), .nils], .arr 0 [(.int .i64 (I64 val_2.1)), (.ref 2 1 0 (List.length s_5.2) none), (.bool false), (.int .i64 (-1)), .nils], .arr 2 (flat (avI .u8) l_13)]) (encI .u8) rfl (src_sl [1]) rfl hl_13 rfl ?_
                  refine E_op0 (v' := (.ptr 1 0 1)) rfl rfl ?_
                  refine E_do (S' := [.arr 0 [(.int .i64 0), .nils, (.bool false), (.int .i64 0), .nils], .arr 0 [(.int .i64 (I64 val_2.1)), (.ref 2 2 0 (List.length l_13) none), (.bool false), (.int .i64 (-1)), .nils], .arr 2 (flat (avI .u8) l_13)]) rfl rfl ?_
                  refine E_nil ?_
                  refine E_bln ?_
                  exact E_jx _ h (wk_rn [some (0, 0), some (1, 0), some (2, 0)] rfl (Nat.le_of_ble_eq_true rfl) ⟨(rn_ob rfl rfl (.cons (rn_b rfl) (.cons (rn_b rfl) (.cons (rn_b rfl) (.cons (rn_b rfl) (.cons (rn_b rfl) (.nil (Nat.zero_le _))))))) rfl), (rn_ob rfl rfl (.cons (rn_b rfl) (.cons (rn_refL (encI .u8) rfl rfl rfl) (.cons (rn_b rfl) (.cons (rn_b rfl) (.cons (rn_b rfl) (.nil (Nat.zero_le _))))))) rfl), (rn_ob rfl rfl (.refl ((encI .u8).blwf 0 _)) rfl), trivial⟩ ⟨(rn_b (encS.blws 0)), (rn_ptr rfl rfl rfl rfl), (rn_ptr rfl rfl rfl rfl), (rn_b rfl), trivial⟩)
                · rw [ite_f hb] at h
                  refine E_reg ?_
                  refine E_op0 (v' := (.ptr 1 0 1)) rfl rfl ?_
                  refine E_op (v' := (.ref 2 1 0 (List.length s_5.2) none)) (S' := [.arr 0 [(.int .i64 0), .nils, (.bool false), (.int .i64 0), .nils], .arr 0 [(.int .i64 (I64 val_2.1)), (.ref 2 1 0 (List.length s_5.2) none), (.bool false), (.int .i64 (-1)), .nils], .arr 1 (flat (avI .u8) s_5.2)]) rfl rfl rfl ?_
                  refine E_opw (v' := (.sl true 1 (List.map (avI .u8) [0]))) rfl (.refl _) rfl ?_
                  obtain ⟨l_14, hl_14, h⟩ := bd_some h
                  refine E_apL (S' := [.arr 0 [(.int .i64 0), .nils, (.bool false), (.int .i64 0), .nils], .arr 0 [(.int .i64 (I64 val_2.1)), (.ref 2 1 0 (List.length s_5.2) none), (.bool false), (.int .i64 (-1)), .nils], .arr 2 (flat (avI .u8) l_14)]) (encI .u8) rfl (src_sl [0]) rfl hl_14 rfl ?_
                  refine E_op0 (v' := (.ptr 1 0 1)) rfl rfl ?_
                  refine E_do (S' := [.arr 0 [(.int .i64 0), .nils, (.bool false), (.int .i64 0), .nils], .arr 0 [(.int .i64 (I64 val_2.1)), (.ref 2 2 0 (List.length l_14) none), (.bool false), (.int .i64 (-1)), .nils], .arr 2 (flat (avI .u8) l_14)]) rfl rfl ?_
                  refine E_nil ?_
                  refine E_bln ?_
                  exact E_jx _ h (wk_rn [some (0, 0), some (1, 0), some (2, 0)] rfl (Nat.le_of_ble_eq_true rfl) ⟨(rn_ob rfl rfl (.cons (rn_b rfl) (.cons (rn_b rfl) (.cons (rn_b rfl) (.cons (rn_b rfl) (.cons (rn_b rfl) (.nil (Nat.zero_le _))))))) rfl), (rn_ob rfl rfl (.cons (rn_b rfl) (.cons (rn_refL (encI .u8) rfl rfl rfl) (.cons (rn_b rfl) (.cons (rn_b rfl) (.cons (rn_b rfl) (.nil (Nat.zero_le _))))))) rfl), (rn_ob rfl rfl (.refl ((encI .u8).blwf 0 _)) rfl), trivial⟩ ⟨(rn_b (encS.blws 0)), (rn_ptr rfl rfl rfl rfl), (rn_ptr rfl rfl rfl rfl), (rn_b rfl), trivial⟩)
              · refine E_reg ?_
                refine E_mv (v' := (.int .i64 s_5.1)) rfl ?_
                refine E_op0 (v' := (.int .i64 (I64 (s_5.1 + 1)))) rfl rfl ?_
                refine E_mv (v' := (.int .i64 (I64 (s_5.1 + 1)))) rfl ?_
                refine E_nil ?_
                cases h
                exact L_nn rfl (wk_rn [some (0, 0), some (1, 0), some (2, 0)] rfl (Nat.le_of_ble_eq_true rfl) ⟨(rn_ob rfl rfl (.cons (rn_b rfl) (.cons (rn_b rfl) (.cons (rn_b rfl) (.cons (rn_b rfl) (.cons (rn_b rfl) (.nil (Nat.zero_le _))))))) rfl), (rn_ob rfl rfl (.cons (rn_b rfl) (.cons (rn_refL (encI .u8) rfl rfl rfl) (.cons (rn_b rfl) (.cons (rn_b rfl) (.cons (rn_b rfl) (.nil (Nat.zero_le _))))))) rfl), (rn_ob rfl rfl (.refl ((encI .u8).blwf 0 _)) rfl), trivial⟩ ⟨(rn_b (encS.blws 0)), (rn_ptr rfl rfl rfl rfl), (rn_ptr rfl rfl rfl rfl), (rn_b rfl), trivial⟩)
            · rw [ite_f hb] at h
              refine E_exit ?_
              refine E_the ?_
              cases h
              exact L_bk rfl rfl rfl (wk_rn [some (0, 0), some (1, 0), some (2, 0)] rfl (Nat.le_of_ble_eq_true rfl) ⟨(rn_ob rfl rfl (.cons (rn_b rfl) (.cons (rn_b rfl) (.cons (rn_b rfl) (.cons (rn_b rfl) (.cons (rn_b rfl) (.nil (Nat.zero_le _))))))) rfl), (rn_ob rfl rfl (.cons (rn_b rfl) (.cons (rn_refL (encI .u8) rfl rfl rfl) (.cons (rn_b rfl) (.cons (rn_b rfl) (.cons (rn_b rfl) (.nil (Nat.zero_le _))))))) rfl), (rn_ob rfl rfl (.refl ((encI .u8).blwf 0 _)) rfl), trivial⟩ ⟨(rn_b (encS.blws 0)), (rn_ptr rfl rfl rfl rfl), (rn_ptr rfl rfl rfl rfl), (rn_b rfl), trivial⟩)
        · refine X_nx hw ?_
          refine E_sq ?_
          refine E_reg ?_
          refine E_mv (v' := (.sl false 1 (List.map avS w_00))) rfl ?_
          obtain ⟨y_15, hy_15, h⟩ := bd_some h
          refine E_iadF rfl rfl hy_15 ?_
          refine E_op0 (v' := (.str y_15)) rfl rfl ?_
          refine E_op0 (v' := (.bool (ByteArray.toList y_15 == ByteArray.toList (ByteArray.mk #[49])))) rfl rfl ?_
          refine E_op0 (v' := (.ptr 1 0 2)) rfl rfl ?_
          refine E_do (S' := [.arr 0 [(.int .i64 0), .nils, (.bool false), (.int .i64 0), .nils], .arr 0 [(.int .i64 (I64 val_2.1)), (.ref 2 1 0 (List.length s_5.2) none), (.bool (ByteArray.toList y_15 == ByteArray.toList (ByteArray.mk #[49]))), (.int .i64 (-1)), .nils], .arr 1 (flat (avI .u8) s_5.2)]) rfl rfl ?_
          refine E_nil ?_
          refine E_nx ?_
          refine E_as ?_
          refine E_sq ?_
          refine E_reg ?_
          refine E_mv (v' := (.sl false 1 (List.map avS w_00))) rfl ?_
          obtain ⟨y_16, hy_16, h⟩ := bd_some h
          refine E_iadF rfl rfl hy_16 ?_
          refine E_op0 (v' := (.str y_16)) rfl rfl ?_
          refine E_op0 (v' := (.bool (!(ByteArray.toList y_16 == ByteArray.toList (ByteArray.mk #[45]))))) rfl rfl ?_
          refine E_nil ?_
          refine E_nx ?_
          refine E_jpw h (fun s_18 => [(0, (.sl false 1 (List.map avS w_00))), (2, (.ptr 0 0 0)), (4, (.ptr 1 0 0))]) (fun s_18 => [.arr 0 [(.int .i64 0), .nils, (.bool false), (.int .i64 0), .nils], .arr 0 [(.int .i64 (I64 val_2.1)), (.ref 2 1 0 (List.length s_5.2) none), (.bool (ByteArray.toList y_15 == ByteArray.toList (ByteArray.mk #[49]))), (.int .i64 s_18), .nils], .arr 1 (flat (avI .u8) s_5.2)]) (fun s_18 => [(0, (.sl false 1 (List.map avS w_00))), (2, (.ptr 0 0 0)), (4, (.ptr 1 0 0))]) (fun s_18 => [.arr 0 [(.int .i64 0), .nils, (.bool false), (.int .i64 0), .nils], .arr 0 [(.int .i64 (I64 val_2.1)), (.sl false 1 (List.map (avI .u8) s_5.2)), (.bool (ByteArray.toList y_15 == ByteArray.toList (ByteArray.mk #[49]))), (.int .i64 s_18), .nils]]) (fun s_18 => (wk_trans (fr'' := [(0, (.sl false 1 (List.map avS w_00))), (2, (.ptr 0 0 0)), (4, (.ptr 1 0 0))]) (S'' := [.arr 0 [(.int .i64 0), .nils, (.bool false), (.int .i64 0), .nils], .arr 0 [(.int .i64 (I64 val_2.1)), (.sl false 1 (List.map (avI .u8) s_5.2)), (.bool (ByteArray.toList y_15 == ByteArray.toList (ByteArray.mk #[49]))), (.int .i64 s_18), .nils]]) (wk_rn (fr' := [(0, (.sl false 1 (List.map avS w_00))), (2, (.ptr 0 0 0)), (4, (.ptr 1 0 0))]) (S' := [.arr 0 [(.int .i64 0), .nils, (.bool false), (.int .i64 0), .nils], .arr 0 [(.int .i64 (I64 val_2.1)), (.ref 2 1 0 (List.length s_5.2) none), (.bool (ByteArray.toList y_15 == ByteArray.toList (ByteArray.mk #[49]))), (.int .i64 s_18), .nils], .arr 1 (flat (avI .u8) s_5.2)]) [some (0, 0), some (1, 0), some (2, 0)] rfl (Nat.le_of_ble_eq_true rfl) ⟨(rn_ob rfl rfl (.cons (rn_b rfl) (.cons (rn_b rfl) (.cons (rn_b rfl) (.cons (rn_b rfl) (.cons (rn_b rfl) (.nil (Nat.zero_le _))))))) rfl), (rn_ob rfl rfl (.cons (rn_b rfl) (.cons (rn_refL (encI .u8) rfl rfl rfl) (.cons (rn_b rfl) (.cons (rn_b rfl) (.cons (rn_b rfl) (.nil (Nat.zero_le _))))))) rfl), (rn_ob rfl rfl (.refl ((encI .u8).blwf 0 _)) rfl), trivial⟩ ⟨(rn_b (encS.blws 0)), (rn_ptr rfl rfl rfl rfl), (rn_ptr rfl rfl rfl rfl), trivial⟩) (wk_fz 2 6 rfl ⟨⟨rfl, ⟨(fz_b rfl (.refl _)), (fz_b rfl (.refl _)), (fz_b rfl (.refl _)), (fz_b rfl (.refl _)), (fz_b rfl (.refl _)), trivial⟩⟩, ⟨rfl, ⟨(fz_b rfl (.refl _)), (fz_ref (encI .u8) (Nat.le_of_ble_eq_true rfl) rfl), (fz_b rfl (.refl _)), (fz_b rfl (.refl _)), (fz_b rfl (.refl _)), trivial⟩⟩, trivial⟩ ⟨(fz_b (encS.blws 2) (.refl _)), (fz_b rfl (.refl _)), (fz_b rfl (.refl _)), trivial⟩))) (fun k_17 h => ?_) (fun s_18 h => ?_)
          · refine E_cs (t := (!(ByteArray.toList y_16 == ByteArray.toList (ByteArray.mk #[45])))) rfl (fun hb => ?_) (fun hb => ?_)
            · rw [ite_t hb] at h
              refine E_sq ?_
              refine E_reg ?_
              refine E_mv (v' := (.sl false 1 (List.map avS w_00))) rfl ?_
              refine E_iadF rfl rfl hy_16 ?_
              refine E_op0 (v' := (.str y_16)) rfl rfl ?_
              obtain ⟨val_19, hval_19, h⟩ := bd_some h
              refine E_callW (windlassref02_Value_ev (fuel := fuel)  hval_19) rfl ⟨(.refl _), trivial⟩ (blwL_of ⟨rfl, trivial⟩) (tup_blw ⟨rfl, rfl, trivial⟩) ?_
              refine E_mv (v' := (.tup [(.int .u64 val_19.1), (.bool val_19.2)])) rfl ?_
              refine E_op0 (v' := (.int .u64 val_19.1)) rfl rfl ?_
              refine E_op0 (v' := (.bool val_19.2)) rfl rfl ?_
              refine E_mv (v' := (.int .u64 val_19.1)) rfl ?_
              refine E_mv (v' := (.bool val_19.2)) rfl ?_
              refine E_nil ?_
              refine E_nx ?_
              refine E_as ?_
              refine E_jp h (fun s_21 => [(0, (.sl false 1 (List.map avS w_00))), (2, (.ptr 0 0 0)), (4, (.ptr 1 0 0)), (8, (.int .u64 val_19.1)), (83, (.bool s_21))]) (fun s_21 => [.arr 0 [(.int .i64 0), .nils, (.bool false), (.int .i64 0), .nils], .arr 0 [(.int .i64 (I64 val_2.1)), (.ref 2 1 0 (List.length s_5.2) none), (.bool (ByteArray.toList y_15 == ByteArray.toList (ByteArray.mk #[49]))), (.int .i64 (-1)), .nils], .arr 1 (flat (avI .u8) s_5.2)]) (fun k_20 h => ?_) (fun s_21 h => ?_)
              · refine E_reg ?_
                refine E_mv (v' := (.bool val_19.2)) rfl ?_
                refine E_op0 (v' := (.bool (!val_19.2))) rfl rfl ?_
                refine E_mv (v' := (.bool (!val_19.2))) rfl ?_
                refine E_gsT (b := (!val_19.2)) rfl rfl rfl (fun hb => ?_) (fun hb => ?_)
                · rw [ite_f hb] at h
                  refine E_mv (v' := (.int .u64 val_19.1)) rfl ?_
                  refine E_gh rfl ?_
                  refine E_op0 (v' := (.bool (decide (val_19.1 > 254)))) rfl rfl ?_
                  refine E_pf rfl rfl ?_
                  refine E_nil ?_
                  exact E_jx _ h (wk_rn [some (0, 0), some (1, 0), some (2, 0)] rfl (Nat.le_of_ble_eq_true rfl) ⟨(rn_ob rfl rfl (.cons (rn_b rfl) (.cons (rn_b rfl) (.cons (rn_b rfl) (.cons (rn_b rfl) (.cons (rn_b rfl) (.nil (Nat.zero_le _))))))) rfl), (rn_ob rfl rfl (.cons (rn_b rfl) (.cons (rn_refL (encI .u8) rfl rfl rfl) (.cons (rn_b rfl) (.cons (rn_b rfl) (.cons (rn_b rfl) (.nil (Nat.zero_le _))))))) rfl), (rn_ob rfl rfl (.refl ((encI .u8).blwf 0 _)) rfl), trivial⟩ ⟨(rn_b (encS.blws 0)), (rn_ptr rfl rfl rfl rfl), (rn_ptr rfl rfl rfl rfl), (rn_b rfl), (rn_b rfl), trivial⟩)
                · rw [ite_t hb] at h
                  refine E_gm rfl ?_
                  refine E_pt rfl rfl ?_
                  refine E_nil ?_
                  exact E_jx _ h (wk_rn [some (0, 0), some (1, 0), some (2, 0)] rfl (Nat.le_of_ble_eq_true rfl) ⟨(rn_ob rfl rfl (.cons (rn_b rfl) (.cons (rn_b rfl) (.cons (rn_b rfl) (.cons (rn_b rfl) (.cons (rn_b rfl) (.nil (Nat.zero_le _))))))) rfl), (rn_ob rfl rfl (.cons (rn_b rfl) (.cons (rn_refL (encI .u8) rfl rfl rfl) (.cons (rn_b rfl) (.cons (rn_b rfl) (.cons (rn_b rfl) (.nil (Nat.zero_le _))))))) rfl), (rn_ob rfl rfl (.refl ((encI .u8).blwf 0 _)) rfl), trivial⟩ ⟨(rn_b (encS.blws 0)), (rn_ptr rfl rfl rfl rfl), (rn_ptr rfl rfl rfl rfl), (rn_b rfl), (rn_b rfl), trivial⟩)
              · refine E_sq ?_
                refine E_cs (t := s_21) rfl (fun hb => ?_) (fun hb => ?_)
                · rw [ite_t hb] at h
                  refine E_sq ?_
                  refine E_reg ?_
                  refine E_op (v' := (.agg [(.int .i64 (I64 val_2.1)), (.ref 2 1 0 (List.length s_5.2) none), (.bool (ByteArray.toList y_15 == ByteArray.toList (ByteArray.mk #[49]))), (.int .i64 (-1)), .nils])) (S' := [.arr 0 [(.int .i64 0), .nils, (.bool false), (.int .i64 0), .nils], .arr 0 [(.int .i64 (I64 val_2.1)), (.ref 2 1 0 (List.length s_5.2) none), (.bool (ByteArray.toList y_15 == ByteArray.toList (ByteArray.mk #[49]))), (.int .i64 (-1)), .nils], .arr 1 (flat (avI .u8) s_5.2)]) rfl rfl rfl ?_
                  refine E_do (S' := [.arr 0 [(.int .i64 (I64 val_2.1)), (.ref 2 1 0 (List.length s_5.2) none), (.bool (ByteArray.toList y_15 == ByteArray.toList (ByteArray.mk #[49]))), (.int .i64 (-1)), .nils], .arr 0 [(.int .i64 (I64 val_2.1)), (.ref 2 1 0 (List.length s_5.2) none), (.bool (ByteArray.toList y_15 == ByteArray.toList (ByteArray.mk #[49]))), (.int .i64 (-1)), .nils], .arr 1 (flat (avI .u8) s_5.2)]) rfl rfl ?_
                  refine E_mv (v' := (.bool false)) rfl ?_
                  refine E_nil ?_
                  refine E_nx ?_
                  refine E_ret ?_
                  refine E_thr ?_
                  refine E_thr ?_
                  cases h
                  exact ⟨trivial, _, rfl, (fz_tup ⟨(fz_agg ⟨(fz_b rfl (.refl _)), (fz_ref (encI .u8) (Nat.zero_le _) rfl), (fz_b rfl (.refl _)), (fz_b rfl (.refl _)), (fz_b rfl (.refl _)), trivial⟩), (fz_b rfl (.refl _)), trivial⟩)⟩
                · rw [ite_f hb] at h
                  refine E_skip ?_
                  refine E_nx ?_
                  refine E_reg ?_
                  refine E_mv (v' := (.int .u64 val_19.1)) rfl ?_
                  refine E_op0 (v' := (.int .i64 (I64 val_19.1))) rfl rfl ?_
                  refine E_op0 (v' := (.ptr 1 0 3)) rfl rfl ?_
                  refine E_do (S' := [.arr 0 [(.int .i64 0), .nils, (.bool false), (.int .i64 0), .nils], .arr 0 [(.int .i64 (I64 val_2.1)), (.ref 2 1 0 (List.length s_5.2) none), (.bool (ByteArray.toList y_15 == ByteArray.toList (ByteArray.mk #[49]))), (.int .i64 (I64 val_19.1)), .nils], .arr 1 (flat (avI .u8) s_5.2)]) rfl rfl ?_
                  refine E_nil ?_
                  exact E_jx _ h (wk_rn [some (0, 0), some (1, 0), some (2, 0)] rfl (Nat.le_of_ble_eq_true rfl) ⟨(rn_ob rfl rfl (.cons (rn_b rfl) (.cons (rn_b rfl) (.cons (rn_b rfl) (.cons (rn_b rfl) (.cons (rn_b rfl) (.nil (Nat.zero_le _))))))) rfl), (rn_ob rfl rfl (.cons (rn_b rfl) (.cons (rn_refL (encI .u8) rfl rfl rfl) (.cons (rn_b rfl) (.cons (rn_b rfl) (.cons (rn_b rfl) (.nil (Nat.zero_le _))))))) rfl), (rn_ob rfl rfl (.refl ((encI .u8).blwf 0 _)) rfl), trivial⟩ ⟨(rn_b (encS.blws 0)), (rn_ptr rfl rfl rfl rfl), (rn_ptr rfl rfl rfl rfl), trivial⟩)
            · rw [ite_f hb] at h
              refine E_skip ?_
              exact E_jx _ h (wk_rn [some (0, 0), some (1, 0), some (2, 0)] rfl (Nat.le_of_ble_eq_true rfl) ⟨(rn_ob rfl rfl (.cons (rn_b rfl) (.cons (rn_b rfl) (.cons (rn_b rfl) (.cons (rn_b rfl) (.cons (rn_b rfl) (.nil (Nat.zero_le _))))))) rfl), (rn_ob rfl rfl (.cons (rn_b rfl) (.cons (rn_refL (encI .u8) rfl rfl rfl) (.cons (rn_b rfl) (.cons (rn_b rfl) (.cons (rn_b rfl) (.nil (Nat.zero_le _))))))) rfl), (rn_ob rfl rfl (.refl ((encI .u8).blwf 0 _)) rfl), trivial⟩ ⟨(rn_b (encS.blws 0)), (rn_ptr rfl rfl rfl rfl), (rn_ptr rfl rfl rfl rfl), trivial⟩)
          · refine E_sq ?_
            refine E_regp ?_
            refine E_opw (v' := (FuncN.av (Func.mk (I64 val_2.1) s_5.2 (ByteArray.toList y_15 == ByteArray.toList (ByteArray.mk #[49])) s_18 []))) rfl (.aggL ⟨(.refl _), (.refl _), (.refl _), (.refl _), (.refl _), trivial⟩) rfl ?_
            refine E_opw (v' := (Func.av (Func.mk (I64 val_2.1) s_5.2 (ByteArray.toList y_15 == ByteArray.toList (ByteArray.mk #[49])) s_18 []))) rfl (.aggL ⟨(.refl _), (.refl _), (.refl _), (.refl _), .nil, trivial⟩) rfl ?_
            obtain ⟨hea_22, hhea_22, h⟩ := bd_some h
            refine E_callW (windlassref04_Head_ev (fuel := fuel)  hhea_22) rfl ⟨(.refl _), trivial⟩ (blwL_of ⟨(Func.enc.blw _ 0), trivial⟩) rfl ?_
            refine E_mv (v' := (.sl false 1 (List.map avS w_00))) rfl ?_
            obtain ⟨joi_23, hjoi_23, h⟩ := bd_some h
            refine E_callW (windlassref04_joined_ev  hjoi_23) rfl ⟨(.refl _), trivial⟩ (blwL_of ⟨(encS.blws 0), trivial⟩) rfl ?_
            refine E_op0 (v' := (.bool (ByteArray.toList hea_22 == ByteArray.toList joi_23))) rfl rfl ?_
            refine E_do (S' := [.arr 0 [(.int .i64 (I64 val_2.1)), (.sl false 1 (List.map (avI .u8) s_5.2)), (.bool (ByteArray.toList y_15 == ByteArray.toList (ByteArray.mk #[49]))), (.int .i64 s_18), .nils], .arr 0 [(.int .i64 (I64 val_2.1)), (.sl false 1 (List.map (avI .u8) s_5.2)), (.bool (ByteArray.toList y_15 == ByteArray.toList (ByteArray.mk #[49]))), (.int .i64 s_18), .nils]]) rfl rfl ?_
            refine E_mv (v' := (.bool (ByteArray.toList hea_22 == ByteArray.toList joi_23))) rfl ?_
            refine E_nil ?_
            refine And.intro (by simp [okLog, nthL, okPair, hp, fpOf]) ?_
            refine E_nx ?_
            refine E_ret ?_
            cases h
            exact ⟨trivial, _, rfl, (fz_tup ⟨(fz_agg ⟨(fz_b rfl (.refl _)), (fz_b ((encI .u8).blws 0) (.refl _)), (fz_b rfl (.refl _)), (fz_b rfl (.refl _)), (fz_b rfl (.refl _)), trivial⟩), (fz_b rfl (.refl _)), trivial⟩)⟩
def fc20 : FC := (.seq (.reg [⟨(some 2), none, .op (.new [.nils])⟩,
  ⟨(some 3), none, .op (.mv (.v (.int .i64 0)))⟩,
  ⟨(some 4), none, .op (.mv (.v (.int .i64 0)))⟩] [])
  (.seq (.reg [⟨(some 5), none, .op (.new [.nils])⟩] [])
  (.seq (.seq (.reg [⟨(some 13), none, .op (.mv (.t 0))⟩,
  ⟨(some 14), none, .call 47 [(.t 13), (.v (.str (ByteArray.mk #[10])))]⟩,
  ⟨(some 15), none, .op (.len .sl (.t 14))⟩,
  ⟨(some 16), none, .op (.mv (.v (.int .i64 0)))⟩] [])
  (.block 0 (.loop (.seq (.reg [⟨(some 17), none, .op (.bin .none .lss (.t 16) (.t 15))⟩] [])
  (.seq (.cond (.t 17)
  .skip
  (.exit 0))
  (.seq (.block 1 (.seq (.reg [⟨(some 18), none, .op (.mv (.t 16))⟩,
  ⟨(some 19), none, .op (.iad none none (.t 14) (.t 16))⟩,
  ⟨(some 20), none, .op (.load none (.t 19))⟩,
  ⟨(some 6), none, .op (.mv (.t 18))⟩,
  ⟨(some 7), none, .op (.mv (.t 20))⟩] [])
  (.seq (.reg [⟨(some 21), none, .op (.mv (.t 7))⟩,
  ⟨(some 22), none, .call 47 [(.t 21), (.v (.str (ByteArray.mk #[32])))]⟩,
  ⟨(some 23), none, .call 53 [(.t 22), (.v (.fn (.func 54) [] []))]⟩,
  ⟨(some 8), none, .op (.mv (.t 23))⟩] [])
  (.seq (.seq (.reg [⟨(some 24), none, .op (.mv (.t 8))⟩,
  ⟨(some 25), none, .op (.len .sl (.t 24))⟩,
  ⟨(some 26), none, .op (.bin .none .eql (.t 25) (.v (.int .i64 0)))⟩,
  ⟨(some 27), none, .op (.mv (.t 26))⟩,
  ⟨(some 28), some (27, false), .op (.mv (.t 8))⟩,
  ⟨(some 29), some (27, false), .op (.iad none none (.t 28) (.v (.int .i64 0)))⟩,
  ⟨(some 30), some (27, false), .op (.load none (.t 29))⟩,
  ⟨(some 31), some (27, false), .op (.idxs (.t 30) (.v (.int .i64 0)))⟩,
  ⟨(some 32), some (27, false), .op (.bin .none .eql (.t 31) (.v (.int .u8 35)))⟩,
  ⟨(some 33), none, .op (.pick (.t 27) (.v (.bool true)) (.t 32))⟩] [])
  (.cond (.t 33)
  (.exit 1)
  .skip))
  (.seq (.reg [⟨(some 9), none, .op (.mv (.v (.bool false)))⟩] [])
  (.seq (.seq (.reg [⟨(some 34), none, .op (.mv (.t 8))⟩,
  ⟨(some 35), none, .op (.iad none none (.t 34) (.v (.int .i64 0)))⟩,
  ⟨(some 36), none, .op (.load none (.t 35))⟩,
  ⟨(some 37), none, .op (.bin .none .eql (.t 36) (.v (.str (ByteArray.mk #[102, 117, 110, 99]))))⟩] [])
  (.cond (.t 37)
  (.seq (.reg [⟨(some 38), none, .op (.build [(.int .i64 0), .nils, (.bool false), (.int .i64 0), .nils] [])⟩,
  ⟨(some 10), none, .op (.new [(.int .i64 0), .nils, (.bool false), (.int .i64 0), .nils])⟩,
  ⟨none, none, .op (.store 5 (.t 10) (.t 38))⟩] [])
  (.seq (.reg [⟨(some 40), none, .op (.mv (.t 8))⟩,
  ⟨(some 41), none, .call 55 [(.t 40)]⟩,
  ⟨(some 39), none, .op (.mv (.t 41))⟩,
  ⟨(some 42), none, .op (.ext 0 (.t 39))⟩,
  ⟨(some 43), none, .op (.ext 1 (.t 39))⟩,
  ⟨none, none, .op (.store 5 (.t 10) (.t 42))⟩,
  ⟨(some 9), none, .op (.mv (.t 43))⟩] [])
  (.reg [⟨(some 44), none, .op (.fad 0 (.t 5))⟩,
  ⟨(some 45), none, .op (.load none (.t 44))⟩,
  ⟨(some 46), none, .op (.load (some 5) (.t 10))⟩,
  ⟨(some 47), none, .op (.bsl (some 5) [(.int .i64 0), .nils, (.bool false), (.int .i64 0), .nils] 1 [(0, 5, (.t 46))])⟩,
  ⟨(some 48), none, .op (.app (some 5) 72 (.t 45) (.t 47))⟩,
  ⟨(some 49), none, .op (.fad 0 (.t 5))⟩,
  ⟨none, none, .op (.store 1 (.t 49) (.t 48))⟩] [])))
  (.seq (.reg [⟨(some 50), none, .op (.fad 0 (.t 5))⟩,
  ⟨(some 51), none, .op (.load none (.t 50))⟩,
  ⟨(some 52), none, .op (.len .sl (.t 51))⟩,
  ⟨(some 53), none, .op (.bin .none .gtr (.t 52) (.v (.int .i64 0)))⟩] [])
  (.cond (.t 53)
  (.seq (.reg [⟨(some 54), none, .op (.build [(.int .u8 0), (.int .i64 0), (.int .u64 0)] [])⟩,
  ⟨(some 11), none, .op (.new [(.int .u8 0), (.int .i64 0), (.int .u64 0)])⟩,
  ⟨none, none, .op (.store 3 (.t 11) (.t 54))⟩] [])
  (.seq (.reg [⟨(some 56), none, .op (.mv (.t 8))⟩,
  ⟨(some 57), none, .call 56 [(.t 56)]⟩,
  ⟨(some 55), none, .op (.mv (.t 57))⟩,
  ⟨(some 58), none, .op (.ext 0 (.t 55))⟩,
  ⟨(some 59), none, .op (.ext 1 (.t 55))⟩,
  ⟨none, none, .op (.store 3 (.t 11) (.t 58))⟩,
  ⟨(some 9), none, .op (.mv (.t 59))⟩] [])
  (.seq (.reg [⟨(some 60), none, .op (.fad 0 (.t 5))⟩,
  ⟨(some 61), none, .op (.load none (.t 60))⟩,
  ⟨(some 62), none, .op (.fad 0 (.t 5))⟩,
  ⟨(some 63), none, .op (.load none (.t 62))⟩,
  ⟨(some 64), none, .op (.len .sl (.t 63))⟩,
  ⟨(some 65), none, .op (.bin .none .sub (.t 64) (.v (.int .i64 1)))⟩,
  ⟨(some 66), none, .op (.iad none (some 5) (.t 61) (.t 65))⟩,
  ⟨(some 12), none, .op (.mv (.t 66))⟩] [])
  (.reg [⟨(some 67), none, .op (.mv (.t 12))⟩,
  ⟨(some 68), none, .op (.mv (.t 12))⟩,
  ⟨(some 69), none, .op (.nchk (.t 68))⟩,
  ⟨(some 70), none, .op (.fad 4 (.t 69))⟩,
  ⟨(some 71), none, .op (.load none (.t 70))⟩,
  ⟨(some 72), none, .op (.load (some 3) (.t 11))⟩,
  ⟨(some 73), none, .op (.bsl (some 3) [(.int .u8 0), (.int .i64 0), (.int .u64 0)] 1 [(0, 3, (.t 72))])⟩,
  ⟨(some 74), none, .op (.app (some 3) 24 (.t 71) (.t 73))⟩,
  ⟨(some 75), none, .op (.nchk (.t 67))⟩,
  ⟨(some 76), none, .op (.fad 4 (.t 75))⟩,
  ⟨none, none, .op (.store 1 (.t 76) (.t 74))⟩] [(4, 6)]))))
  .skip))))
  (.seq (.reg [⟨(some 77), none, .op (.mv (.t 9))⟩,
  ⟨(some 78), none, .op (.un .not (.t 77))⟩] [])
  (.cond (.t 78)
  (.seq (.reg [⟨(some 79), none, .op (.build [.nils] [])⟩,
  ⟨(some 80), none, .op (.mv (.t 6))⟩,
  ⟨(some 81), none, .op (.bin .none .add (.t 80) (.v (.int .i64 1)))⟩,
  ⟨none, none, .op (.store 1 (.t 2) (.t 79))⟩,
  ⟨(some 3), none, .op (.mv (.t 81))⟩,
  ⟨(some 4), none, .op (.mv (.v (.int .i64 40)))⟩] [])
  .ret)
  .skip))))))))
  (.reg [⟨(some 82), none, .op (.bin .none .add (.t 16) (.v (.int .i64 1)))⟩,
  ⟨(some 16), none, .op (.mv (.t 82))⟩] [])))))))
  (.seq (.reg [⟨(some 83), none, .op (.load (some 1) (.t 5))⟩,
  ⟨none, none, .op (.store 1 (.t 2) (.t 83))⟩,
  ⟨(some 3), none, .op (.mv (.v (.int .i64 0)))⟩,
  ⟨(some 4), none, .op (.mv (.v (.int .i64 0)))⟩] [])
  .ret))))
theorem fn20 : Fn3 Tryd.prog 20 84 [(2, (some (some 1))), (3, none), (4, none)] fc20 := ⟨_, _, Tryd.func20, rfl, rfl, rfl, by kernel_rfl⟩
def text_Parse_s (text_00 : ByteArray) : Option (Program × Int × Int) :=
  ((strings_Split_s text_00 (ByteArray.mk #[10])).bind fun spl_1 => ((rng (fun (i_3 : Nat) (s_4 : ByteArray) (s_2 : (List Func)) => (((strings_Split_s s_4 (ByteArray.mk #[32])).bind fun wsp_6 => (delS wsp_6).bind fun spl_6 => (jp (fun (s_8 : Bool) => (if s_8 then (some (.nxt s_2)) else ((getI spl_6 0).bind fun y_11 => (jp (fun (s_13 : (Bool × (List Func))) => (if (!s_13.1) then (some (.ret (some ((Program.mk []), (I64 ((i_3 : Int) + 1)), 40)))) else (some (.nxt s_13.2)))) (fun k_12 => (if (ByteArray.toList y_11 == ByteArray.toList (ByteArray.mk #[102, 117, 110, 99])) then ((text_function_s spl_6).bind fun vfun_14 => ((pushF s_2 vfun_14.1).bind fun l_15 => (k_12 (vfun_14.2, l_15)))) else (if (decide ((List.length s_2 : Int) > 0)) then ((text_instruction_s spl_6).bind fun ins_16 => ((pushC s_2 ins_16.1).bind fun c_17 => (k_12 (ins_16.2, c_17)))) else (k_12 (false, s_2))))))))) (fun k_7 => (if ((List.length spl_6 : Int) == 0) then (k_7 true) else ((getI spl_6 0).bind fun y_9 => ((strI y_9 0).bind fun b_10 => (k_7 (b_10 == 35)))))))) : Option (Stp (List Func) (Option (Program × Int × Int))))) spl_1 []).bind (oc (fun (s_2 : (List Func)) => (some ((Program.mk s_2), 0, 0))))))
theorem text_Parse_ev {text_00 : ByteArray} {r : (Program × Int × Int)} (h : text_Parse_s text_00 = some r) : PureEv Tryd.prog 20 [(.str text_00)] (.tup [(Program.av r.1), (.int .i64 r.2.1), (.int .i64 r.2.2)]) := by
  unfold text_Parse_s at h
  refine PureEv_end mixed fn20 (by simp) [2, 5, 10, 11, 48] 6 ?_
  unfold fc20
  refine E_sq ?_
  refine E_reg ?_
  refine E_op (v' := .ptr 0 0 0) (S' := [.arr 0 [.nils]]) rfl rfl rfl ?_
  refine E_mv (v' := (.int .i64 0)) rfl ?_
  refine E_mv (v' := (.int .i64 0)) rfl ?_
  refine E_nil ?_
  refine E_nx ?_
  refine E_sq ?_
  refine E_reg ?_
  refine E_op (v' := .ptr 1 0 0) (S' := [.arr 0 [.nils], .arr 0 [.nils]]) rfl rfl rfl ?_
  refine E_nil ?_
  refine E_nx ?_
  refine E_as ?_
  refine E_sq ?_
  refine E_reg ?_
  refine E_mv (v' := (.str text_00)) rfl ?_
  obtain ⟨spl_1, hspl_1, h⟩ := bd_some h
  refine E_callW (strings_Split_ev  hspl_1) rfl ⟨(.refl _), (.refl _), trivial⟩ (blwL_of ⟨rfl, rfl, trivial⟩) (encS.blws 0) ?_
  refine E_len rfl ?_
  refine E_mv (v' := (.int .i64 0)) rfl ?_
  refine E_nil ?_
  refine E_nx ?_
  refine E_sq ?_
  refine E_rngO (fun s_2 => [(2, (.ptr 0 0 0)), (5, (.ptr 1 0 0)), (14, (.sl false 1 (List.map avS spl_1)))]) (fun s_2 => [.arr 0 [.nils], .arr 0 [(.ref 2 1 0 (List.length s_2) (some 5))], .arr 1 (fk Func.av 4 rF s_2), .arr 1 (flat Instr.av (lastL Func.Code s_2))]) h (by decide) (by decide) (fun _ => ⟨rfl, rfl, rfl, rfl⟩) (wk_rn [some (0, 0), some (1, 0), none, none] rfl (Nat.le_of_ble_eq_true rfl) ⟨(rn_ob rfl rfl (.cons (rn_b rfl) (.nil (Nat.zero_le _))) rfl), (rn_ob rfl rfl (.cons (rn_nil rfl) (.nil (Nat.zero_le _))) rfl), (rn_obN rfl rfl rfl), (rn_obN rfl rfl rfl), trivial⟩ ⟨(rn_b rfl), (rn_b rfl), (rn_ptr rfl rfl rfl rfl), (rn_ptr rfl rfl rfl rfl), (rn_b (encS.blws 0)), trivial⟩) (fun i_3 s_4 s_2 c hx_5 hlt h => ?_) (fun s_2 fr' S' h hw => ?_)
  · refine E_sq ?_
    refine E_reg ?_
    refine E_mv (v' := (.int .i64 (i_3 : Int))) rfl ?_
    refine E_iadF rfl rfl (getI_of hx_5) ?_
    refine E_op0 (v' := (.str s_4)) rfl rfl ?_
    refine E_mv (v' := (.int .i64 (i_3 : Int))) rfl ?_
    refine E_mv (v' := (.str s_4)) rfl ?_
    refine E_nil ?_
    refine E_nx ?_
    refine E_sq ?_
    refine E_reg ?_
    refine E_mv (v' := (.str s_4)) rfl ?_
    obtain ⟨wsp_6, hwsp_6, h⟩ := bd_some h
    obtain ⟨spl_6, hspl_6, h⟩ := bd_some h
    obtain ⟨hwd_6, rfl⟩ := delS_some hspl_6
    refine E_callF (S' := [.arr 0 [.nils], .arr 0 [(.ref 2 1 0 (List.length s_2) (some 5))], .arr 1 (fk Func.av 4 rF s_2), .arr 1 (flat Instr.av (lastL Func.Code s_2)), .arr 0 (flat avS wsp_6)]) (r' := (.ref 4 0 0 wsp_6.length none)) (strings_Split_o_ev hwsp_6) [] rfl rfl (by decide) rfl rfl trivial ⟨(fr_outN rfl rfl (.refl (encS.blwf 0 _)) rfl), trivial⟩ ⟨.inr rfl, .inr rfl, .inr rfl, .inr rfl, trivial⟩ rfl (.cons (rn_b rfl) (.cons (rn_b rfl) (.nil (Nat.zero_le _)))) (fo_ref rfl rfl rfl rfl) ?_
    refine E_callF (S' := [.arr 0 [.nils], .arr 0 [(.ref 2 1 0 (List.length s_2) (some 5))], .arr 1 (fk Func.av 4 rF s_2), .arr 1 (flat Instr.av (lastL Func.Code s_2)), .arr 1 (flat avS (delE wsp_6))]) (r' := (.ref 4 1 0 (delE wsp_6).length none)) (slices_DeleteFunc_0_ev (ver := 0) hwd_6.1 hwd_6.2) [4] rfl rfl (by decide) rfl rfl ⟨(fr_in rfl rfl (.refl (encS.blwf 0 _))), trivial⟩ ⟨(fr_out rfl rfl (.refl (encS.blwf 0 _)) rfl rfl), trivial⟩ ⟨.inr rfl, .inr rfl, .inr rfl, .inr rfl, .inl rfl, trivial⟩ rfl (.cons (fi_ref rfl rfl rfl rfl) (.cons (rn_b rfl) (.nil (Nat.zero_le _)))) (fo_ref rfl rfl rfl rfl) ?_
    refine E_mv (v' := (.ref 4 1 0 (delE wsp_6).length none)) rfl ?_
    refine E_nil ?_
    refine E_nxw (F := [(2, (.ptr 0 0 0)), (5, (.ptr 1 0 0)), (6, (.int .i64 (i_3 : Int))), (8, (.sl false 1 (List.map avS (delE wsp_6)))), (14, (.sl false 1 (List.map avS spl_1))), (15, (.int .i64 (List.length spl_1 : Int))), (16, (.int .i64 (i_3 : Int)))]) (T := [.arr 0 [.nils], .arr 0 [(.ref 2 1 0 (List.length s_2) (some 5))], .arr 1 (fk Func.av 4 rF s_2), .arr 1 (flat Instr.av (lastL Func.Code s_2))]) (wk_fz 4 6 rfl ⟨⟨rfl, fzL_id rfl⟩, ⟨rfl, fzL_id rfl⟩, ⟨rfl, fzL_id (fk_blw Func.enc (fun _ => rfl) _)⟩, ⟨rfl, fzL_id (Instr.enc.blwf 4 _)⟩, trivial⟩ ⟨(fz_b rfl (.refl _)), (fz_b rfl (.refl _)), (fz_b rfl (.refl _)), (fz_ref encS (Nat.le_of_ble_eq_true rfl) rfl), (fz_b (encS.blws 4) (.refl _)), (fz_b rfl (.refl _)), (fz_b rfl (.refl _)), trivial⟩) ?_
    refine E_as ?_
    refine E_jp h (fun s_8 => [(2, (.ptr 0 0 0)), (5, (.ptr 1 0 0)), (6, (.int .i64 (i_3 : Int))), (8, (.sl false 1 (List.map avS (delE wsp_6)))), (14, (.sl false 1 (List.map avS spl_1))), (15, (.int .i64 (List.length spl_1 : Int))), (16, (.int .i64 (i_3 : Int))), (33, (.bool s_8))]) (fun s_8 => [.arr 0 [.nils], .arr 0 [(.ref 2 1 0 (List.length s_2) (some 5))], .arr 1 (fk Func.av 4 rF s_2), .arr 1 (flat Instr.av (lastL Func.Code s_2))]) (fun k_7 h => ?_) (fun s_8 h => ?_)
    · refine E_reg ?_
      refine E_mv (v' := (.sl false 1 (List.map avS (delE wsp_6)))) rfl ?_
      refine E_len rfl ?_
      refine E_op0 (v' := (.bool ((List.length (delE wsp_6) : Int) == 0))) rfl rfl ?_
      refine E_mv (v' := (.bool ((List.length (delE wsp_6) : Int) == 0))) rfl ?_
      refine E_gsT (b := ((List.length (delE wsp_6) : Int) == 0)) rfl rfl rfl (fun hb => ?_) (fun hb => ?_)
      · rw [ite_f hb] at h
        refine E_mv (v' := (.sl false 1 (List.map avS (delE wsp_6)))) rfl ?_
        refine E_gh rfl ?_
        obtain ⟨y_9, hy_9, h⟩ := bd_some h
        refine E_iadF rfl rfl hy_9 ?_
        refine E_gh rfl ?_
        refine E_op0 (v' := (.str y_9)) rfl rfl ?_
        refine E_gh rfl ?_
        obtain ⟨b_10, hb_10, h⟩ := bd_some h
        refine E_idxS rfl rfl hb_10 ?_
        refine E_gh rfl ?_
        refine E_op0 (v' := (.bool (b_10 == 35))) rfl rfl ?_
        refine E_pf rfl rfl ?_
        refine E_nil ?_
        exact E_jx _ h (wk_rn [some (0, 0), some (1, 0), some (2, 0), some (3, 0)] rfl (Nat.le_of_ble_eq_true rfl) ⟨(rn_ob rfl rfl (.cons (rn_b rfl) (.nil (Nat.zero_le _))) rfl), (rn_ob rfl rfl (.cons (rn_refK Func.enc rfl rfl rfl rfl rfl) (.nil (Nat.zero_le _))) rfl), (rn_ob rfl rfl (rnl_fk Func.enc (fun _ _ hx => rn_kid Instr.enc hx rfl rfl rfl)) rfl), (rn_ob rfl rfl (.refl (Instr.enc.blwf 0 _)) rfl), trivial⟩ ⟨(rn_ptr rfl rfl rfl rfl), (rn_ptr rfl rfl rfl rfl), (rn_b rfl), (rn_b (encS.blws 0)), (rn_b (encS.blws 0)), (rn_b rfl), (rn_b rfl), (rn_b rfl), trivial⟩)
      · rw [ite_t hb] at h
        refine E_gm rfl ?_
        refine E_gm rfl ?_
        refine E_gm rfl ?_
        refine E_gm rfl ?_
        refine E_pt rfl rfl ?_
        refine E_nil ?_
        exact E_jx _ h (wk_rn [some (0, 0), some (1, 0), some (2, 0), some (3, 0)] rfl (Nat.le_of_ble_eq_true rfl) ⟨(rn_ob rfl rfl (.cons (rn_b rfl) (.nil (Nat.zero_le _))) rfl), (rn_ob rfl rfl (.cons (rn_refK Func.enc rfl rfl rfl rfl rfl) (.nil (Nat.zero_le _))) rfl), (rn_ob rfl rfl (rnl_fk Func.enc (fun _ _ hx => rn_kid Instr.enc hx rfl rfl rfl)) rfl), (rn_ob rfl rfl (.refl (Instr.enc.blwf 0 _)) rfl), trivial⟩ ⟨(rn_ptr rfl rfl rfl rfl), (rn_ptr rfl rfl rfl rfl), (rn_b rfl), (rn_b (encS.blws 0)), (rn_b (encS.blws 0)), (rn_b rfl), (rn_b rfl), (rn_b rfl), trivial⟩)
    · refine E_sq ?_
      refine E_cs (t := s_8) rfl (fun hb => ?_) (fun hb => ?_)
      · rw [ite_t hb] at h
        refine E_exit ?_
        refine E_the ?_
        cases h
        exact L_nx rfl rfl (wk_rn [some (0, 0), some (1, 0), some (2, 0), some (3, 0)] rfl (Nat.le_of_ble_eq_true rfl) ⟨(rn_ob rfl rfl (.cons (rn_b rfl) (.nil (Nat.zero_le _))) rfl), (rn_ob rfl rfl (.cons (rn_refK Func.enc rfl rfl rfl rfl rfl) (.nil (Nat.zero_le _))) rfl), (rn_ob rfl rfl (rnl_fk Func.enc (fun _ _ hx => rn_kid Instr.enc hx rfl rfl rfl)) rfl), (rn_ob rfl rfl (.refl (Instr.enc.blwf 0 _)) rfl), trivial⟩ ⟨(rn_b rfl), (rn_b rfl), (rn_ptr rfl rfl rfl rfl), (rn_ptr rfl rfl rfl rfl), (rn_b (encS.blws 0)), trivial⟩)
      · rw [ite_f hb] at h
        refine E_skip ?_
        refine E_nx ?_
        refine E_sq ?_
        refine E_reg ?_
        refine E_mv (v' := (.bool false)) rfl ?_
        refine E_nil ?_
        refine E_nx ?_
        refine E_as ?_
        refine E_sq ?_
        refine E_reg ?_
        refine E_mv (v' := (.sl false 1 (List.map avS (delE wsp_6)))) rfl ?_
        obtain ⟨y_11, hy_11, h⟩ := bd_some h
        refine E_iadF rfl rfl hy_11 ?_
        refine E_op0 (v' := (.str y_11)) rfl rfl ?_
        refine E_op0 (v' := (.bool (ByteArray.toList y_11 == ByteArray.toList (ByteArray.mk #[102, 117, 110, 99])))) rfl rfl ?_
        refine E_nil ?_
        refine E_nx ?_
        refine E_jp h (fun s_13 => [(2, (.ptr 0 0 0)), (5, (.ptr 1 0 0)), (6, (.int .i64 (i_3 : Int))), (9, (.bool s_13.1)), (14, (.sl false 1 (List.map avS spl_1))), (15, (.int .i64 (List.length spl_1 : Int))), (16, (.int .i64 (i_3 : Int)))]) (fun s_13 => [.arr 0 [.nils], .arr 0 [(.ref 2 1 0 (List.length s_13.2) (some 5))], .arr 1 (fk Func.av 4 rF s_13.2), .arr 1 (flat Instr.av (lastL Func.Code s_13.2))]) (fun k_12 h => ?_) (fun s_13 h => ?_)
        · refine E_cs (t := (ByteArray.toList y_11 == ByteArray.toList (ByteArray.mk #[102, 117, 110, 99]))) rfl (fun hb => ?_) (fun hb => ?_)
          · rw [ite_t hb] at h
            refine E_sq ?_
            refine E_reg ?_
            refine E_op0 (v' := (.agg [(.int .i64 0), .nils, (.bool false), (.int .i64 0), .nils])) rfl rfl ?_
            refine E_op (v' := .ptr 4 0 0) (S' := [.arr 0 [.nils], .arr 0 [(.ref 2 1 0 (List.length s_2) (some 5))], .arr 1 (fk Func.av 4 rF s_2), .arr 1 (flat Instr.av (lastL Func.Code s_2)), .arr 0 [(.int .i64 0), .nils, (.bool false), (.int .i64 0), .nils]]) rfl rfl rfl ?_
            refine E_do (S' := [.arr 0 [.nils], .arr 0 [(.ref 2 1 0 (List.length s_2) (some 5))], .arr 1 (fk Func.av 4 rF s_2), .arr 1 (flat Instr.av (lastL Func.Code s_2)), .arr 0 [(.int .i64 0), .nils, (.bool false), (.int .i64 0), .nils]]) rfl rfl ?_
            refine E_nil ?_
            refine E_nxw (F := [(2, (.ptr 0 0 0)), (5, (.ptr 1 0 0)), (6, (.int .i64 (i_3 : Int))), (8, (.sl false 1 (List.map avS (delE wsp_6)))), (14, (.sl false 1 (List.map avS spl_1))), (15, (.int .i64 (List.length spl_1 : Int))), (16, (.int .i64 (i_3 : Int))), (10, (.ptr 3 0 0))]) (T := [.arr 0 [.nils], .arr 0 [(.ref 2 1 0 (List.length (noN s_2)) (some 5))], .arr 1 (flat FB.av (noN s_2)), .arr 0 [(.int .i64 0), .nils, (.bool false), (.int .i64 0), .nils]]) (wk_trans (fr'' := [(2, (.ptr 0 0 0)), (5, (.ptr 1 0 0)), (6, (.int .i64 (i_3 : Int))), (8, (.sl false 1 (List.map avS (delE wsp_6)))), (14, (.sl false 1 (List.map avS spl_1))), (15, (.int .i64 (List.length spl_1 : Int))), (16, (.int .i64 (i_3 : Int))), (10, (.ptr 3 0 0))]) (S'' := [.arr 0 [.nils], .arr 0 [(.ref 2 1 0 (List.length (noN s_2)) (some 5))], .arr 1 (flat FB.av (noN s_2)), .arr 0 [(.int .i64 0), .nils, (.bool false), (.int .i64 0), .nils]]) (wk_rn (fr' := [(2, (.ptr 0 0 0)), (5, (.ptr 1 0 0)), (6, (.int .i64 (i_3 : Int))), (8, (.sl false 1 (List.map avS (delE wsp_6)))), (14, (.sl false 1 (List.map avS spl_1))), (15, (.int .i64 (List.length spl_1 : Int))), (16, (.int .i64 (i_3 : Int))), (10, (.ptr 3 0 0))]) (S' := [.arr 0 [.nils], .arr 0 [(.ref 2 1 0 (List.length s_2) (some 5))], .arr 1 (fk Func.av 4 rG s_2), .arr 0 [(.int .i64 0), .nils, (.bool false), (.int .i64 0), .nils], .arr 1 (flat Instr.av (lastL Func.Code s_2))]) [some (0, 0), some (1, 0), some (2, 0), some (4, 0), some (3, 0)] rfl (Nat.le_of_ble_eq_true rfl) ⟨(rn_ob rfl rfl (.cons (rn_b rfl) (.nil (Nat.zero_le _))) rfl), (rn_ob rfl rfl (.cons (rn_refK Func.enc rfl rfl rfl rfl rfl) (.nil (Nat.zero_le _))) rfl), (rn_ob rfl rfl (rnl_fk Func.enc (fun _ _ hx => rn_kid Instr.enc hx rfl rfl rfl)) rfl), (rn_ob rfl rfl (.refl (show blwL 0 _ = true from rfl)) rfl), (rn_ob rfl rfl (.refl (Instr.enc.blwf 0 _)) rfl), trivial⟩ ⟨(rn_ptr rfl rfl rfl rfl), (rn_ptr rfl rfl rfl rfl), (rn_b rfl), (rn_b (encS.blws 0)), (rn_b (encS.blws 0)), (rn_b rfl), (rn_b rfl), (rn_ptr rfl rfl rfl rfl), trivial⟩) (wk_fz 4 6 rfl ⟨⟨rfl, fzL_id rfl⟩, ⟨rfl, (by rw [noN_length]; exact fz_b rfl (.refl _)), trivial⟩, ⟨rfl, (by rw [flat_noN]; exact fzL_fk Func.enc (fun _ _ hx v hv => by cases hv; exact fz_kid Instr.enc hx (Nat.le_of_ble_eq_true rfl) rfl))⟩, ⟨rfl, fzL_id (show blwL 4 _ = true from rfl)⟩, trivial⟩ ⟨(fz_b rfl (.refl _)), (fz_b rfl (.refl _)), (fz_b rfl (.refl _)), (fz_b (encS.blws 4) (.refl _)), (fz_b (encS.blws 4) (.refl _)), (fz_b rfl (.refl _)), (fz_b rfl (.refl _)), (fz_b rfl (.refl _)), trivial⟩)) ?_
            refine E_sq ?_
            refine E_reg ?_
            refine E_mv (v' := (.sl false 1 (List.map avS (delE wsp_6)))) rfl ?_
            obtain ⟨vfun_14, hvfun_14, h⟩ := bd_some h
            refine E_callW (text_function_evN  hvfun_14) rfl ⟨(.refl _), trivial⟩ (blwL_of ⟨(encS.blws 0), trivial⟩) (tup_blw ⟨agg_blw ⟨rfl, (encI .u8).blws 0, rfl, rfl, rfl, trivial⟩, rfl, trivial⟩) ?_
            refine E_mv (v' := (.tup [(FB.av (vfun_14.1, true)), (.bool vfun_14.2)])) rfl ?_
            refine E_op0 (v' := (FB.av (vfun_14.1, true))) rfl rfl ?_
            refine E_op0 (v' := (.bool vfun_14.2)) rfl rfl ?_
            refine E_do (S' := [.arr 0 [.nils], .arr 0 [(.ref 2 1 0 (List.length (noN s_2)) (some 5))], .arr 1 (flat FB.av (noN s_2)), .arr 0 [(.int .i64 vfun_14.1.Params), (.sl false 1 (List.map (avI .u8) vfun_14.1.Locals)), (.bool vfun_14.1.Result), (.int .i64 vfun_14.1.Keep), .nils]]) rfl rfl ?_
            refine E_mv (v' := (.bool vfun_14.2)) rfl ?_
            refine E_nil ?_
            refine E_nx ?_
            refine E_reg ?_
            refine E_op0 (v' := (.ptr 1 0 0)) rfl rfl ?_
            refine E_op (v' := (.ref 2 1 0 (List.length (noN s_2)) (some 5))) (S' := [.arr 0 [.nils], .arr 0 [(.ref 2 1 0 (List.length (noN s_2)) (some 5))], .arr 1 (flat FB.av (noN s_2)), .arr 0 [(.int .i64 vfun_14.1.Params), (.sl false 1 (List.map (avI .u8) vfun_14.1.Locals)), (.bool vfun_14.1.Result), (.int .i64 vfun_14.1.Keep), .nils]]) rfl rfl rfl ?_
            refine E_opw (v' := (FB.av (vfun_14.1, true))) rfl (.aggL ⟨(.refl _), (.refl _), (.refl _), (.refl _), (.refl _), trivial⟩) rfl ?_
            refine E_opw (v' := (.sl true 5 (List.map FB.av [(vfun_14.1, true)]))) rfl (.refl _) rfl ?_
            obtain ⟨l_15, hl_15, h⟩ := bd_some h; obtain ⟨hcd, hbd, rfl⟩ := pushF_some hl_15
            refine E_appR (l := noN s_2) (m := [(vfun_14.1, true)]) (S' := [.arr 0 [.nils], .arr 0 [(.ref 2 1 0 (List.length (noN s_2)) (some 5))], .arr 2 (flat FB.av (noN s_2 ++ [(vfun_14.1, true)])), .arr 0 [(.int .i64 vfun_14.1.Params), (.sl false 1 (List.map (avI .u8) vfun_14.1.Locals)), (.bool vfun_14.1.Result), (.int .i64 vfun_14.1.Keep), .nils]]) FB.enc rfl (src_sl (f := FB.av) (esh := some 5) [(vfun_14.1, true)]) rfl (by rw [noN_length]; exact hbd) rfl ?_
            refine E_op0 (v' := (.ptr 1 0 0)) rfl rfl ?_
            refine E_do (S' := [.arr 0 [.nils], .arr 0 [(.ref 2 2 0 (List.length (noN s_2 ++ [(vfun_14.1, true)])) (some 5))], .arr 2 (flat FB.av (noN s_2 ++ [(vfun_14.1, true)])), .arr 0 [(.int .i64 vfun_14.1.Params), (.sl false 1 (List.map (avI .u8) vfun_14.1.Locals)), (.bool vfun_14.1.Result), (.int .i64 vfun_14.1.Keep), .nils]]) rfl rfl ?_
            refine E_nil ?_
            exact E_jx _ h (wk_rn [some (0, 0), some (1, 0), some (2, 0), none] rfl (Nat.le_of_ble_eq_true rfl) ⟨(rn_ob rfl rfl (.cons (rn_b rfl) (.nil (Nat.zero_le _))) rfl), (rn_ob rfl rfl (.cons (rn_refK Func.enc rfl rfl rfl rfl (by simp [noN_length])) (.nil (Nat.zero_le _))) rfl), (rn_ob rfl rfl (by rw [flat_push]; exact rnl_push Func.enc (by show RnV _ _ (.ref 3 1 0 _ _); rw [hcd]; exact rn_nil rfl)) rfl), (rn_obN rfl (by rw [lastL_snoc, hcd]; rfl) rfl), trivial⟩ ⟨(rn_ptr rfl rfl rfl rfl), (rn_ptr rfl rfl rfl rfl), (rn_b rfl), (rn_b rfl), (rn_b (encS.blws 0)), (rn_b rfl), (rn_b rfl), trivial⟩)
          · rw [ite_f hb] at h
            refine E_sq ?_
            refine E_reg ?_
            refine E_op0 (v' := (.ptr 1 0 0)) rfl rfl ?_
            refine E_op (v' := (.ref 2 1 0 (List.length s_2) (some 5))) (S' := [.arr 0 [.nils], .arr 0 [(.ref 2 1 0 (List.length s_2) (some 5))], .arr 1 (fk Func.av 4 rF s_2), .arr 1 (flat Instr.av (lastL Func.Code s_2))]) rfl rfl rfl ?_
            refine E_lenR rfl ?_
            refine E_op0 (v' := (.bool (decide ((List.length s_2 : Int) > 0)))) rfl rfl ?_
            refine E_nil ?_
            refine E_nx ?_
            refine E_cs (t := (decide ((List.length s_2 : Int) > 0))) rfl (fun hb => ?_) (fun hb => ?_)
            · rw [ite_t hb] at h
              refine E_sq ?_
              refine E_reg ?_
              refine E_opw (v' := (Instr.av (Instr.mk 0 0 0))) rfl (.aggL ⟨(.refl _), (.refl _), (.refl _), trivial⟩) rfl ?_
              refine E_op (v' := .ptr 4 0 0) (S' := [.arr 0 [.nils], .arr 0 [(.ref 2 1 0 (List.length s_2) (some 5))], .arr 1 (fk Func.av 4 rF s_2), .arr 1 (flat Instr.av (lastL Func.Code s_2)), .arr 0 [(.int .u8 0), (.int .i64 0), (.int .u64 0)]]) rfl rfl rfl ?_
              refine E_do (S' := [.arr 0 [.nils], .arr 0 [(.ref 2 1 0 (List.length s_2) (some 5))], .arr 1 (fk Func.av 4 rF s_2), .arr 1 (flat Instr.av (lastL Func.Code s_2)), .arr 0 [(.int .u8 0), (.int .i64 0), (.int .u64 0)]]) rfl rfl ?_
              refine E_nil ?_
              refine E_nx ?_
              refine E_sq ?_
              refine E_reg ?_
              refine E_mv (v' := (.sl false 1 (List.map avS (delE wsp_6)))) rfl ?_
              obtain ⟨ins_16, hins_16, h⟩ := bd_some h
              refine E_callW (text_instruction_ev  hins_16) rfl ⟨(.refl _), trivial⟩ (blwL_of ⟨(encS.blws 0), trivial⟩) (tup_blw ⟨(Instr.enc.blw _ 0), rfl, trivial⟩) ?_
              refine E_mv (v' := (.tup [(Instr.av ins_16.1), (.bool ins_16.2)])) rfl ?_
              refine E_op0 (v' := (Instr.av ins_16.1)) rfl rfl ?_
              refine E_op0 (v' := (.bool ins_16.2)) rfl rfl ?_
              refine E_do (S' := [.arr 0 [.nils], .arr 0 [(.ref 2 1 0 (List.length s_2) (some 5))], .arr 1 (fk Func.av 4 rF s_2), .arr 1 (flat Instr.av (lastL Func.Code s_2)), .arr 0 [(.int .u8 ins_16.1.Op), (.int .i64 ins_16.1.Arg), (.int .u64 ins_16.1.Imm)]]) rfl rfl ?_
              refine E_mv (v' := (.bool ins_16.2)) rfl ?_
              refine E_nil ?_
              refine E_nx ?_
              refine E_sq ?_
              obtain ⟨ys, hys, h⟩ := bd_some h
              obtain ⟨l, x, c, rfl, h66, hc, rfl⟩ := pushC_some hys
              refine E_reg ?_
              refine E_op0 (v' := (.ptr 1 0 0)) rfl rfl ?_
              refine E_op (v' := (.ref 2 1 0 (List.length (l ++ [x])) (some 5))) (S' := [.arr 0 [.nils], .arr 0 [(.ref 2 1 0 (List.length (l ++ [x])) (some 5))], .arr 1 (fk Func.av 4 rF (l ++ [x])), .arr 1 (flat Instr.av (lastL Func.Code (l ++ [x]))), .arr 0 [(.int .u8 ins_16.1.Op), (.int .i64 ins_16.1.Arg), (.int .u64 ins_16.1.Imm)]]) rfl rfl rfl ?_
              refine E_op0 (v' := (.ptr 1 0 0)) rfl rfl ?_
              refine E_op (v' := (.ref 2 1 0 (List.length (l ++ [x])) (some 5))) (S' := [.arr 0 [.nils], .arr 0 [(.ref 2 1 0 (List.length (l ++ [x])) (some 5))], .arr 1 (fk Func.av 4 rF (l ++ [x])), .arr 1 (flat Instr.av (lastL Func.Code (l ++ [x]))), .arr 0 [(.int .u8 ins_16.1.Op), (.int .i64 ins_16.1.Arg), (.int .u64 ins_16.1.Imm)]]) rfl rfl rfl ?_
              refine E_lenR rfl ?_
              refine E_op0 (v' := (.int .i64 (l.length : Int))) rfl (congrArg (AV.int .i64) h66) ?_
              refine E_iadR (n := (l.length : Int)) rfl rfl ⟨by omega, by simp; omega⟩ ?_
              refine E_mv (v' := (.ptr 2 1 (0 + Int.toNat (l.length : Int) * szOf (some 5)))) rfl ?_
              refine E_nil ?_
              refine E_nx ?_
              refine E_regp ?_
              refine E_mv (v' := (.ptr 2 1 (0 + Int.toNat (l.length : Int) * szOf (some 5)))) rfl ?_
              refine E_mv (v' := (.ptr 2 1 (0 + Int.toNat (l.length : Int) * szOf (some 5)))) rfl ?_
              refine E_op0 (v' := (.ptr 2 1 (0 + Int.toNat (l.length : Int) * szOf (some 5)))) rfl rfl ?_
              refine E_op0 (v' := (.ptr 2 1 (0 + Int.toNat (l.length : Int) * szOf (some 5) + 4))) rfl rfl ?_
              refine E_ldV rfl rfl (fk_part Func.enc (by decide) (hxe rfl)) ?_
              refine E_opw (v' := (Instr.av ins_16.1)) rfl (.aggL ⟨(.refl _), (.refl _), (.refl _), trivial⟩) rfl ?_
              refine E_opw (v' := (.sl true 3 (List.map Instr.av [ins_16.1]))) rfl (.refl _) rfl ?_
              refine E_apL (l := x.Code) (S' := [.arr 0 [.nils], .arr 0 [(.ref 2 1 0 (List.length (l ++ [x])) (some 5))], .arr 1 (fk Func.av 4 rF (l ++ [x])), .arr 2 (flat Instr.av c), .arr 0 [(.int .u8 ins_16.1.Op), (.int .i64 ins_16.1.Arg), (.int .u64 ins_16.1.Imm)]]) Instr.enc rfl (src_sl [ins_16.1]) (congrArg (fun c => Ob.arr 1 (flat Instr.av c)) lastL_snoc) hc rfl ?_
              refine E_op0 (v' := (.ptr 2 1 (0 + Int.toNat (l.length : Int) * szOf (some 5)))) rfl rfl ?_
              refine E_op0 (v' := (.ptr 2 1 (0 + Int.toNat (l.length : Int) * szOf (some 5) + 4))) rfl rfl ?_
              refine E_stV (S' := [.arr 0 [.nils], .arr 0 [(.ref 2 1 0 (List.length (l ++ [x])) (some 5))], .arr 1 (flat Func.av l ++ (Func.av x).cells.set 4 (.ref 3 2 0 (List.length c) (some 3))), .arr 2 (flat Instr.av c), .arr 0 [(.int .u8 ins_16.1.Op), (.int .i64 ins_16.1.Arg), (.int .u64 ins_16.1.Imm)]]) rfl rfl rfl rfl rfl (by rw [fk_len Func.enc]; simp [szOf]; omega) (congrArg (fun q => ([.arr 0 [.nils], .arr 0 [(.ref 2 1 0 (List.length (l ++ [x])) (some 5))], .arr 1 q, .arr 2 (flat Instr.av c), .arr 0 [(.int .u8 ins_16.1.Op), (.int .i64 ins_16.1.Arg), (.int .u64 ins_16.1.Imm)]] : List Ob)) (fk_splice Func.enc (hxe rfl))) ?_
              refine E_nil ?_
              refine And.intro (by simp [okLog, nthL, okPair, hp, fpOf]) ?_
              exact E_jx _ h (wk_rn [some (0, 0), some (1, 0), some (2, 0), some (3, 0)] rfl (Nat.le_of_ble_eq_true rfl) ⟨(rn_ob rfl rfl (.cons (rn_b rfl) (.nil (Nat.zero_le _))) rfl), (rn_ob rfl rfl (.cons (rn_refK Func.enc rfl rfl rfl rfl (by simp)) (.nil (Nat.zero_le _))) rfl), (rn_ob rfl rfl (rnl_write Func.enc (fun _ => rfl) (rn_refL Instr.enc rfl rfl (congrArg (fun c => Ob.arr 1 (flat Instr.av c)) lastL_snoc))) rfl), (rn_ob rfl rfl (rnl_eq Instr.enc (lastL_snoc (L := Func.Code) (l := l) (x := ⟨x.Params, x.Locals, x.Result, x.Keep, c⟩)).symm) rfl), trivial⟩ ⟨(rn_ptr rfl rfl rfl rfl), (rn_ptr rfl rfl rfl rfl), (rn_b rfl), (rn_b rfl), (rn_b (encS.blws 0)), (rn_b rfl), (rn_b rfl), trivial⟩)
            · rw [ite_f hb] at h
              refine E_skip ?_
              exact E_jx _ h (wk_rn [some (0, 0), some (1, 0), some (2, 0), some (3, 0)] rfl (Nat.le_of_ble_eq_true rfl) ⟨(rn_ob rfl rfl (.cons (rn_b rfl) (.nil (Nat.zero_le _))) rfl), (rn_ob rfl rfl (.cons (rn_refK Func.enc rfl rfl rfl rfl rfl) (.nil (Nat.zero_le _))) rfl), (rn_ob rfl rfl (rnl_fk Func.enc (fun _ _ hx => rn_kid Instr.enc hx rfl rfl rfl)) rfl), (rn_ob rfl rfl (.refl (Instr.enc.blwf 0 _)) rfl), trivial⟩ ⟨(rn_ptr rfl rfl rfl rfl), (rn_ptr rfl rfl rfl rfl), (rn_b rfl), (rn_b rfl), (rn_b (encS.blws 0)), (rn_b rfl), (rn_b rfl), trivial⟩)
        · refine E_sq ?_
          refine E_reg ?_
          refine E_mv (v' := (.bool s_13.1)) rfl ?_
          refine E_op0 (v' := (.bool (!s_13.1))) rfl rfl ?_
          refine E_nil ?_
          refine E_nx ?_
          refine E_cs (t := (!s_13.1)) rfl (fun hb => ?_) (fun hb => ?_)
          · rw [ite_t hb] at h
            refine E_sq ?_
            refine E_reg ?_
            refine E_op0 (v' := (.agg [.nils])) rfl rfl ?_
            refine E_mv (v' := (.int .i64 (i_3 : Int))) rfl ?_
            refine E_op0 (v' := (.int .i64 (I64 ((i_3 : Int) + 1)))) rfl rfl ?_
            refine E_do (S' := [.arr 0 [.nils], .arr 0 [(.ref 2 1 0 (List.length s_13.2) (some 5))], .arr 1 (fk Func.av 4 rF s_13.2), .arr 1 (flat Instr.av (lastL Func.Code s_13.2))]) rfl rfl ?_
            refine E_mv (v' := (.int .i64 (I64 ((i_3 : Int) + 1)))) rfl ?_
            refine E_mv (v' := (.int .i64 40)) rfl ?_
            refine E_nil ?_
            refine E_nx ?_
            refine E_ret ?_
            cases h
            refine L_rrO rfl (fun h => ?_)
            refine E_thr ?_
            cases h
            exact ⟨trivial, _, rfl, (fz_tup ⟨(fz_agg ⟨(fz_b rfl .nil), trivial⟩), (fz_b rfl (.refl _)), (fz_b rfl (.refl _)), trivial⟩)⟩
          · rw [ite_f hb] at h
            refine E_skip ?_
            cases h
            exact L_nn rfl (wk_rn [some (0, 0), some (1, 0), some (2, 0), some (3, 0)] rfl (Nat.le_of_ble_eq_true rfl) ⟨(rn_ob rfl rfl (.cons (rn_b rfl) (.nil (Nat.zero_le _))) rfl), (rn_ob rfl rfl (.cons (rn_refK Func.enc rfl rfl rfl rfl rfl) (.nil (Nat.zero_le _))) rfl), (rn_ob rfl rfl (rnl_fk Func.enc (fun _ _ hx => rn_kid Instr.enc hx rfl rfl rfl)) rfl), (rn_ob rfl rfl (.refl (Instr.enc.blwf 0 _)) rfl), trivial⟩ ⟨(rn_b rfl), (rn_b rfl), (rn_ptr rfl rfl rfl rfl), (rn_ptr rfl rfl rfl rfl), (rn_b (encS.blws 0)), trivial⟩)
  · refine X_nx (wk_trans hw (wk_fz (fr' := [(2, (.ptr 0 0 0)), (5, (.ptr 1 0 0))]) (S' := [.arr 0 [.nils], .arr 0 [(.ref 2 1 0 (List.length s_2) (some 5))], .arr 1 (flat Func.av s_2)]) 3 6 rfl ⟨⟨rfl, fzL_id rfl⟩, ⟨rfl, fzL_id rfl⟩, ⟨rfl, (fzL_fk Func.enc (fun _ _ hx v hv => by cases hv; exact fz_kid Instr.enc hx (Nat.le_of_ble_eq_true rfl) rfl))⟩, trivial⟩ ⟨(fz_b rfl (.refl _)), (fz_b rfl (.refl _)), trivial⟩)) ?_
    refine E_sq ?_
    refine E_reg ?_
    refine E_op (v' := (.agg [(.ref 2 1 0 (List.length s_2) (some 5))])) (S' := [.arr 0 [.nils], .arr 0 [(.ref 2 1 0 (List.length s_2) (some 5))], .arr 1 (flat Func.av s_2)]) rfl rfl rfl ?_
    refine E_do (S' := [.arr 0 [(.ref 2 1 0 (List.length s_2) (some 5))], .arr 0 [(.ref 2 1 0 (List.length s_2) (some 5))], .arr 1 (flat Func.av s_2)]) rfl rfl ?_
    refine E_mv (v' := (.int .i64 0)) rfl ?_
    refine E_mv (v' := (.int .i64 0)) rfl ?_
    refine E_nil ?_
    refine E_nx ?_
    refine E_ret ?_
    cases h
    exact ⟨trivial, _, rfl, (fz_tup ⟨(fz_agg ⟨(fz_ref Func.enc (Nat.zero_le _) rfl), trivial⟩), (fz_b rfl (.refl _)), (fz_b rfl (.refl _)), trivial⟩)⟩

def fc21 : FC := (.seq (.reg [⟨(some 2), none, .op (.new [.nils])⟩,
  ⟨(some 3), none, .op (.mv (.v (.int .i64 0)))⟩] [])
  (.seq (.reg [⟨(some 4), none, .op (.new [.nils])⟩] [])
  (.seq (.seq (.reg [⟨(some 13), none, .op (.mv (.t 0))⟩,
  ⟨(some 14), none, .call 49 [(.t 13), (.v (.int .u8 10))]⟩,
  ⟨(some 15), none, .op (.len .sl (.t 14))⟩,
  ⟨(some 16), none, .op (.mv (.v (.int .i64 0)))⟩] [])
  (.block 0 (.loop (.seq (.reg [⟨(some 17), none, .op (.bin .none .lss (.t 16) (.t 15))⟩] [])
  (.seq (.cond (.t 17)
  .skip
  (.exit 0))
  (.seq (.block 1 (.seq (.reg [⟨(some 18), none, .op (.mv (.t 16))⟩,
  ⟨(some 19), none, .op (.iad none none (.t 14) (.t 16))⟩,
  ⟨(some 20), none, .op (.load none (.t 19))⟩,
  ⟨(some 5), none, .op (.mv (.t 18))⟩,
  ⟨(some 6), none, .op (.mv (.t 20))⟩] [])
  (.seq (.reg [⟨(some 21), none, .op (.mv (.t 6))⟩,
  ⟨(some 22), none, .call 57 [(.t 21)]⟩,
  ⟨(some 7), none, .op (.mv (.t 22))⟩] [])
  (.seq (.seq (.reg [⟨(some 23), none, .op (.mv (.t 7))⟩,
  ⟨(some 24), none, .op (.len .sl (.t 23))⟩,
  ⟨(some 25), none, .op (.bin .none .eql (.t 24) (.v (.int .i64 0)))⟩,
  ⟨(some 26), none, .op (.mv (.t 25))⟩,
  ⟨(some 27), some (26, false), .op (.mv (.t 7))⟩,
  ⟨(some 28), some (26, false), .op (.iad none none (.t 27) (.v (.int .i64 0)))⟩,
  ⟨(some 29), some (26, false), .op (.load none (.t 28))⟩,
  ⟨(some 30), some (26, false), .op (.idxs (.t 29) (.v (.int .i64 0)))⟩,
  ⟨(some 31), some (26, false), .op (.bin .none .eql (.t 30) (.v (.int .u8 35)))⟩,
  ⟨(some 32), none, .op (.pick (.t 26) (.v (.bool true)) (.t 31))⟩] [])
  (.cond (.t 32)
  (.exit 1)
  .skip))
  (.seq (.seq (.reg [⟨(some 33), none, .op (.mv (.t 7))⟩,
  ⟨(some 34), none, .op (.iad none none (.t 33) (.v (.int .i64 0)))⟩,
  ⟨(some 35), none, .op (.load none (.t 34))⟩,
  ⟨(some 36), none, .op (.bin .none .eql (.t 35) (.v (.str (ByteArray.mk #[102, 117, 110, 99]))))⟩] [])
  (.cond (.t 36)
  (.seq (.reg [⟨(some 38), none, .op (.mv (.t 7))⟩,
  ⟨(some 39), none, .call 58 [(.t 38)]⟩,
  ⟨(some 37), none, .op (.mv (.t 39))⟩,
  ⟨(some 40), none, .op (.ext 0 (.t 37))⟩,
  ⟨(some 41), none, .op (.ext 1 (.t 37))⟩,
  ⟨(some 8), none, .op (.new [(.int .i64 0), .nils, (.bool false), (.int .i64 0), .nils])⟩,
  ⟨none, none, .op (.store 5 (.t 8) (.t 40))⟩,
  ⟨(some 9), none, .op (.mv (.t 41))⟩] [])
  (.seq (.seq (.reg [⟨(some 42), none, .op (.mv (.t 9))⟩,
  ⟨(some 43), none, .op (.un .not (.t 42))⟩] [])
  (.cond (.t 43)
  (.seq (.reg [⟨(some 44), none, .op (.build [.nils] [])⟩,
  ⟨(some 45), none, .op (.mv (.t 5))⟩,
  ⟨(some 46), none, .op (.bin .none .add (.t 45) (.v (.int .i64 1)))⟩,
  ⟨none, none, .op (.store 1 (.t 2) (.t 44))⟩,
  ⟨(some 3), none, .op (.mv (.t 46))⟩] [])
  .ret)
  .skip))
  (.seq (.reg [⟨(some 47), none, .op (.fad 0 (.t 4))⟩,
  ⟨(some 48), none, .op (.load none (.t 47))⟩,
  ⟨(some 49), none, .op (.load (some 5) (.t 8))⟩,
  ⟨(some 50), none, .op (.bsl (some 5) [(.int .i64 0), .nils, (.bool false), (.int .i64 0), .nils] 1 [(0, 5, (.t 49))])⟩,
  ⟨(some 51), none, .op (.app (some 5) 72 (.t 48) (.t 50))⟩,
  ⟨(some 52), none, .op (.fad 0 (.t 4))⟩,
  ⟨none, none, .op (.store 1 (.t 52) (.t 51))⟩] [])
  (.exit 1))))
  .skip))
  (.seq (.reg [⟨(some 54), none, .op (.mv (.t 7))⟩,
  ⟨(some 55), none, .call 59 [(.t 54)]⟩,
  ⟨(some 53), none, .op (.mv (.t 55))⟩,
  ⟨(some 56), none, .op (.ext 0 (.t 53))⟩,
  ⟨(some 57), none, .op (.ext 1 (.t 53))⟩,
  ⟨(some 10), none, .op (.new [(.int .u8 0), (.int .i64 0), (.int .u64 0)])⟩,
  ⟨none, none, .op (.store 3 (.t 10) (.t 56))⟩,
  ⟨(some 11), none, .op (.mv (.t 57))⟩] [])
  (.seq (.seq (.reg [⟨(some 58), none, .op (.mv (.t 11))⟩,
  ⟨(some 59), none, .op (.un .not (.t 58))⟩,
  ⟨(some 60), none, .op (.mv (.t 59))⟩,
  ⟨(some 61), some (60, false), .op (.fad 0 (.t 4))⟩,
  ⟨(some 62), some (60, false), .op (.load none (.t 61))⟩,
  ⟨(some 63), some (60, false), .op (.len .sl (.t 62))⟩,
  ⟨(some 64), some (60, false), .op (.bin .none .eql (.t 63) (.v (.int .i64 0)))⟩,
  ⟨(some 65), none, .op (.pick (.t 60) (.v (.bool true)) (.t 64))⟩] [])
  (.cond (.t 65)
  (.seq (.reg [⟨(some 66), none, .op (.build [.nils] [])⟩,
  ⟨(some 67), none, .op (.mv (.t 5))⟩,
  ⟨(some 68), none, .op (.bin .none .add (.t 67) (.v (.int .i64 1)))⟩,
  ⟨none, none, .op (.store 1 (.t 2) (.t 66))⟩,
  ⟨(some 3), none, .op (.mv (.t 68))⟩] [])
  .ret)
  .skip))
  (.seq (.reg [⟨(some 69), none, .op (.fad 0 (.t 4))⟩,
  ⟨(some 70), none, .op (.load none (.t 69))⟩,
  ⟨(some 71), none, .op (.len .sl (.t 70))⟩,
  ⟨(some 72), none, .op (.bin .none .sub (.t 71) (.v (.int .i64 1)))⟩,
  ⟨(some 12), none, .op (.mv (.t 72))⟩] [])
  (.reg [⟨(some 73), none, .op (.fad 0 (.t 4))⟩,
  ⟨(some 74), none, .op (.load none (.t 73))⟩,
  ⟨(some 75), none, .op (.mv (.t 12))⟩,
  ⟨(some 76), none, .op (.fad 0 (.t 4))⟩,
  ⟨(some 77), none, .op (.load none (.t 76))⟩,
  ⟨(some 78), none, .op (.mv (.t 12))⟩,
  ⟨(some 79), none, .op (.iad none (some 5) (.t 77) (.t 78))⟩,
  ⟨(some 80), none, .op (.fad 4 (.t 79))⟩,
  ⟨(some 81), none, .op (.load none (.t 80))⟩,
  ⟨(some 82), none, .op (.load (some 3) (.t 10))⟩,
  ⟨(some 83), none, .op (.bsl (some 3) [(.int .u8 0), (.int .i64 0), (.int .u64 0)] 1 [(0, 3, (.t 82))])⟩,
  ⟨(some 84), none, .op (.app (some 3) 24 (.t 81) (.t 83))⟩,
  ⟨(some 85), none, .op (.iad none (some 5) (.t 74) (.t 75))⟩,
  ⟨(some 86), none, .op (.fad 4 (.t 85))⟩,
  ⟨none, none, .op (.store 1 (.t 86) (.t 84))⟩] [(1, 10), (4, 10), (8, 10), (1, 11)])))))))))
  (.reg [⟨(some 87), none, .op (.bin .none .add (.t 16) (.v (.int .i64 1)))⟩,
  ⟨(some 16), none, .op (.mv (.t 87))⟩] [])))))))
  (.seq (.reg [⟨(some 88), none, .op (.load (some 1) (.t 4))⟩,
  ⟨none, none, .op (.store 1 (.t 2) (.t 88))⟩,
  ⟨(some 3), none, .op (.mv (.v (.int .i64 0)))⟩] [])
  .ret))))
theorem fn21 : Fn3 Tryd.prog 21 89 [(2, (some (some 1))), (3, none)] fc21 := ⟨_, _, Tryd.func21, rfl, rfl, rfl, by kernel_rfl⟩
def windlassref04_Parse_s (fuel : Nat) (s_00 : ByteArray) : Option (Program × Int) :=
  ((windlassref02_Split_s fuel s_00 10).bind fun spl_1 => ((rng (fun (i_3 : Nat) (line_4 : ByteArray) (s_2 : (List Func)) => (((windlassref04_Words_s fuel line_4).bind fun wor_6 => (jp (fun (s_8 : Bool) => (if s_8 then (some (.nxt s_2)) else ((getI wor_6 0).bind fun y_11 => (if (ByteArray.toList y_11 == ByteArray.toList (ByteArray.mk #[102, 117, 110, 99])) then ((windlassref04_begin_s fuel wor_6).bind fun beg_12 => (if (!beg_12.2) then (some (.ret (some ((Program.mk []), (I64 ((i_3 : Int) + 1)))))) else ((pushF s_2 beg_12.1).bind fun l_13 => (some (.nxt l_13))))) else ((windlassref04_one_s fuel wor_6).bind fun one_14 => (jp (fun (s_16 : Bool) => (if s_16 then (some (.ret (some ((Program.mk []), (I64 ((i_3 : Int) + 1)))))) else ((pushC s_2 one_14.1).bind fun c_17 => (some (.nxt c_17))))) (fun k_15 => (if (!one_14.2) then (k_15 true) else (k_15 ((List.length s_2 : Int) == 0)))))))))) (fun k_7 => (if ((List.length wor_6 : Int) == 0) then (k_7 true) else ((getI wor_6 0).bind fun y_9 => ((strI y_9 0).bind fun b_10 => (k_7 (b_10 == 35)))))))) : Option (Stp (List Func) (Option (Program × Int))))) spl_1 []).bind (oc (fun (s_2 : (List Func)) => (some ((Program.mk s_2), 0))))))
theorem windlassref04_Parse_ev {fuel : Nat} {s_00 : ByteArray} {r : (Program × Int)} (h : windlassref04_Parse_s fuel s_00 = some r) : PureEv Tryd.prog 21 [(.str s_00)] (.tup [(Program.av r.1), (.int .i64 r.2)]) := by
  unfold windlassref04_Parse_s at h
  refine PureEv_end mixed fn21 (by simp) [2, 4, 8, 10, 51] 6 ?_
  unfold fc21
  refine E_sq ?_
  refine E_reg ?_
  refine E_op (v' := .ptr 0 0 0) (S' := [.arr 0 [.nils]]) rfl rfl rfl ?_
  refine E_mv (v' := (.int .i64 0)) rfl ?_
  refine E_nil ?_
  refine E_nx ?_
  refine E_sq ?_
  refine E_reg ?_
  refine E_op (v' := .ptr 1 0 0) (S' := [.arr 0 [.nils], .arr 0 [.nils]]) rfl rfl rfl ?_
  refine E_nil ?_
  refine E_nx ?_
  refine E_as ?_
  refine E_sq ?_
  refine E_reg ?_
  refine E_mv (v' := (.str s_00)) rfl ?_
  obtain ⟨spl_1, hspl_1, h⟩ := bd_some h
  refine E_callW (windlassref02_Split_ev (fuel := fuel)  hspl_1) rfl ⟨(.refl _), (.refl _), trivial⟩ (blwL_of ⟨rfl, rfl, trivial⟩) (encS.blws 0) ?_
  refine E_len rfl ?_
  refine E_mv (v' := (.int .i64 0)) rfl ?_
  refine E_nil ?_
  refine E_nx ?_
  refine E_sq ?_
  refine E_rngO (fun s_2 => [(2, (.ptr 0 0 0)), (4, (.ptr 1 0 0)), (14, (.sl false 1 (List.map avS spl_1)))]) (fun s_2 => [.arr 0 [.nils], .arr 0 [(.ref 2 1 0 (List.length s_2) (some 5))], .arr 1 (fk Func.av 4 rF s_2), .arr 1 (flat Instr.av (lastL Func.Code s_2))]) h (by decide) (by decide) (fun _ => ⟨rfl, rfl, rfl, rfl⟩) (wk_rn [some (0, 0), some (1, 0), none, none] rfl (Nat.le_of_ble_eq_true rfl) ⟨(rn_ob rfl rfl (.cons (rn_b rfl) (.nil (Nat.zero_le _))) rfl), (rn_ob rfl rfl (.cons (rn_nil rfl) (.nil (Nat.zero_le _))) rfl), (rn_obN rfl rfl rfl), (rn_obN rfl rfl rfl), trivial⟩ ⟨(rn_b rfl), (rn_b rfl), (rn_ptr rfl rfl rfl rfl), (rn_ptr rfl rfl rfl rfl), (rn_b (encS.blws 0)), trivial⟩) (fun i_3 line_4 s_2 c hx_5 hlt h => ?_) (fun s_2 fr' S' h hw => ?_)
  · refine E_sq ?_
    refine E_reg ?_
    refine E_mv (v' := (.int .i64 (i_3 : Int))) rfl ?_
    refine E_iadF rfl rfl (getI_of hx_5) ?_
    refine E_op0 (v' := (.str line_4)) rfl rfl ?_
    refine E_mv (v' := (.int .i64 (i_3 : Int))) rfl ?_
    refine E_mv (v' := (.str line_4)) rfl ?_
    refine E_nil ?_
    refine E_nx ?_
    refine E_sq ?_
    refine E_reg ?_
    refine E_mv (v' := (.str line_4)) rfl ?_
    obtain ⟨wor_6, hwor_6, h⟩ := bd_some h
    refine E_callW (windlassref04_Words_ev (fuel := fuel)  hwor_6) rfl ⟨(.refl _), trivial⟩ (blwL_of ⟨rfl, trivial⟩) (encS.blws 0) ?_
    refine E_mv (v' := (.sl false 1 (List.map avS wor_6))) rfl ?_
    refine E_nil ?_
    refine E_nx ?_
    refine E_as ?_
    refine E_jp h (fun s_8 => [(2, (.ptr 0 0 0)), (4, (.ptr 1 0 0)), (5, (.int .i64 (i_3 : Int))), (7, (.sl false 1 (List.map avS wor_6))), (14, (.sl false 1 (List.map avS spl_1))), (15, (.int .i64 (List.length spl_1 : Int))), (16, (.int .i64 (i_3 : Int))), (32, (.bool s_8))]) (fun s_8 => [.arr 0 [.nils], .arr 0 [(.ref 2 1 0 (List.length s_2) (some 5))], .arr 1 (fk Func.av 4 rF s_2), .arr 1 (flat Instr.av (lastL Func.Code s_2))]) (fun k_7 h => ?_) (fun s_8 h => ?_)
    · refine E_reg ?_
      refine E_mv (v' := (.sl false 1 (List.map avS wor_6))) rfl ?_
      refine E_len rfl ?_
      refine E_op0 (v' := (.bool ((List.length wor_6 : Int) == 0))) rfl rfl ?_
      refine E_mv (v' := (.bool ((List.length wor_6 : Int) == 0))) rfl ?_
      refine E_gsT (b := ((List.length wor_6 : Int) == 0)) rfl rfl rfl (fun hb => ?_) (fun hb => ?_)
      · rw [ite_f hb] at h
        refine E_mv (v' := (.sl false 1 (List.map avS wor_6))) rfl ?_
        refine E_gh rfl ?_
        obtain ⟨y_9, hy_9, h⟩ := bd_some h
        refine E_iadF rfl rfl hy_9 ?_
        refine E_gh rfl ?_
        refine E_op0 (v' := (.str y_9)) rfl rfl ?_
        refine E_gh rfl ?_
        obtain ⟨b_10, hb_10, h⟩ := bd_some h
        refine E_idxS rfl rfl hb_10 ?_
        refine E_gh rfl ?_
        refine E_op0 (v' := (.bool (b_10 == 35))) rfl rfl ?_
        refine E_pf rfl rfl ?_
        refine E_nil ?_
        exact E_jx _ h (wk_rn [some (0, 0), some (1, 0), some (2, 0), some (3, 0)] rfl (Nat.le_of_ble_eq_true rfl) ⟨(rn_ob rfl rfl (.cons (rn_b rfl) (.nil (Nat.zero_le _))) rfl), (rn_ob rfl rfl (.cons (rn_refK Func.enc rfl rfl rfl rfl rfl) (.nil (Nat.zero_le _))) rfl), (rn_ob rfl rfl (rnl_fk Func.enc (fun _ _ hx => rn_kid Instr.enc hx rfl rfl rfl)) rfl), (rn_ob rfl rfl (.refl (Instr.enc.blwf 0 _)) rfl), trivial⟩ ⟨(rn_ptr rfl rfl rfl rfl), (rn_ptr rfl rfl rfl rfl), (rn_b rfl), (rn_b (encS.blws 0)), (rn_b (encS.blws 0)), (rn_b rfl), (rn_b rfl), (rn_b rfl), trivial⟩)
      · rw [ite_t hb] at h
        refine E_gm rfl ?_
        refine E_gm rfl ?_
        refine E_gm rfl ?_
        refine E_gm rfl ?_
        refine E_pt rfl rfl ?_
        refine E_nil ?_
        exact E_jx _ h (wk_rn [some (0, 0), some (1, 0), some (2, 0), some (3, 0)] rfl (Nat.le_of_ble_eq_true rfl) ⟨(rn_ob rfl rfl (.cons (rn_b rfl) (.nil (Nat.zero_le _))) rfl), (rn_ob rfl rfl (.cons (rn_refK Func.enc rfl rfl rfl rfl rfl) (.nil (Nat.zero_le _))) rfl), (rn_ob rfl rfl (rnl_fk Func.enc (fun _ _ hx => rn_kid Instr.enc hx rfl rfl rfl)) rfl), (rn_ob rfl rfl (.refl (Instr.enc.blwf 0 _)) rfl), trivial⟩ ⟨(rn_ptr rfl rfl rfl rfl), (rn_ptr rfl rfl rfl rfl), (rn_b rfl), (rn_b (encS.blws 0)), (rn_b (encS.blws 0)), (rn_b rfl), (rn_b rfl), (rn_b rfl), trivial⟩)
    · refine E_sq ?_
      refine E_cs (t := s_8) rfl (fun hb => ?_) (fun hb => ?_)
      · rw [ite_t hb] at h
        refine E_exit ?_
        refine E_the ?_
        cases h
        exact L_nx rfl rfl (wk_rn [some (0, 0), some (1, 0), some (2, 0), some (3, 0)] rfl (Nat.le_of_ble_eq_true rfl) ⟨(rn_ob rfl rfl (.cons (rn_b rfl) (.nil (Nat.zero_le _))) rfl), (rn_ob rfl rfl (.cons (rn_refK Func.enc rfl rfl rfl rfl rfl) (.nil (Nat.zero_le _))) rfl), (rn_ob rfl rfl (rnl_fk Func.enc (fun _ _ hx => rn_kid Instr.enc hx rfl rfl rfl)) rfl), (rn_ob rfl rfl (.refl (Instr.enc.blwf 0 _)) rfl), trivial⟩ ⟨(rn_b rfl), (rn_b rfl), (rn_ptr rfl rfl rfl rfl), (rn_ptr rfl rfl rfl rfl), (rn_b (encS.blws 0)), trivial⟩)
      · rw [ite_f hb] at h
        refine E_skip ?_
        refine E_nx ?_
        refine E_as ?_
        refine E_sq ?_
        refine E_reg ?_
        refine E_mv (v' := (.sl false 1 (List.map avS wor_6))) rfl ?_
        obtain ⟨y_11, hy_11, h⟩ := bd_some h
        refine E_iadF rfl rfl hy_11 ?_
        refine E_op0 (v' := (.str y_11)) rfl rfl ?_
        refine E_op0 (v' := (.bool (ByteArray.toList y_11 == ByteArray.toList (ByteArray.mk #[102, 117, 110, 99])))) rfl rfl ?_
        refine E_nil ?_
        refine E_nx ?_
        refine E_sq ?_
        refine E_cs (t := (ByteArray.toList y_11 == ByteArray.toList (ByteArray.mk #[102, 117, 110, 99]))) rfl (fun hb => ?_) (fun hb => ?_)
        · rw [ite_t hb] at h
          refine E_sq ?_
          refine E_reg ?_
          refine E_mv (v' := (.sl false 1 (List.map avS wor_6))) rfl ?_
          obtain ⟨beg_12, hbeg_12, h⟩ := bd_some h
          refine E_callW (windlassref04_begin_evN (fuel := fuel)  hbeg_12) rfl ⟨(.refl _), trivial⟩ (blwL_of ⟨(encS.blws 0), trivial⟩) (tup_blw ⟨agg_blw ⟨rfl, (encI .u8).blws 0, rfl, rfl, rfl, trivial⟩, rfl, trivial⟩) ?_
          refine E_mv (v' := (.tup [(FB.av (beg_12.1, true)), (.bool beg_12.2)])) rfl ?_
          refine E_op0 (v' := (FB.av (beg_12.1, true))) rfl rfl ?_
          refine E_op0 (v' := (.bool beg_12.2)) rfl rfl ?_
          refine E_op (v' := .ptr 4 0 0) (S' := [.arr 0 [.nils], .arr 0 [(.ref 2 1 0 (List.length s_2) (some 5))], .arr 1 (fk Func.av 4 rF s_2), .arr 1 (flat Instr.av (lastL Func.Code s_2)), .arr 0 [(.int .i64 0), .nils, (.bool false), (.int .i64 0), .nils]]) rfl rfl rfl ?_
          refine E_do (S' := [.arr 0 [.nils], .arr 0 [(.ref 2 1 0 (List.length s_2) (some 5))], .arr 1 (fk Func.av 4 rF s_2), .arr 1 (flat Instr.av (lastL Func.Code s_2)), .arr 0 [(.int .i64 beg_12.1.Params), (.sl false 1 (List.map (avI .u8) beg_12.1.Locals)), (.bool beg_12.1.Result), (.int .i64 beg_12.1.Keep), .nils]]) rfl rfl ?_
          refine E_mv (v' := (.bool beg_12.2)) rfl ?_
          refine E_nil ?_
          refine E_nxw (F := [(2, (.ptr 0 0 0)), (4, (.ptr 1 0 0)), (5, (.int .i64 (i_3 : Int))), (9, (.bool beg_12.2)), (14, (.sl false 1 (List.map avS spl_1))), (15, (.int .i64 (List.length spl_1 : Int))), (16, (.int .i64 (i_3 : Int))), (8, (.ptr 3 0 0))]) (T := [.arr 0 [.nils], .arr 0 [(.ref 2 1 0 (List.length (noN s_2)) (some 5))], .arr 1 (flat FB.av (noN s_2)), .arr 0 [(.int .i64 beg_12.1.Params), (.sl false 1 (List.map (avI .u8) beg_12.1.Locals)), (.bool beg_12.1.Result), (.int .i64 beg_12.1.Keep), .nils]]) (wk_trans (fr'' := [(2, (.ptr 0 0 0)), (4, (.ptr 1 0 0)), (5, (.int .i64 (i_3 : Int))), (9, (.bool beg_12.2)), (14, (.sl false 1 (List.map avS spl_1))), (15, (.int .i64 (List.length spl_1 : Int))), (16, (.int .i64 (i_3 : Int))), (8, (.ptr 3 0 0))]) (S'' := [.arr 0 [.nils], .arr 0 [(.ref 2 1 0 (List.length (noN s_2)) (some 5))], .arr 1 (flat FB.av (noN s_2)), .arr 0 [(.int .i64 beg_12.1.Params), (.sl false 1 (List.map (avI .u8) beg_12.1.Locals)), (.bool beg_12.1.Result), (.int .i64 beg_12.1.Keep), .nils]]) (wk_rn (fr' := [(2, (.ptr 0 0 0)), (4, (.ptr 1 0 0)), (5, (.int .i64 (i_3 : Int))), (9, (.bool beg_12.2)), (14, (.sl false 1 (List.map avS spl_1))), (15, (.int .i64 (List.length spl_1 : Int))), (16, (.int .i64 (i_3 : Int))), (8, (.ptr 3 0 0))]) (S' := [.arr 0 [.nils], .arr 0 [(.ref 2 1 0 (List.length s_2) (some 5))], .arr 1 (fk Func.av 4 rG s_2), .arr 0 [(.int .i64 beg_12.1.Params), (.sl false 1 (List.map (avI .u8) beg_12.1.Locals)), (.bool beg_12.1.Result), (.int .i64 beg_12.1.Keep), .nils], .arr 1 (flat Instr.av (lastL Func.Code s_2))]) [some (0, 0), some (1, 0), some (2, 0), some (4, 0), some (3, 0)] rfl (Nat.le_of_ble_eq_true rfl) ⟨(rn_ob rfl rfl (.cons (rn_b rfl) (.nil (Nat.zero_le _))) rfl), (rn_ob rfl rfl (.cons (rn_refK Func.enc rfl rfl rfl rfl rfl) (.nil (Nat.zero_le _))) rfl), (rn_ob rfl rfl (rnl_fk Func.enc (fun _ _ hx => rn_kid Instr.enc hx rfl rfl rfl)) rfl), (rn_ob rfl rfl (.refl (show blwL 0 _ = true from blwL_of ⟨rfl, (encI .u8).blws 0, rfl, rfl, rfl, trivial⟩)) rfl), (rn_ob rfl rfl (.refl (Instr.enc.blwf 0 _)) rfl), trivial⟩ ⟨(rn_ptr rfl rfl rfl rfl), (rn_ptr rfl rfl rfl rfl), (rn_b rfl), (rn_b rfl), (rn_b (encS.blws 0)), (rn_b rfl), (rn_b rfl), (rn_ptr rfl rfl rfl rfl), trivial⟩) (wk_fz 4 6 rfl ⟨⟨rfl, fzL_id rfl⟩, ⟨rfl, (by rw [noN_length]; exact fz_b rfl (.refl _)), trivial⟩, ⟨rfl, (by rw [flat_noN]; exact fzL_fk Func.enc (fun _ _ hx v hv => by cases hv; exact fz_kid Instr.enc hx (Nat.le_of_ble_eq_true rfl) rfl))⟩, ⟨rfl, fzL_id (show blwL 4 _ = true from blwL_of ⟨rfl, (encI .u8).blws 4, rfl, rfl, rfl, trivial⟩)⟩, trivial⟩ ⟨(fz_b rfl (.refl _)), (fz_b rfl (.refl _)), (fz_b rfl (.refl _)), (fz_b rfl (.refl _)), (fz_b (encS.blws 4) (.refl _)), (fz_b rfl (.refl _)), (fz_b rfl (.refl _)), (fz_b rfl (.refl _)), trivial⟩)) ?_
          refine E_as ?_
          refine E_sq ?_
          refine E_reg ?_
          refine E_mv (v' := (.bool beg_12.2)) rfl ?_
          refine E_op0 (v' := (.bool (!beg_12.2))) rfl rfl ?_
          refine E_nil ?_
          refine E_nx ?_
          refine E_sq ?_
          refine E_cs (t := (!beg_12.2)) rfl (fun hb => ?_) (fun hb => ?_)
          · rw [ite_t hb] at h
            refine E_sq ?_
            refine E_reg ?_
            refine E_op0 (v' := (.agg [.nils])) rfl rfl ?_
            refine E_mv (v' := (.int .i64 (i_3 : Int))) rfl ?_
            refine E_op0 (v' := (.int .i64 (I64 ((i_3 : Int) + 1)))) rfl rfl ?_
            refine E_do (S' := [.arr 0 [.nils], .arr 0 [(.ref 2 1 0 (List.length (noN s_2)) (some 5))], .arr 1 (flat FB.av (noN s_2)), .arr 0 [(.int .i64 beg_12.1.Params), (.sl false 1 (List.map (avI .u8) beg_12.1.Locals)), (.bool beg_12.1.Result), (.int .i64 beg_12.1.Keep), .nils]]) rfl rfl ?_
            refine E_mv (v' := (.int .i64 (I64 ((i_3 : Int) + 1)))) rfl ?_
            refine E_nil ?_
            refine E_nx ?_
            refine E_ret ?_
            refine E_thr ?_
            refine E_thr ?_
            cases h
            refine L_rrO rfl (fun h => ?_)
            refine E_thr ?_
            cases h
            exact ⟨trivial, _, rfl, (fz_tup ⟨(fz_agg ⟨(fz_b rfl .nil), trivial⟩), (fz_b rfl (.refl _)), trivial⟩)⟩
          · rw [ite_f hb] at h
            refine E_skip ?_
            refine E_nx ?_
            refine E_sq ?_
            refine E_reg ?_
            refine E_op0 (v' := (.ptr 1 0 0)) rfl rfl ?_
            refine E_op (v' := (.ref 2 1 0 (List.length (noN s_2)) (some 5))) (S' := [.arr 0 [.nils], .arr 0 [(.ref 2 1 0 (List.length (noN s_2)) (some 5))], .arr 1 (flat FB.av (noN s_2)), .arr 0 [(.int .i64 beg_12.1.Params), (.sl false 1 (List.map (avI .u8) beg_12.1.Locals)), (.bool beg_12.1.Result), (.int .i64 beg_12.1.Keep), .nils]]) rfl rfl rfl ?_
            refine E_opw (v' := (FB.av (beg_12.1, true))) rfl (.aggL ⟨(.refl _), (.refl _), (.refl _), (.refl _), (.refl _), trivial⟩) rfl ?_
            refine E_opw (v' := (.sl true 5 (List.map FB.av [(beg_12.1, true)]))) rfl (.refl _) rfl ?_
            obtain ⟨l_13, hl_13, h⟩ := bd_some h; obtain ⟨hcd, hbd, rfl⟩ := pushF_some hl_13
            refine E_appR (l := noN s_2) (m := [(beg_12.1, true)]) (S' := [.arr 0 [.nils], .arr 0 [(.ref 2 1 0 (List.length (noN s_2)) (some 5))], .arr 2 (flat FB.av (noN s_2 ++ [(beg_12.1, true)])), .arr 0 [(.int .i64 beg_12.1.Params), (.sl false 1 (List.map (avI .u8) beg_12.1.Locals)), (.bool beg_12.1.Result), (.int .i64 beg_12.1.Keep), .nils]]) FB.enc rfl (src_sl (f := FB.av) (esh := some 5) [(beg_12.1, true)]) rfl (by rw [noN_length]; exact hbd) rfl ?_
            refine E_op0 (v' := (.ptr 1 0 0)) rfl rfl ?_
            refine E_do (S' := [.arr 0 [.nils], .arr 0 [(.ref 2 2 0 (List.length (noN s_2 ++ [(beg_12.1, true)])) (some 5))], .arr 2 (flat FB.av (noN s_2 ++ [(beg_12.1, true)])), .arr 0 [(.int .i64 beg_12.1.Params), (.sl false 1 (List.map (avI .u8) beg_12.1.Locals)), (.bool beg_12.1.Result), (.int .i64 beg_12.1.Keep), .nils]]) rfl rfl ?_
            refine E_nil ?_
            refine E_nx ?_
            refine E_exit ?_
            refine E_the ?_
            cases h
            exact L_nx rfl rfl (wk_rn [some (0, 0), some (1, 0), some (2, 0), none] rfl (Nat.le_of_ble_eq_true rfl) ⟨(rn_ob rfl rfl (.cons (rn_b rfl) (.nil (Nat.zero_le _))) rfl), (rn_ob rfl rfl (.cons (rn_refK Func.enc rfl rfl rfl rfl (by simp [noN_length])) (.nil (Nat.zero_le _))) rfl), (rn_ob rfl rfl (by rw [flat_push]; exact rnl_push Func.enc (by show RnV _ _ (.ref 3 1 0 _ _); rw [hcd]; exact rn_nil rfl)) rfl), (rn_obN rfl (by rw [lastL_snoc, hcd]; rfl) rfl), trivial⟩ ⟨(rn_b rfl), (rn_b rfl), (rn_ptr rfl rfl rfl rfl), (rn_ptr rfl rfl rfl rfl), (rn_b (encS.blws 0)), trivial⟩)
        · rw [ite_f hb] at h
          refine E_skip ?_
          refine E_nx ?_
          refine E_sq ?_
          refine E_reg ?_
          refine E_mv (v' := (.sl false 1 (List.map avS wor_6))) rfl ?_
          obtain ⟨one_14, hone_14, h⟩ := bd_some h
          refine E_callW (windlassref04_one_ev (fuel := fuel)  hone_14) rfl ⟨(.refl _), trivial⟩ (blwL_of ⟨(encS.blws 0), trivial⟩) (tup_blw ⟨(Instr.enc.blw _ 0), rfl, trivial⟩) ?_
          refine E_mv (v' := (.tup [(Instr.av one_14.1), (.bool one_14.2)])) rfl ?_
          refine E_op0 (v' := (Instr.av one_14.1)) rfl rfl ?_
          refine E_op0 (v' := (.bool one_14.2)) rfl rfl ?_
          refine E_op (v' := .ptr 4 0 0) (S' := [.arr 0 [.nils], .arr 0 [(.ref 2 1 0 (List.length s_2) (some 5))], .arr 1 (fk Func.av 4 rF s_2), .arr 1 (flat Instr.av (lastL Func.Code s_2)), .arr 0 [(.int .u8 0), (.int .i64 0), (.int .u64 0)]]) rfl rfl rfl ?_
          refine E_do (S' := [.arr 0 [.nils], .arr 0 [(.ref 2 1 0 (List.length s_2) (some 5))], .arr 1 (fk Func.av 4 rF s_2), .arr 1 (flat Instr.av (lastL Func.Code s_2)), .arr 0 [(.int .u8 one_14.1.Op), (.int .i64 one_14.1.Arg), (.int .u64 one_14.1.Imm)]]) rfl rfl ?_
          refine E_mv (v' := (.bool one_14.2)) rfl ?_
          refine E_nil ?_
          refine E_nx ?_
          refine E_as ?_
          refine E_jp h (fun s_16 => [(2, (.ptr 0 0 0)), (4, (.ptr 1 0 0)), (5, (.int .i64 (i_3 : Int))), (10, (.ptr 4 0 0)), (14, (.sl false 1 (List.map avS spl_1))), (15, (.int .i64 (List.length spl_1 : Int))), (16, (.int .i64 (i_3 : Int))), (65, (.bool s_16))]) (fun s_16 => [.arr 0 [.nils], .arr 0 [(.ref 2 1 0 (List.length s_2) (some 5))], .arr 1 (fk Func.av 4 rF s_2), .arr 1 (flat Instr.av (lastL Func.Code s_2)), .arr 0 [(.int .u8 one_14.1.Op), (.int .i64 one_14.1.Arg), (.int .u64 one_14.1.Imm)]]) (fun k_15 h => ?_) (fun s_16 h => ?_)
          · refine E_reg ?_
            refine E_mv (v' := (.bool one_14.2)) rfl ?_
            refine E_op0 (v' := (.bool (!one_14.2))) rfl rfl ?_
            refine E_mv (v' := (.bool (!one_14.2))) rfl ?_
            refine E_gsT (b := (!one_14.2)) rfl rfl rfl (fun hb => ?_) (fun hb => ?_)
            · rw [ite_f hb] at h
              refine E_op0 (v' := (.ptr 1 0 0)) rfl rfl ?_
              refine E_gh rfl ?_
              refine E_op (v' := (.ref 2 1 0 (List.length s_2) (some 5))) (S' := [.arr 0 [.nils], .arr 0 [(.ref 2 1 0 (List.length s_2) (some 5))], .arr 1 (fk Func.av 4 rF s_2), .arr 1 (flat Instr.av (lastL Func.Code s_2)), .arr 0 [(.int .u8 one_14.1.Op), (.int .i64 one_14.1.Arg), (.int .u64 one_14.1.Imm)]]) rfl rfl rfl ?_
              refine E_gh rfl ?_
              refine E_lenR rfl ?_
              refine E_gh rfl ?_
              refine E_op0 (v' := (.bool ((List.length s_2 : Int) == 0))) rfl rfl ?_
              refine E_pf rfl rfl ?_
              refine E_nil ?_
              exact E_jx _ h (wk_rn [some (0, 0), some (1, 0), some (2, 0), some (3, 0), some (4, 0)] rfl (Nat.le_of_ble_eq_true rfl) ⟨(rn_ob rfl rfl (.cons (rn_b rfl) (.nil (Nat.zero_le _))) rfl), (rn_ob rfl rfl (.cons (rn_refK Func.enc rfl rfl rfl rfl rfl) (.nil (Nat.zero_le _))) rfl), (rn_ob rfl rfl (rnl_fk Func.enc (fun _ _ hx => rn_kid Instr.enc hx rfl rfl rfl)) rfl), (rn_ob rfl rfl (.refl (Instr.enc.blwf 0 _)) rfl), (rn_ob rfl rfl (.refl rfl) rfl), trivial⟩ ⟨(rn_ptr rfl rfl rfl rfl), (rn_ptr rfl rfl rfl rfl), (rn_b rfl), (rn_ptr rfl rfl rfl rfl), (rn_b (encS.blws 0)), (rn_b rfl), (rn_b rfl), (rn_b rfl), trivial⟩)
            · rw [ite_t hb] at h
              refine E_gm rfl ?_
              refine E_gm rfl ?_
              refine E_gm rfl ?_
              refine E_pt rfl rfl ?_
              refine E_nil ?_
              exact E_jx _ h (wk_rn [some (0, 0), some (1, 0), some (2, 0), some (3, 0), some (4, 0)] rfl (Nat.le_of_ble_eq_true rfl) ⟨(rn_ob rfl rfl (.cons (rn_b rfl) (.nil (Nat.zero_le _))) rfl), (rn_ob rfl rfl (.cons (rn_refK Func.enc rfl rfl rfl rfl rfl) (.nil (Nat.zero_le _))) rfl), (rn_ob rfl rfl (rnl_fk Func.enc (fun _ _ hx => rn_kid Instr.enc hx rfl rfl rfl)) rfl), (rn_ob rfl rfl (.refl (Instr.enc.blwf 0 _)) rfl), (rn_ob rfl rfl (.refl rfl) rfl), trivial⟩ ⟨(rn_ptr rfl rfl rfl rfl), (rn_ptr rfl rfl rfl rfl), (rn_b rfl), (rn_ptr rfl rfl rfl rfl), (rn_b (encS.blws 0)), (rn_b rfl), (rn_b rfl), (rn_b rfl), trivial⟩)
          · refine E_sq ?_
            refine E_cs (t := s_16) rfl (fun hb => ?_) (fun hb => ?_)
            · rw [ite_t hb] at h
              refine E_sq ?_
              refine E_reg ?_
              refine E_op0 (v' := (.agg [.nils])) rfl rfl ?_
              refine E_mv (v' := (.int .i64 (i_3 : Int))) rfl ?_
              refine E_op0 (v' := (.int .i64 (I64 ((i_3 : Int) + 1)))) rfl rfl ?_
              refine E_do (S' := [.arr 0 [.nils], .arr 0 [(.ref 2 1 0 (List.length s_2) (some 5))], .arr 1 (fk Func.av 4 rF s_2), .arr 1 (flat Instr.av (lastL Func.Code s_2)), .arr 0 [(.int .u8 one_14.1.Op), (.int .i64 one_14.1.Arg), (.int .u64 one_14.1.Imm)]]) rfl rfl ?_
              refine E_mv (v' := (.int .i64 (I64 ((i_3 : Int) + 1)))) rfl ?_
              refine E_nil ?_
              refine E_nx ?_
              refine E_ret ?_
              refine E_thr ?_
              cases h
              refine L_rrO rfl (fun h => ?_)
              refine E_thr ?_
              cases h
              exact ⟨trivial, _, rfl, (fz_tup ⟨(fz_agg ⟨(fz_b rfl .nil), trivial⟩), (fz_b rfl (.refl _)), trivial⟩)⟩
            · rw [ite_f hb] at h
              refine E_skip ?_
              refine E_nx ?_
              obtain ⟨ys, hys, h⟩ := bd_some h
              obtain ⟨l, x, c, rfl, h66, hc, rfl⟩ := pushC_some hys
              refine E_sq ?_
              refine E_reg ?_
              refine E_op0 (v' := (.ptr 1 0 0)) rfl rfl ?_
              refine E_op (v' := (.ref 2 1 0 (List.length (l ++ [x])) (some 5))) (S' := [.arr 0 [.nils], .arr 0 [(.ref 2 1 0 (List.length (l ++ [x])) (some 5))], .arr 1 (fk Func.av 4 rF (l ++ [x])), .arr 1 (flat Instr.av (lastL Func.Code (l ++ [x]))), .arr 0 [(.int .u8 one_14.1.Op), (.int .i64 one_14.1.Arg), (.int .u64 one_14.1.Imm)]]) rfl rfl rfl ?_
              refine E_lenR rfl ?_
              refine E_op0 (v' := (.int .i64 (l.length : Int))) rfl (congrArg (AV.int .i64) h66) ?_
              refine E_mv (v' := (.int .i64 (l.length : Int))) rfl ?_
              refine E_nil ?_
              refine E_nx ?_
              refine E_regp ?_
              refine E_op0 (v' := (.ptr 1 0 0)) rfl rfl ?_
              refine E_op (v' := (.ref 2 1 0 (List.length (l ++ [x])) (some 5))) (S' := [.arr 0 [.nils], .arr 0 [(.ref 2 1 0 (List.length (l ++ [x])) (some 5))], .arr 1 (fk Func.av 4 rF (l ++ [x])), .arr 1 (flat Instr.av (lastL Func.Code (l ++ [x]))), .arr 0 [(.int .u8 one_14.1.Op), (.int .i64 one_14.1.Arg), (.int .u64 one_14.1.Imm)]]) rfl rfl rfl ?_
              refine E_mv (v' := (.int .i64 (l.length : Int))) rfl ?_
              refine E_op0 (v' := (.ptr 1 0 0)) rfl rfl ?_
              refine E_op (v' := (.ref 2 1 0 (List.length (l ++ [x])) (some 5))) (S' := [.arr 0 [.nils], .arr 0 [(.ref 2 1 0 (List.length (l ++ [x])) (some 5))], .arr 1 (fk Func.av 4 rF (l ++ [x])), .arr 1 (flat Instr.av (lastL Func.Code (l ++ [x]))), .arr 0 [(.int .u8 one_14.1.Op), (.int .i64 one_14.1.Arg), (.int .u64 one_14.1.Imm)]]) rfl rfl rfl ?_
              refine E_mv (v' := (.int .i64 (l.length : Int))) rfl ?_
              refine E_iadR (n := (l.length : Int)) rfl rfl ⟨by omega, by simp; omega⟩ ?_
              refine E_op0 (v' := (.ptr 2 1 (0 + Int.toNat (l.length : Int) * szOf (some 5) + 4))) rfl rfl ?_
              refine E_ldV rfl rfl (fk_part Func.enc (by decide) (hxe rfl)) ?_
              refine E_opw (v' := (Instr.av one_14.1)) rfl (.aggL ⟨(.refl _), (.refl _), (.refl _), trivial⟩) rfl ?_
              refine E_opw (v' := (.sl true 3 (List.map Instr.av [one_14.1]))) rfl (.refl _) rfl ?_
              refine E_apL (l := x.Code) (S' := [.arr 0 [.nils], .arr 0 [(.ref 2 1 0 (List.length (l ++ [x])) (some 5))], .arr 1 (fk Func.av 4 rF (l ++ [x])), .arr 2 (flat Instr.av c), .arr 0 [(.int .u8 one_14.1.Op), (.int .i64 one_14.1.Arg), (.int .u64 one_14.1.Imm)]]) Instr.enc rfl (src_sl [one_14.1]) (congrArg (fun c => Ob.arr 1 (flat Instr.av c)) lastL_snoc) hc rfl ?_
              refine E_iadR (n := (l.length : Int)) rfl rfl ⟨by omega, by simp; omega⟩ ?_
              refine E_op0 (v' := (.ptr 2 1 (0 + Int.toNat (l.length : Int) * szOf (some 5) + 4))) rfl rfl ?_
              refine E_stV (S' := [.arr 0 [.nils], .arr 0 [(.ref 2 1 0 (List.length (l ++ [x])) (some 5))], .arr 1 (flat Func.av l ++ (Func.av x).cells.set 4 (.ref 3 2 0 (List.length c) (some 3))), .arr 2 (flat Instr.av c), .arr 0 [(.int .u8 one_14.1.Op), (.int .i64 one_14.1.Arg), (.int .u64 one_14.1.Imm)]]) rfl rfl rfl rfl rfl (by rw [fk_len Func.enc]; simp [szOf]; omega) (congrArg (fun q => ([.arr 0 [.nils], .arr 0 [(.ref 2 1 0 (List.length (l ++ [x])) (some 5))], .arr 1 q, .arr 2 (flat Instr.av c), .arr 0 [(.int .u8 one_14.1.Op), (.int .i64 one_14.1.Arg), (.int .u64 one_14.1.Imm)]] : List Ob)) (fk_splice Func.enc (hxe rfl))) ?_
              refine E_nil ?_
              refine And.intro (by simp [okLog, nthL, okPair, hp, fpOf]) ?_
              cases h
              exact L_nn rfl (wk_rn [some (0, 0), some (1, 0), some (2, 0), some (3, 0)] rfl (Nat.le_of_ble_eq_true rfl) ⟨(rn_ob rfl rfl (.cons (rn_b rfl) (.nil (Nat.zero_le _))) rfl), (rn_ob rfl rfl (.cons (rn_refK Func.enc rfl rfl rfl rfl (by simp)) (.nil (Nat.zero_le _))) rfl), (rn_ob rfl rfl (rnl_write Func.enc (fun _ => rfl) (rn_refL Instr.enc rfl rfl (congrArg (fun c => Ob.arr 1 (flat Instr.av c)) lastL_snoc))) rfl), (rn_ob rfl rfl (rnl_eq Instr.enc (lastL_snoc (L := Func.Code) (l := l) (x := ⟨x.Params, x.Locals, x.Result, x.Keep, c⟩)).symm) rfl), trivial⟩ ⟨(rn_b rfl), (rn_b rfl), (rn_ptr rfl rfl rfl rfl), (rn_ptr rfl rfl rfl rfl), (rn_b (encS.blws 0)), trivial⟩)
  · refine X_nx (wk_trans hw (wk_fz (fr' := [(2, (.ptr 0 0 0)), (4, (.ptr 1 0 0))]) (S' := [.arr 0 [.nils], .arr 0 [(.ref 2 1 0 (List.length s_2) (some 5))], .arr 1 (flat Func.av s_2)]) 3 6 rfl ⟨⟨rfl, fzL_id rfl⟩, ⟨rfl, fzL_id rfl⟩, ⟨rfl, (fzL_fk Func.enc (fun _ _ hx v hv => by cases hv; exact fz_kid Instr.enc hx (Nat.le_of_ble_eq_true rfl) rfl))⟩, trivial⟩ ⟨(fz_b rfl (.refl _)), (fz_b rfl (.refl _)), trivial⟩)) ?_
    refine E_sq ?_
    refine E_reg ?_
    refine E_op (v' := (.agg [(.ref 2 1 0 (List.length s_2) (some 5))])) (S' := [.arr 0 [.nils], .arr 0 [(.ref 2 1 0 (List.length s_2) (some 5))], .arr 1 (flat Func.av s_2)]) rfl rfl rfl ?_
    refine E_do (S' := [.arr 0 [(.ref 2 1 0 (List.length s_2) (some 5))], .arr 0 [(.ref 2 1 0 (List.length s_2) (some 5))], .arr 1 (flat Func.av s_2)]) rfl rfl ?_
    refine E_mv (v' := (.int .i64 0)) rfl ?_
    refine E_nil ?_
    refine E_nx ?_
    refine E_ret ?_
    cases h
    exact ⟨trivial, _, rfl, (fz_tup ⟨(fz_agg ⟨(fz_ref Func.enc (Nat.zero_le _) rfl), trivial⟩), (fz_b rfl (.refl _)), trivial⟩)⟩
end Go.Proofs.YtkfhljombjmdbaaDoor
