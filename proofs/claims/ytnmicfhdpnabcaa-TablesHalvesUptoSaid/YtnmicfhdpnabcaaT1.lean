/- Contracts of the tables' functions: leaves. -/
import Derived.Test.YtnmicfhdpnabcaaTbF
import Derived.Test.YtnmicfhdpnabcaaWlE2
namespace Go.Proofs.Ytnmicfhdpnabcaa
open Go Go.Ab
set_option maxRecDepth 20000
set_option linter.unusedVariables false
set_option linter.unusedSimpArgs false
theorem mixed : Try.prog.follows .mixedOrders = true := Try.checked.mixed

structure Save where
  reg : Int
  off : Int
structure Row where
  start : Int
  stop : Int
  size : Int
  params : List Int
  saves : List Save
  resume : Int
structure Site where
  place : Int
  live : List Int
structure Tab where
  funcs : List Row
  sites : List Site

def Save.av (s : Save) : AV := .agg [.int .i64 s.reg, .int .i64 s.off]
def kav (k : Int) : AV := .int .u8 k
def iav (k : Int) : AV := .int .i64 k
def Row.av (r : Row) : AV := .agg [.int .i64 r.start, .int .i64 r.stop, .int .i64 r.size, .sl false 1 (r.params.map kav), .sl false 2 (r.saves.map Save.av), .int .i64 r.resume]
def Site.av (s : Site) : AV := .agg [.int .i64 s.place, .sl false 1 (s.live.map iav)]
def Tab.av (t : Tab) : AV := .agg [.sl false 6 (t.funcs.map Row.av), .sl false 2 (t.sites.map Site.av)]

theorem Save.blw (n : Nat) (s : Save) : s.av.blw n = true := rfl
theorem kav.blw (n : Nat) (k : Int) : (kav k).blw n = true := rfl
theorem iav.blw (n : Nat) (k : Int) : (iav k).blw n = true := rfl
theorem Row.blw (n : Nat) (r : Row) : r.av.blw n = true := by simp [Row.av, AV.blw, blwL, blwL_map (kav.blw n), blwL_map (Save.blw n)]
theorem Site.blw (n : Nat) (s : Site) : s.av.blw n = true := by simp [Site.av, AV.blw, blwL, blwL_map (iav.blw n)]
theorem Tab.blw (n : Nat) (t : Tab) : t.av.blw n = true := by simp [Tab.av, AV.blw, blwL, blwL_map (Row.blw n), blwL_map (Site.blw n)]

def offsetS (o size : Int) : Bool := decide (0 ≤ o ∧ o < size ∧ o % 8 = 0)

theorem offset_ev (o size : Int) : PureEv Try.prog 21 [.int .i64 o, .int .i64 size] (.bool (offsetS o size)) := by
  refine PureEv_of mixed fn21 (by simp) [] rfl ?_
  unfold fc21
  repeat' (first
    | with_reducible refine E_seq ?_ | with_reducible refine E_reg ?_ | with_reducible refine E_thn ?_ | with_reducible refine E_nil ?_
    | ((with_reducible apply E_mv); (· first | (conv => lhs; whnf) | rfl))
    | ((with_reducible apply E_gh); (· rfl)) | ((with_reducible apply E_gm); (· rfl)) | ((with_reducible apply E_gz); (· rfl)) | ((with_reducible apply E_gs); (· rfl); all_goals (intro h; (try rw [h]); (try simp only [decide_eq_true_eq, decide_eq_false_iff_not, beq_iff_eq, bne_iff_ne, beq_eq_false_iff_ne, bne_eq_false_iff_eq, ge_iff_le, gt_iff_lt, Bool.not_true, Bool.not_false] at h)))
    | ((with_reducible apply E_pt); (· rfl); (· first | (conv => lhs; whnf) | rfl))
    | ((with_reducible apply E_pf); (· rfl); (· first | (conv => lhs; whnf) | rfl))
    | ((with_reducible apply E_len); (· rfl))
    | ((with_reducible apply E_iad); (· rfl); (· rfl); (· rfl); (· rfl); (· omega); (intro y hy; (try rw [Int.toNat_natCast] at hy)))
    | ((with_reducible apply E_op0); (· rfl); (· first | (conv => lhs; whnf) | rfl))
    | ((with_reducible apply E_op); (· rfl); (· first | (conv => lhs; whnf) | rfl); (· first | (conv => lhs; whnf) | rfl))
    | ((with_reducible apply E_do); (· rfl); (· first | (conv => lhs; whnf) | rfl))
    | ((with_reducible apply E_fin); (· first | (conv => lhs; whnf) | rfl))
    | with_reducible refine E_skip ?_ | with_reducible refine E_block ?_ | with_reducible refine E_exit ?_ | with_reducible refine E_ret ?_ | with_reducible refine E_the ?_ | with_reducible refine E_thr ?_
    | with_reducible refine E_bln ?_ | with_reducible refine E_ble ?_ | ((with_reducible refine E_blo ?_ ?_); (· rfl)) | with_reducible refine E_blr ?_
    | ((with_reducible apply E_ct); (· rfl)) | ((with_reducible apply E_cf); (· rfl)) | ((with_reducible apply E_cs); (· rfl); all_goals (intro h; (try rw [h]); (try simp only [decide_eq_true_eq, decide_eq_false_iff_not, beq_iff_eq, bne_iff_ne, beq_eq_false_iff_ne, bne_eq_false_iff_eq, ge_iff_le, gt_iff_lt, Bool.not_true, Bool.not_false] at h))))
  all_goals (congr 1; simp [offsetS] at *)
  · rw [Int.tmod_eq_emod_of_nonneg (by assumption)]
    simp [*]
    rfl
  · omega
  · omega

theorem isNaN_ev (x : Int) : PureEv Try.prog 34 [.int .i64 x] (.bool false) := by
  refine PureEv_of mixed fn34 (by simp) [] rfl ?_
  unfold fc34
  repeat' (first
    | with_reducible refine E_seq ?_ | with_reducible refine E_reg ?_ | with_reducible refine E_thn ?_ | with_reducible refine E_nil ?_
    | ((with_reducible apply E_mv); (· first | (conv => lhs; whnf) | rfl))
    | ((with_reducible apply E_gh); (· rfl)) | ((with_reducible apply E_gm); (· rfl)) | ((with_reducible apply E_gz); (· rfl)) | ((with_reducible apply E_gs); (· rfl); all_goals (intro h; (try rw [h]); (try simp only [decide_eq_true_eq, decide_eq_false_iff_not, beq_iff_eq, bne_iff_ne, beq_eq_false_iff_ne, bne_eq_false_iff_eq, ge_iff_le, gt_iff_lt, Bool.not_true, Bool.not_false] at h)))
    | ((with_reducible apply E_pt); (· rfl); (· first | (conv => lhs; whnf) | rfl))
    | ((with_reducible apply E_pf); (· rfl); (· first | (conv => lhs; whnf) | rfl))
    | ((with_reducible apply E_len); (· rfl))
    | ((with_reducible apply E_iad); (· rfl); (· rfl); (· rfl); (· rfl); (· omega); (intro y hy; (try rw [Int.toNat_natCast] at hy)))
    | ((with_reducible apply E_op0); (· rfl); (· first | (conv => lhs; whnf) | rfl))
    | ((with_reducible apply E_op); (· rfl); (· first | (conv => lhs; whnf) | rfl); (· first | (conv => lhs; whnf) | rfl))
    | ((with_reducible apply E_do); (· rfl); (· first | (conv => lhs; whnf) | rfl))
    | ((with_reducible apply E_fin); (· first | (conv => lhs; whnf) | rfl))
    | with_reducible refine E_skip ?_ | with_reducible refine E_block ?_ | with_reducible refine E_exit ?_ | with_reducible refine E_ret ?_ | with_reducible refine E_the ?_ | with_reducible refine E_thr ?_
    | with_reducible refine E_bln ?_ | with_reducible refine E_ble ?_ | ((with_reducible refine E_blo ?_ ?_); (· rfl)) | with_reducible refine E_blr ?_
    | ((with_reducible apply E_ct); (· rfl)) | ((with_reducible apply E_cf); (· rfl)) | ((with_reducible apply E_cs); (· rfl); all_goals (intro h; (try rw [h]); (try simp only [decide_eq_true_eq, decide_eq_false_iff_not, beq_iff_eq, bne_iff_ne, beq_eq_false_iff_ne, bne_eq_false_iff_eq, ge_iff_le, gt_iff_lt, Bool.not_true, Bool.not_false] at h))))
  simp

def cmpS (x y : Int) : Int := if x < y then -1 else if y < x then 1 else 0

theorem compare_ev (x y : Int) : PureEv Try.prog 24 [.int .i64 x, .int .i64 y] (.int .i64 (cmpS x y)) := by
  refine PureEv_of mixed fn24 (by simp) [] rfl ?_
  unfold fc24
  repeat' (first
    | ((with_reducible apply E_call (isNaN_ev _)); (· rfl); (· rfl); (· rfl))
    | with_reducible refine E_seq ?_ | with_reducible refine E_reg ?_ | with_reducible refine E_thn ?_ | with_reducible refine E_nil ?_
    | ((with_reducible apply E_mv); (· first | (conv => lhs; whnf) | rfl))
    | ((with_reducible apply E_gh); (· rfl)) | ((with_reducible apply E_gm); (· rfl)) | ((with_reducible apply E_gz); (· rfl)) | ((with_reducible apply E_gs); (· rfl); all_goals (intro h; (try rw [h]); (try simp only [decide_eq_true_eq, decide_eq_false_iff_not, beq_iff_eq, bne_iff_ne, beq_eq_false_iff_ne, bne_eq_false_iff_eq, ge_iff_le, gt_iff_lt, Bool.not_true, Bool.not_false] at h)))
    | ((with_reducible apply E_pt); (· rfl); (· first | (conv => lhs; whnf) | rfl))
    | ((with_reducible apply E_pf); (· rfl); (· first | (conv => lhs; whnf) | rfl))
    | ((with_reducible apply E_len); (· rfl))
    | ((with_reducible apply E_iad); (· rfl); (· rfl); (· rfl); (· rfl); (· omega); (intro y hy; (try rw [Int.toNat_natCast] at hy)))
    | ((with_reducible apply E_op0); (· rfl); (· first | (conv => lhs; whnf) | rfl))
    | ((with_reducible apply E_op); (· rfl); (· first | (conv => lhs; whnf) | rfl); (· first | (conv => lhs; whnf) | rfl))
    | ((with_reducible apply E_do); (· rfl); (· first | (conv => lhs; whnf) | rfl))
    | ((with_reducible apply E_fin); (· first | (conv => lhs; whnf) | rfl))
    | with_reducible refine E_skip ?_ | with_reducible refine E_block ?_ | with_reducible refine E_exit ?_ | with_reducible refine E_ret ?_ | with_reducible refine E_the ?_ | with_reducible refine E_thr ?_
    | with_reducible refine E_bln ?_ | with_reducible refine E_ble ?_ | ((with_reducible refine E_blo ?_ ?_); (· rfl)) | with_reducible refine E_blr ?_
    | ((with_reducible apply E_ct); (· rfl)) | ((with_reducible apply E_cf); (· rfl)) | ((with_reducible apply E_cs); (· rfl); all_goals (intro h; (try rw [h]); (try simp only [decide_eq_true_eq, decide_eq_false_iff_not, beq_iff_eq, bne_iff_ne, beq_eq_false_iff_ne, bne_eq_false_iff_eq, ge_iff_le, gt_iff_lt, Bool.not_true, Bool.not_false] at h))))
  all_goals (congr 1; simp only [cmpS])
  all_goals (repeat' split) <;> first | rfl | omega

def ownerFrom (x : Int) : Nat → List Row → Int
  | _, [] => -1
  | i, r :: rs => if r.start < x ∧ x ≤ r.stop then i else ownerFrom x (i + 1) rs

theorem owner_ev (t : Tab) (x : Int) (ht : t.funcs.length ≤ 1048576) : PureEv Try.prog 20 [t.av, .int .i64 x] (.int .i64 (ownerFrom x 0 t.funcs)) := by
  refine PureEv_of mixed fn20 (by simp) [6] rfl ?_
  unfold fc20
  repeat' (first
    | with_reducible refine E_seq ?_ | with_reducible refine E_reg ?_ | with_reducible refine E_thn ?_ | with_reducible refine E_nil ?_
    | ((with_reducible apply E_mv); (· first | (conv => lhs; whnf) | rfl))
    | ((with_reducible apply E_gh); (· rfl)) | ((with_reducible apply E_gm); (· rfl)) | ((with_reducible apply E_gz); (· rfl)) | ((with_reducible apply E_gs); (· rfl); all_goals (intro h; (try rw [h]); (try simp only [decide_eq_true_eq, decide_eq_false_iff_not, beq_iff_eq, bne_iff_ne, beq_eq_false_iff_ne, bne_eq_false_iff_eq, ge_iff_le, gt_iff_lt, Bool.not_true, Bool.not_false] at h)))
    | ((with_reducible apply E_pt); (· rfl); (· first | (conv => lhs; whnf) | rfl))
    | ((with_reducible apply E_pf); (· rfl); (· first | (conv => lhs; whnf) | rfl))
    | ((with_reducible apply E_len); (· rfl))
    | ((with_reducible apply E_iad); (· rfl); (· rfl); (· rfl); (· rfl); (· omega); (intro y hy; (try rw [Int.toNat_natCast] at hy)))
    | ((with_reducible apply E_op0); (· rfl); (· first | (conv => lhs; whnf) | rfl))
    | ((with_reducible apply E_op); (· rfl); (· first | (conv => lhs; whnf) | rfl); (· first | (conv => lhs; whnf) | rfl))
    | ((with_reducible apply E_do); (· rfl); (· first | (conv => lhs; whnf) | rfl))
    | ((with_reducible apply E_fin); (· first | (conv => lhs; whnf) | rfl))
    | with_reducible refine E_skip ?_ | with_reducible refine E_block ?_ | with_reducible refine E_exit ?_ | with_reducible refine E_ret ?_ | with_reducible refine E_the ?_ | with_reducible refine E_thr ?_
    | with_reducible refine E_bln ?_ | with_reducible refine E_ble ?_ | ((with_reducible refine E_blo ?_ ?_); (· rfl)) | with_reducible refine E_blr ?_
    | ((with_reducible apply E_ct); (· rfl)) | ((with_reducible apply E_cf); (· rfl)) | ((with_reducible apply E_cs); (· rfl); all_goals (intro h; (try rw [h]); (try simp only [decide_eq_true_eq, decide_eq_false_iff_not, beq_iff_eq, bne_iff_ne, beq_eq_false_iff_ne, bne_eq_false_iff_eq, ge_iff_le, gt_iff_lt, Bool.not_true, Bool.not_false] at h))))
  refine E_loop (ι := Nat) (fun i => [(1, .int .i64 x), (8, .sl false 6 (t.funcs.map Row.av)), (9, .int .i64 t.funcs.length), (10, .int .i64 i)]) (fun _ => []) (fun i => i ≤ t.funcs.length ∧ ownerFrom x i (t.funcs.drop i) = ownerFrom x 0 t.funcs) (fun i => t.funcs.length - i) 0 ⟨by omega, rfl⟩ (wk_nil ?_) ?_
  · exact ⟨rfl, rfl, rfl, blwL_map (Row.blw 0) _, by simp [Fr.get], rfl, rfl, rfl, trivial⟩
  rintro i ⟨hi, hS⟩
  repeat' (first
    | with_reducible refine E_seq ?_ | with_reducible refine E_reg ?_ | with_reducible refine E_thn ?_ | with_reducible refine E_nil ?_
    | ((with_reducible apply E_mv); (· first | (conv => lhs; whnf) | rfl))
    | ((with_reducible apply E_gh); (· rfl)) | ((with_reducible apply E_gm); (· rfl)) | ((with_reducible apply E_gz); (· rfl)) | ((with_reducible apply E_gs); (· rfl); all_goals (intro h; (try rw [h]); (try simp only [decide_eq_true_eq, decide_eq_false_iff_not, beq_iff_eq, bne_iff_ne, beq_eq_false_iff_ne, bne_eq_false_iff_eq, ge_iff_le, gt_iff_lt, Bool.not_true, Bool.not_false] at h)))
    | ((with_reducible apply E_pt); (· rfl); (· first | (conv => lhs; whnf) | rfl))
    | ((with_reducible apply E_pf); (· rfl); (· first | (conv => lhs; whnf) | rfl))
    | ((with_reducible apply E_len); (· rfl))
    | ((with_reducible apply E_iad); (· rfl); (· rfl); (· rfl); (· rfl); (· omega); (intro y hy; (try rw [Int.toNat_natCast] at hy)))
    | ((with_reducible apply E_op0); (· rfl); (· first | (conv => lhs; whnf) | rfl))
    | ((with_reducible apply E_op); (· rfl); (· first | (conv => lhs; whnf) | rfl); (· first | (conv => lhs; whnf) | rfl))
    | ((with_reducible apply E_do); (· rfl); (· first | (conv => lhs; whnf) | rfl))
    | ((with_reducible apply E_fin); (· first | (conv => lhs; whnf) | rfl))
    | with_reducible refine E_skip ?_ | with_reducible refine E_block ?_ | with_reducible refine E_exit ?_ | with_reducible refine E_ret ?_ | with_reducible refine E_the ?_ | with_reducible refine E_thr ?_
    | with_reducible refine E_bln ?_ | with_reducible refine E_ble ?_ | ((with_reducible refine E_blo ?_ ?_); (· rfl)) | with_reducible refine E_blr ?_
    | ((with_reducible apply E_ct); (· rfl)) | ((with_reducible apply E_cf); (· rfl)) | ((with_reducible apply E_cs); (· rfl); all_goals (intro h; (try rw [h]); (try simp only [decide_eq_true_eq, decide_eq_false_iff_not, beq_iff_eq, bne_iff_ne, beq_eq_false_iff_ne, bne_eq_false_iff_eq, ge_iff_le, gt_iff_lt, Bool.not_true, Bool.not_false] at h))))
  · rw [← hS, drop_cons hy, ownerFrom, if_pos ⟨by assumption, by assumption⟩]
  · refine ⟨i + 1, ⟨by omega, ?_⟩, by omega, wk_nil ?_⟩
    · rw [← hS, drop_cons hy]; exact (if_neg (by omega)).symm
    · exact ⟨rfl, rfl, rfl, blwL_map (Row.blw 0) _, rfl, rfl, congrArg _ (by rw [wrap_i64 (by omega)]; omega), rfl, trivial⟩
  · refine ⟨i + 1, ⟨by omega, ?_⟩, by omega, wk_nil ?_⟩
    · rw [← hS, drop_cons hy]; exact (if_neg (by omega)).symm
    · exact ⟨rfl, rfl, rfl, blwL_map (Row.blw 0) _, rfl, rfl, congrArg _ (by rw [wrap_i64 (by omega)]; omega), rfl, trivial⟩
  · rw [← hS, List.drop_eq_nil_of_le (by omega)]; rfl

theorem funcCmp_ev (r : Row) (x : Int) : PureEv Try.prog 23 [r.av, .int .i64 x] (.int .i64 (cmpS r.start x)) := by
  refine PureEv_of mixed fn23 (by simp) [] rfl ?_
  unfold fc23
  repeat' (first
    | ((with_reducible apply E_call (compare_ev _ _)); (· rfl); (· rfl); (· rfl))
    | with_reducible refine E_seq ?_ | with_reducible refine E_reg ?_ | with_reducible refine E_thn ?_ | with_reducible refine E_nil ?_
    | ((with_reducible apply E_mv); (· first | (conv => lhs; whnf) | rfl))
    | ((with_reducible apply E_gh); (· rfl)) | ((with_reducible apply E_gm); (· rfl)) | ((with_reducible apply E_gz); (· rfl)) | ((with_reducible apply E_gs); (· rfl); all_goals (intro h; (try rw [h]); (try simp only [decide_eq_true_eq, decide_eq_false_iff_not, beq_iff_eq, bne_iff_ne, beq_eq_false_iff_ne, bne_eq_false_iff_eq, ge_iff_le, gt_iff_lt, Bool.not_true, Bool.not_false] at h)))
    | ((with_reducible apply E_pt); (· rfl); (· first | (conv => lhs; whnf) | rfl))
    | ((with_reducible apply E_pf); (· rfl); (· first | (conv => lhs; whnf) | rfl))
    | ((with_reducible apply E_len); (· rfl))
    | ((with_reducible apply E_iad); (· rfl); (· rfl); (· rfl); (· rfl); (· omega); (intro y hy; (try rw [Int.toNat_natCast] at hy)))
    | ((with_reducible apply E_op0); (· rfl); (· first | (conv => lhs; whnf) | rfl))
    | ((with_reducible apply E_op); (· rfl); (· first | (conv => lhs; whnf) | rfl); (· first | (conv => lhs; whnf) | rfl))
    | ((with_reducible apply E_do); (· rfl); (· first | (conv => lhs; whnf) | rfl))
    | ((with_reducible apply E_fin); (· first | (conv => lhs; whnf) | rfl))
    | with_reducible refine E_skip ?_ | with_reducible refine E_block ?_ | with_reducible refine E_exit ?_ | with_reducible refine E_ret ?_ | with_reducible refine E_the ?_ | with_reducible refine E_thr ?_
    | with_reducible refine E_bln ?_ | with_reducible refine E_ble ?_ | ((with_reducible refine E_blo ?_ ?_); (· rfl)) | with_reducible refine E_blr ?_
    | ((with_reducible apply E_ct); (· rfl)) | ((with_reducible apply E_cf); (· rfl)) | ((with_reducible apply E_cs); (· rfl); all_goals (intro h; (try rw [h]); (try simp only [decide_eq_true_eq, decide_eq_false_iff_not, beq_iff_eq, bne_iff_ne, beq_eq_false_iff_ne, bne_eq_false_iff_eq, ge_iff_le, gt_iff_lt, Bool.not_true, Bool.not_false] at h))))
  all_goals rfl

theorem siteCmp_ev (r : Site) (x : Int) : PureEv Try.prog 28 [r.av, .int .i64 x] (.int .i64 (cmpS r.place x)) := by
  refine PureEv_of mixed fn28 (by simp) [] rfl ?_
  unfold fc28
  repeat' (first
    | ((with_reducible apply E_call (compare_ev _ _)); (· rfl); (· rfl); (· rfl))
    | with_reducible refine E_seq ?_ | with_reducible refine E_reg ?_ | with_reducible refine E_thn ?_ | with_reducible refine E_nil ?_
    | ((with_reducible apply E_mv); (· first | (conv => lhs; whnf) | rfl))
    | ((with_reducible apply E_gh); (· rfl)) | ((with_reducible apply E_gm); (· rfl)) | ((with_reducible apply E_gz); (· rfl)) | ((with_reducible apply E_gs); (· rfl); all_goals (intro h; (try rw [h]); (try simp only [decide_eq_true_eq, decide_eq_false_iff_not, beq_iff_eq, bne_iff_ne, beq_eq_false_iff_ne, bne_eq_false_iff_eq, ge_iff_le, gt_iff_lt, Bool.not_true, Bool.not_false] at h)))
    | ((with_reducible apply E_pt); (· rfl); (· first | (conv => lhs; whnf) | rfl))
    | ((with_reducible apply E_pf); (· rfl); (· first | (conv => lhs; whnf) | rfl))
    | ((with_reducible apply E_len); (· rfl))
    | ((with_reducible apply E_iad); (· rfl); (· rfl); (· rfl); (· rfl); (· omega); (intro y hy; (try rw [Int.toNat_natCast] at hy)))
    | ((with_reducible apply E_op0); (· rfl); (· first | (conv => lhs; whnf) | rfl))
    | ((with_reducible apply E_op); (· rfl); (· first | (conv => lhs; whnf) | rfl); (· first | (conv => lhs; whnf) | rfl))
    | ((with_reducible apply E_do); (· rfl); (· first | (conv => lhs; whnf) | rfl))
    | ((with_reducible apply E_fin); (· first | (conv => lhs; whnf) | rfl))
    | with_reducible refine E_skip ?_ | with_reducible refine E_block ?_ | with_reducible refine E_exit ?_ | with_reducible refine E_ret ?_ | with_reducible refine E_the ?_ | with_reducible refine E_thr ?_
    | with_reducible refine E_bln ?_ | with_reducible refine E_ble ?_ | ((with_reducible refine E_blo ?_ ?_); (· rfl)) | with_reducible refine E_blr ?_
    | ((with_reducible apply E_ct); (· rfl)) | ((with_reducible apply E_cf); (· rfl)) | ((with_reducible apply E_cs); (· rfl); all_goals (intro h; (try rw [h]); (try simp only [decide_eq_true_eq, decide_eq_false_iff_not, beq_iff_eq, bne_iff_ne, beq_eq_false_iff_ne, bne_eq_false_iff_eq, ge_iff_le, gt_iff_lt, Bool.not_true, Bool.not_false] at h))))
  all_goals rfl

def savesOK (size : Int) : Int → List Save → Bool
  | _, [] => true
  | last, s :: r => decide (last < s.reg ∧ s.reg < 12) && offsetS s.off size && savesOK size s.reg r
def rowHead (r : Row) (least : Int) : Prop :=
  least ≤ r.start ∧ r.start < r.stop ∧ r.stop ≤ 1048576 ∧ 0 ≤ r.size ∧ r.size ≤ 65536 ∧ r.size % 8 = 0 ∧ r.params.length ≤ 4
def rowBack (r : Row) : Prop := r.resume = -1 ∨ (r.start ≤ r.resume ∧ r.resume < r.stop)
instance (r : Row) (l : Int) : Decidable (rowHead r l) := by unfold rowHead; infer_instance
instance (r : Row) : Decidable (rowBack r) := by unfold rowBack; infer_instance
def rowS (r : Row) (least : Int) : Bool := decide (rowHead r least) && decide (rowBack r) && r.params.all (fun k => decide (k ≤ 1)) && savesOK r.size 5 r.saves

theorem row_ev (r : Row) (least : Int) (hs : r.saves.length ≤ 1048576) : PureEv Try.prog 19 [r.av, .int .i64 least] (.bool (rowS r least)) := by
  refine PureEv_of mixed fn19 (by simp) [9] rfl ?_
  unfold fc19
  have ht0 : 0 ≤ r.size → r.size.tmod 8 = r.size % 8 := fun h => Int.tmod_eq_emod_of_nonneg h
  have hpl : (r.params.map kav).length = r.params.length := List.length_map ..
  refine E_cut [(1, .int .i64 least), (2, .cptr r.av.cells 0)] [] True ?_ (fun _ => ?_)
  · repeat' (first
      | with_reducible refine E_seq ?_ | with_reducible refine E_reg ?_ | with_reducible refine E_thn ?_ | with_reducible refine E_nil ?_
      | ((with_reducible apply E_mv); (· first | (conv => lhs; whnf) | rfl))
      | ((with_reducible apply E_gh); (· rfl)) | ((with_reducible apply E_gm); (· rfl)) | ((with_reducible apply E_gz); (· rfl)) | ((with_reducible apply E_gs); (· rfl); all_goals (intro h; (try rw [h]); (try simp only [decide_eq_true_eq, decide_eq_false_iff_not, beq_iff_eq, bne_iff_ne, beq_eq_false_iff_ne, bne_eq_false_iff_eq, ge_iff_le, gt_iff_lt, Bool.not_true, Bool.not_false] at h)))
      | ((with_reducible apply E_pt); (· rfl); (· first | (conv => lhs; whnf) | rfl))
      | ((with_reducible apply E_pf); (· rfl); (· first | (conv => lhs; whnf) | rfl))
      | ((with_reducible apply E_len); (· rfl))
      | ((with_reducible apply E_iad); (· rfl); (· rfl); (· rfl); (· rfl); (· omega); (intro y hy; (try rw [Int.toNat_natCast] at hy)))
      | ((with_reducible apply E_op0); (· rfl); (· first | (conv => lhs; whnf) | rfl))
      | ((with_reducible apply E_op); (· rfl); (· first | (conv => lhs; whnf) | rfl); (· first | (conv => lhs; whnf) | rfl))
      | ((with_reducible apply E_do); (· rfl); (· first | (conv => lhs; whnf) | rfl))
      | ((with_reducible apply E_fin); (· first | (conv => lhs; whnf) | rfl))
      | with_reducible refine E_skip ?_ | with_reducible refine E_block ?_ | with_reducible refine E_exit ?_ | with_reducible refine E_ret ?_ | with_reducible refine E_the ?_ | with_reducible refine E_thr ?_
      | with_reducible refine E_bln ?_ | with_reducible refine E_ble ?_ | ((with_reducible refine E_blo ?_ ?_); (· rfl)) | with_reducible refine E_blr ?_
      | ((with_reducible apply E_ct); (· rfl)) | ((with_reducible apply E_cf); (· rfl)) | ((with_reducible apply E_cs); (· rfl); all_goals (intro h; (try rw [h]); (try simp only [decide_eq_true_eq, decide_eq_false_iff_not, beq_iff_eq, bne_iff_ne, beq_eq_false_iff_ne, bne_eq_false_iff_eq, ge_iff_le, gt_iff_lt, Bool.not_true, Bool.not_false] at h))))
    exact ⟨trivial, wk_nil ⟨rfl, rfl, rfl, Row.blw 0 r, trivial⟩⟩
  refine E_cut [(1, .int .i64 least), (2, .cptr r.av.cells 0)] [] (rowHead r least) ?_ (fun hhead => ?_)
  · repeat' (first
      | with_reducible refine E_seq ?_ | with_reducible refine E_reg ?_ | with_reducible refine E_thn ?_ | with_reducible refine E_nil ?_
      | ((with_reducible apply E_mv); (· first | (conv => lhs; whnf) | rfl))
      | ((with_reducible apply E_gh); (· rfl)) | ((with_reducible apply E_gm); (· rfl)) | ((with_reducible apply E_gz); (· rfl)) | ((with_reducible apply E_gs); (· rfl); all_goals (intro h; (try rw [h]); (try simp only [decide_eq_true_eq, decide_eq_false_iff_not, beq_iff_eq, bne_iff_ne, beq_eq_false_iff_ne, bne_eq_false_iff_eq, ge_iff_le, gt_iff_lt, Bool.not_true, Bool.not_false] at h)))
      | ((with_reducible apply E_pt); (· rfl); (· first | (conv => lhs; whnf) | rfl))
      | ((with_reducible apply E_pf); (· rfl); (· first | (conv => lhs; whnf) | rfl))
      | ((with_reducible apply E_len); (· rfl))
      | ((with_reducible apply E_iad); (· rfl); (· rfl); (· rfl); (· rfl); (· omega); (intro y hy; (try rw [Int.toNat_natCast] at hy)))
      | ((with_reducible apply E_op0); (· rfl); (· first | (conv => lhs; whnf) | rfl))
      | ((with_reducible apply E_op); (· rfl); (· first | (conv => lhs; whnf) | rfl); (· first | (conv => lhs; whnf) | rfl))
      | ((with_reducible apply E_do); (· rfl); (· first | (conv => lhs; whnf) | rfl))
      | ((with_reducible apply E_fin); (· first | (conv => lhs; whnf) | rfl))
      | with_reducible refine E_skip ?_ | with_reducible refine E_block ?_ | with_reducible refine E_exit ?_ | with_reducible refine E_ret ?_ | with_reducible refine E_the ?_ | with_reducible refine E_thr ?_
      | with_reducible refine E_bln ?_ | with_reducible refine E_ble ?_ | ((with_reducible refine E_blo ?_ ?_); (· rfl)) | with_reducible refine E_blr ?_
      | ((with_reducible apply E_ct); (· rfl)) | ((with_reducible apply E_cf); (· rfl)) | ((with_reducible apply E_cs); (· rfl); all_goals (intro h; (try rw [h]); (try simp only [decide_eq_true_eq, decide_eq_false_iff_not, beq_iff_eq, bne_iff_ne, beq_eq_false_iff_ne, bne_eq_false_iff_eq, ge_iff_le, gt_iff_lt, Bool.not_true, Bool.not_false] at h))))
    all_goals first
      | (refine congrArg AV.bool (Eq.symm ?_); unfold rowS; rw [decide_eq_false (by unfold rowHead; omega)]; rfl)
      | exact ⟨by unfold rowHead; omega, wk_nil ⟨rfl, rfl, rfl, Row.blw 0 r, trivial⟩⟩
  refine E_cut [(1, .int .i64 least), (2, .cptr r.av.cells 0)] [] (rowBack r) ?_ (fun hback => ?_)
  · repeat' (first
      | with_reducible refine E_seq ?_ | with_reducible refine E_reg ?_ | with_reducible refine E_thn ?_ | with_reducible refine E_nil ?_
      | ((with_reducible apply E_mv); (· first | (conv => lhs; whnf) | rfl))
      | ((with_reducible apply E_gh); (· rfl)) | ((with_reducible apply E_gm); (· rfl)) | ((with_reducible apply E_gz); (· rfl)) | ((with_reducible apply E_gs); (· rfl); all_goals (intro h; (try rw [h]); (try simp only [decide_eq_true_eq, decide_eq_false_iff_not, beq_iff_eq, bne_iff_ne, beq_eq_false_iff_ne, bne_eq_false_iff_eq, ge_iff_le, gt_iff_lt, Bool.not_true, Bool.not_false] at h)))
      | ((with_reducible apply E_pt); (· rfl); (· first | (conv => lhs; whnf) | rfl))
      | ((with_reducible apply E_pf); (· rfl); (· first | (conv => lhs; whnf) | rfl))
      | ((with_reducible apply E_len); (· rfl))
      | ((with_reducible apply E_iad); (· rfl); (· rfl); (· rfl); (· rfl); (· omega); (intro y hy; (try rw [Int.toNat_natCast] at hy)))
      | ((with_reducible apply E_op0); (· rfl); (· first | (conv => lhs; whnf) | rfl))
      | ((with_reducible apply E_op); (· rfl); (· first | (conv => lhs; whnf) | rfl); (· first | (conv => lhs; whnf) | rfl))
      | ((with_reducible apply E_do); (· rfl); (· first | (conv => lhs; whnf) | rfl))
      | ((with_reducible apply E_fin); (· first | (conv => lhs; whnf) | rfl))
      | with_reducible refine E_skip ?_ | with_reducible refine E_block ?_ | with_reducible refine E_exit ?_ | with_reducible refine E_ret ?_ | with_reducible refine E_the ?_ | with_reducible refine E_thr ?_
      | with_reducible refine E_bln ?_ | with_reducible refine E_ble ?_ | ((with_reducible refine E_blo ?_ ?_); (· rfl)) | with_reducible refine E_blr ?_
      | ((with_reducible apply E_ct); (· rfl)) | ((with_reducible apply E_cf); (· rfl)) | ((with_reducible apply E_cs); (· rfl); all_goals (intro h; (try rw [h]); (try simp only [decide_eq_true_eq, decide_eq_false_iff_not, beq_iff_eq, bne_iff_ne, beq_eq_false_iff_ne, bne_eq_false_iff_eq, ge_iff_le, gt_iff_lt, Bool.not_true, Bool.not_false] at h))))
    all_goals first
      | (refine congrArg AV.bool (Eq.symm ?_); unfold rowS; rw [decide_eq_false (p := rowBack r) (by unfold rowBack; omega)]; simp; done)
      | exact ⟨by unfold rowBack; omega, wk_nil ⟨rfl, rfl, rfl, Row.blw 0 r, trivial⟩⟩
  refine E_cut [(1, .int .i64 least), (2, .cptr r.av.cells 0)] [] (r.params.all (fun k => decide (k ≤ 1)) = true) ?_ (fun hpar => ?_)
  · repeat' (first
      | with_reducible refine E_seq ?_ | with_reducible refine E_reg ?_ | with_reducible refine E_thn ?_ | with_reducible refine E_nil ?_
      | ((with_reducible apply E_mv); (· first | (conv => lhs; whnf) | rfl))
      | ((with_reducible apply E_gh); (· rfl)) | ((with_reducible apply E_gm); (· rfl)) | ((with_reducible apply E_gz); (· rfl)) | ((with_reducible apply E_gs); (· rfl); all_goals (intro h; (try rw [h]); (try simp only [decide_eq_true_eq, decide_eq_false_iff_not, beq_iff_eq, bne_iff_ne, beq_eq_false_iff_ne, bne_eq_false_iff_eq, ge_iff_le, gt_iff_lt, Bool.not_true, Bool.not_false] at h)))
      | ((with_reducible apply E_pt); (· rfl); (· first | (conv => lhs; whnf) | rfl))
      | ((with_reducible apply E_pf); (· rfl); (· first | (conv => lhs; whnf) | rfl))
      | ((with_reducible apply E_len); (· rfl))
      | ((with_reducible apply E_iad); (· rfl); (· rfl); (· rfl); (· rfl); (· omega); (intro y hy; (try rw [Int.toNat_natCast] at hy)))
      | ((with_reducible apply E_op0); (· rfl); (· first | (conv => lhs; whnf) | rfl))
      | ((with_reducible apply E_op); (· rfl); (· first | (conv => lhs; whnf) | rfl); (· first | (conv => lhs; whnf) | rfl))
      | ((with_reducible apply E_do); (· rfl); (· first | (conv => lhs; whnf) | rfl))
      | ((with_reducible apply E_fin); (· first | (conv => lhs; whnf) | rfl))
      | with_reducible refine E_skip ?_ | with_reducible refine E_block ?_ | with_reducible refine E_exit ?_ | with_reducible refine E_ret ?_ | with_reducible refine E_the ?_ | with_reducible refine E_thr ?_
      | with_reducible refine E_bln ?_ | with_reducible refine E_ble ?_ | ((with_reducible refine E_blo ?_ ?_); (· rfl)) | with_reducible refine E_blr ?_
      | ((with_reducible apply E_ct); (· rfl)) | ((with_reducible apply E_cf); (· rfl)) | ((with_reducible apply E_cs); (· rfl); all_goals (intro h; (try rw [h]); (try simp only [decide_eq_true_eq, decide_eq_false_iff_not, beq_iff_eq, bne_iff_ne, beq_eq_false_iff_ne, bne_eq_false_iff_eq, ge_iff_le, gt_iff_lt, Bool.not_true, Bool.not_false] at h))))
    refine E_loop (ι := Nat) (fun i => [(1, .int .i64 least), (2, .cptr r.av.cells 0), (66, .sl false 1 (r.params.map kav)), (67, .int .i64 r.params.length), (68, .int .i64 i)]) (fun _ => []) (fun i => i ≤ r.params.length ∧ r.params.all (fun k => decide (k ≤ 1)) = (r.params.drop i).all (fun k => decide (k ≤ 1))) (fun i => r.params.length - i) 0 ⟨by omega, rfl⟩ (wk_nil ?_) ?_
    · exact ⟨rfl, rfl, rfl, Row.blw 0 r, rfl, blwL_map (kav.blw 0) _, by simp [Fr.get], rfl, rfl, rfl, trivial⟩
    rintro i ⟨hi, hS⟩
    repeat' (first
      | with_reducible refine E_seq ?_ | with_reducible refine E_reg ?_ | with_reducible refine E_thn ?_ | with_reducible refine E_nil ?_
      | ((with_reducible apply E_mv); (· first | (conv => lhs; whnf) | rfl))
      | ((with_reducible apply E_gh); (· rfl)) | ((with_reducible apply E_gm); (· rfl)) | ((with_reducible apply E_gz); (· rfl)) | ((with_reducible apply E_gs); (· rfl); all_goals (intro h; (try rw [h]); (try simp only [decide_eq_true_eq, decide_eq_false_iff_not, beq_iff_eq, bne_iff_ne, beq_eq_false_iff_ne, bne_eq_false_iff_eq, ge_iff_le, gt_iff_lt, Bool.not_true, Bool.not_false] at h)))
      | ((with_reducible apply E_pt); (· rfl); (· first | (conv => lhs; whnf) | rfl))
      | ((with_reducible apply E_pf); (· rfl); (· first | (conv => lhs; whnf) | rfl))
      | ((with_reducible apply E_len); (· rfl))
      | ((with_reducible apply E_iad); (· rfl); (· rfl); (· rfl); (· rfl); (· omega); (intro y hy; (try rw [Int.toNat_natCast] at hy)))
      | ((with_reducible apply E_op0); (· rfl); (· first | (conv => lhs; whnf) | rfl))
      | ((with_reducible apply E_op); (· rfl); (· first | (conv => lhs; whnf) | rfl); (· first | (conv => lhs; whnf) | rfl))
      | ((with_reducible apply E_do); (· rfl); (· first | (conv => lhs; whnf) | rfl))
      | ((with_reducible apply E_fin); (· first | (conv => lhs; whnf) | rfl))
      | with_reducible refine E_skip ?_ | with_reducible refine E_block ?_ | with_reducible refine E_exit ?_ | with_reducible refine E_ret ?_ | with_reducible refine E_the ?_ | with_reducible refine E_thr ?_
      | with_reducible refine E_bln ?_ | with_reducible refine E_ble ?_ | ((with_reducible refine E_blo ?_ ?_); (· rfl)) | with_reducible refine E_blr ?_
      | ((with_reducible apply E_ct); (· rfl)) | ((with_reducible apply E_cf); (· rfl)) | ((with_reducible apply E_cs); (· rfl); all_goals (intro h; (try rw [h]); (try simp only [decide_eq_true_eq, decide_eq_false_iff_not, beq_iff_eq, bne_iff_ne, beq_eq_false_iff_ne, bne_eq_false_iff_eq, ge_iff_le, gt_iff_lt, Bool.not_true, Bool.not_false] at h))))
    · refine congrArg AV.bool (Eq.symm ?_)
      unfold rowS; rw [hS, drop_cons hy]; simp; intros; omega
    · refine ⟨i + 1, ⟨by omega, ?_⟩, by omega, wk_nil ?_⟩
      · rw [hS, drop_cons hy]; simp; omega
      · exact ⟨rfl, rfl, rfl, Row.blw 0 r, rfl, blwL_map (kav.blw 0) _, rfl, rfl, congrArg _ (by rw [wrap_i64 (by unfold rowHead at hhead; omega)]; omega), rfl, trivial⟩
    · refine ⟨?_, wk_nil ⟨rfl, rfl, rfl, Row.blw 0 r, trivial⟩⟩
      rw [hS, List.drop_eq_nil_of_le (by omega)]; rfl
  repeat' (first
    | with_reducible refine E_seq ?_ | with_reducible refine E_reg ?_ | with_reducible refine E_thn ?_ | with_reducible refine E_nil ?_
    | ((with_reducible apply E_mv); (· first | (conv => lhs; whnf) | rfl))
    | ((with_reducible apply E_gh); (· rfl)) | ((with_reducible apply E_gm); (· rfl)) | ((with_reducible apply E_gz); (· rfl)) | ((with_reducible apply E_gs); (· rfl); all_goals (intro h; (try rw [h]); (try simp only [decide_eq_true_eq, decide_eq_false_iff_not, beq_iff_eq, bne_iff_ne, beq_eq_false_iff_ne, bne_eq_false_iff_eq, ge_iff_le, gt_iff_lt, Bool.not_true, Bool.not_false] at h)))
    | ((with_reducible apply E_pt); (· rfl); (· first | (conv => lhs; whnf) | rfl))
    | ((with_reducible apply E_pf); (· rfl); (· first | (conv => lhs; whnf) | rfl))
    | ((with_reducible apply E_len); (· rfl))
    | ((with_reducible apply E_iad); (· rfl); (· rfl); (· rfl); (· rfl); (· omega); (intro y hy; (try rw [Int.toNat_natCast] at hy)))
    | ((with_reducible apply E_op0); (· rfl); (· first | (conv => lhs; whnf) | rfl))
    | ((with_reducible apply E_op); (· rfl); (· first | (conv => lhs; whnf) | rfl); (· first | (conv => lhs; whnf) | rfl))
    | ((with_reducible apply E_do); (· rfl); (· first | (conv => lhs; whnf) | rfl))
    | ((with_reducible apply E_fin); (· first | (conv => lhs; whnf) | rfl))
    | with_reducible refine E_skip ?_ | with_reducible refine E_block ?_ | with_reducible refine E_exit ?_ | with_reducible refine E_ret ?_ | with_reducible refine E_the ?_ | with_reducible refine E_thr ?_
    | with_reducible refine E_bln ?_ | with_reducible refine E_ble ?_ | ((with_reducible refine E_blo ?_ ?_); (· rfl)) | with_reducible refine E_blr ?_
    | ((with_reducible apply E_ct); (· rfl)) | ((with_reducible apply E_cf); (· rfl)) | ((with_reducible apply E_cs); (· rfl); all_goals (intro h; (try rw [h]); (try simp only [decide_eq_true_eq, decide_eq_false_iff_not, beq_iff_eq, bne_iff_ne, beq_eq_false_iff_ne, bne_eq_false_iff_eq, ge_iff_le, gt_iff_lt, Bool.not_true, Bool.not_false] at h))))
  refine E_loop (ι := Nat × Int) (fun i => [(1, .int .i64 least), (2, .cptr r.av.cells 0), (76, .sl false 2 (r.saves.map Save.av)), (77, .int .i64 r.saves.length), (78, .int .i64 i.1), (7, .int .i64 i.2)]) (fun _ => []) (fun i => i.1 ≤ r.saves.length ∧ savesOK r.size 5 r.saves = savesOK r.size i.2 (r.saves.drop i.1)) (fun i => r.saves.length - i.1) (0, 5) ⟨by simp, rfl⟩ (wk_nil ?_) ?_
  · exact ⟨rfl, rfl, rfl, Row.blw 0 r, rfl, blwL_map (Save.blw 0) _, by simp [Fr.get], rfl, rfl, rfl, rfl, rfl, trivial⟩
  rintro ⟨i, last⟩ ⟨hi, hS⟩
  simp only at hi hS ⊢
  repeat' (first
    | ((with_reducible apply E_call (offset_ev _ _)); (· rfl); (· rfl); (· rfl))
    | with_reducible refine E_seq ?_ | with_reducible refine E_reg ?_ | with_reducible refine E_thn ?_ | with_reducible refine E_nil ?_
    | ((with_reducible apply E_mv); (· first | (conv => lhs; whnf) | rfl))
    | ((with_reducible apply E_gh); (· rfl)) | ((with_reducible apply E_gm); (· rfl)) | ((with_reducible apply E_gz); (· rfl)) | ((with_reducible apply E_gs); (· rfl); all_goals (intro h; (try rw [h]); (try simp only [decide_eq_true_eq, decide_eq_false_iff_not, beq_iff_eq, bne_iff_ne, beq_eq_false_iff_ne, bne_eq_false_iff_eq, ge_iff_le, gt_iff_lt, Bool.not_true, Bool.not_false] at h)))
    | ((with_reducible apply E_pt); (· rfl); (· first | (conv => lhs; whnf) | rfl))
    | ((with_reducible apply E_pf); (· rfl); (· first | (conv => lhs; whnf) | rfl))
    | ((with_reducible apply E_len); (· rfl))
    | ((with_reducible apply E_iad); (· rfl); (· rfl); (· rfl); (· rfl); (· omega); (intro y hy; (try rw [Int.toNat_natCast] at hy)))
    | ((with_reducible apply E_op0); (· rfl); (· first | (conv => lhs; whnf) | rfl))
    | ((with_reducible apply E_op); (· rfl); (· first | (conv => lhs; whnf) | rfl); (· first | (conv => lhs; whnf) | rfl))
    | ((with_reducible apply E_do); (· rfl); (· first | (conv => lhs; whnf) | rfl))
    | ((with_reducible apply E_fin); (· first | (conv => lhs; whnf) | rfl))
    | with_reducible refine E_skip ?_ | with_reducible refine E_block ?_ | with_reducible refine E_exit ?_ | with_reducible refine E_ret ?_ | with_reducible refine E_the ?_ | with_reducible refine E_thr ?_
    | with_reducible refine E_bln ?_ | with_reducible refine E_ble ?_ | ((with_reducible refine E_blo ?_ ?_); (· rfl)) | with_reducible refine E_blr ?_
    | ((with_reducible apply E_ct); (· rfl)) | ((with_reducible apply E_cf); (· rfl)) | ((with_reducible apply E_cs); (· rfl); all_goals (intro h; (try rw [h]); (try simp only [decide_eq_true_eq, decide_eq_false_iff_not, beq_iff_eq, bne_iff_ne, beq_eq_false_iff_ne, bne_eq_false_iff_eq, ge_iff_le, gt_iff_lt, Bool.not_true, Bool.not_false] at h))))
  · refine congrArg AV.bool (Eq.symm ?_)
    unfold rowS; rw [hS, drop_cons hy]; simp at h; simp [savesOK, h]
  · refine ⟨(i + 1, y.reg), ⟨by simp only; omega, ?_⟩, by simp only; omega, wk_nil ?_⟩
    · rw [hS, drop_cons hy]; simp at h; simp [savesOK, h]; omega
    · exact ⟨rfl, rfl, rfl, Row.blw 0 r, rfl, blwL_map (Save.blw 0) _, rfl, rfl, congrArg _ (by rw [wrap_i64 (by omega)]; simp only; omega), rfl, rfl, rfl, trivial⟩
  · refine congrArg AV.bool (Eq.symm ?_)
    unfold rowS; rw [hS, drop_cons hy]; simp [savesOK]; intros; omega
  · refine congrArg AV.bool (Eq.symm ?_)
    unfold rowS; rw [hS, drop_cons hy]; simp [savesOK]; intros; omega
  · refine congrArg AV.bool (Eq.symm ?_)
    unfold rowS; rw [hS, List.drop_eq_nil_of_le (by omega), decide_eq_true hhead, decide_eq_true hback, hpar]; rfl
end Go.Proofs.Ytnmicfhdpnabcaa
