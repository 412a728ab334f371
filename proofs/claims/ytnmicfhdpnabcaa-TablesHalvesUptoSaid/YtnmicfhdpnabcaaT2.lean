/- Contracts: numbers behind others, searching. -/
import Derived.Test.YtnmicfhdpnabcaaT1
namespace Go.Proofs.Ytnmicfhdpnabcaa
open Go Go.Ab
set_option maxRecDepth 20000
set_option linter.unusedVariables false
set_option linter.unusedSimpArgs false

def bav (n : Int) : AV := .int .u8 n
def bytes4 (v : Int) : List Int := [IntKind.u8.wrap v, IntKind.u8.wrap (v.fdiv (2 ^ min (Int.toNat 8) IntKind.i64.bits)), IntKind.u8.wrap (v.fdiv (2 ^ min (Int.toNat 16) IntKind.i64.bits)), IntKind.u8.wrap (v.fdiv (2 ^ min (Int.toNat 24) IntKind.i64.bits))]
theorem bav.blw (n : Nat) (k : Int) : (bav k).blw n = true := rfl

theorem number_nil (S : List Ob) (v : Int) : Ev Try.prog 29 [.nils, .int .i64 v] (hp S) (.ref S.length 0 0 4 none) (hp (setAt S S.length (.arr 0 ((bytes4 v).map bav)))) := by
  refine Ev_of mixed fn29 (by simp) [18] ?_
  unfold fc29
  repeat' (first
    | with_reducible refine E_seq ?_ | with_reducible refine E_reg ?_ | with_reducible refine E_thn ?_ | with_reducible refine E_nil ?_
    | ((with_reducible apply E_mv); (· first | (conv => lhs; whnf) | rfl))
    | ((with_reducible apply E_gh); (· rfl)) | ((with_reducible apply E_gm); (· rfl)) | ((with_reducible apply E_gz); (· rfl)) | ((with_reducible apply E_gs); (· rfl); all_goals (intro h; (try rw [h]); (try simp only [decide_eq_true_eq, decide_eq_false_iff_not, beq_iff_eq, bne_iff_ne, beq_eq_false_iff_ne, bne_eq_false_iff_eq, ge_iff_le, gt_iff_lt, Bool.not_true, Bool.not_false] at h)))
    | ((with_reducible apply E_pt); (· rfl); (· first | (conv => lhs; whnf) | rfl))
    | ((with_reducible apply E_pf); (· rfl); (· first | (conv => lhs; whnf) | rfl))
    | ((with_reducible apply E_len); (· rfl))
    | ((with_reducible apply E_iad); (· rfl); (· rfl); (· rfl); (· rfl); (· omega); (intro y hy; (try rw [Int.toNat_natCast] at hy)))
    | ((with_reducible apply E_op0); (· rfl); (· first | (conv => lhs; whnf) | rfl))
    | ((with_reducible apply E_op); (· rfl); (· first | (conv => lhs; whnf) | rfl); (· first | (conv => lhs; whnf) | rfl))
    | ((with_reducible apply E_do); (· rfl); (· first | (conv => lhs; whnf) | rfl))
    | ((with_reducible apply E_fin); (· first | (conv => lhs; whnf) | rfl))
    | with_reducible refine E_skip ?_ | with_reducible refine E_block ?_ | with_reducible refine E_exit ?_ | with_reducible refine E_ret ?_ | with_reducible refine E_the ?_ | with_reducible refine E_thr ?_
    | with_reducible refine E_bln ?_ | with_reducible refine E_ble ?_ | ((with_reducible refine E_blo ?_ ?_); (· rfl)) | with_reducible refine E_blr ?_
    | ((with_reducible apply E_ct); (· rfl)) | ((with_reducible apply E_cf); (· rfl)) | ((with_reducible apply E_cs); (· rfl); all_goals (intro h; (try rw [h]); (try simp only [decide_eq_true_eq, decide_eq_false_iff_not, beq_iff_eq, bne_iff_ne, beq_eq_false_iff_ne, bne_eq_false_iff_eq, ge_iff_le, gt_iff_lt, Bool.not_true, Bool.not_false] at h))))
  exact ⟨trivial, _, fun _ _ _ _ h => h, rfl⟩

theorem number_ref {S : List Ob} {o ver : Nat} {bs : List Int} (v : Int) (ho : hp S o = .arr ver (bs.map bav)) (hb : bs.length ≤ 1099511627776) :
    Ev Try.prog 29 [.ref o ver 0 bs.length none, .int .i64 v] (hp S) (.ref o (ver + 1) 0 (bs ++ bytes4 v).length none) (hp (setAt S o (.arr (ver + 1) ((bs ++ bytes4 v).map bav)))) := by
  refine Ev_of mixed fn29 (by simp) [18] ?_
  unfold fc29
  rw [show (bs ++ bytes4 v).length = bs.length + 4 by simp [bytes4]]
  have e1 : ((bs.map bav).take (bs.length * szOf none) ++ (bytes4 v).map bav) = (bs ++ bytes4 v).map bav := by
    rw [List.take_of_length_le (by simp [szOf]), List.map_append]
  repeat' (first
    | ((with_reducible apply E_app (n := 4)); (· rfl); (· rfl); (· exact ho); (· rfl); (· omega))
    | with_reducible refine E_seq ?_ | with_reducible refine E_reg ?_ | with_reducible refine E_thn ?_ | with_reducible refine E_nil ?_
    | ((with_reducible apply E_mv); (· first | (conv => lhs; whnf) | rfl))
    | ((with_reducible apply E_gh); (· rfl)) | ((with_reducible apply E_gm); (· rfl)) | ((with_reducible apply E_gz); (· rfl)) | ((with_reducible apply E_gs); (· rfl); all_goals (intro h; (try rw [h]); (try simp only [decide_eq_true_eq, decide_eq_false_iff_not, beq_iff_eq, bne_iff_ne, beq_eq_false_iff_ne, bne_eq_false_iff_eq, ge_iff_le, gt_iff_lt, Bool.not_true, Bool.not_false] at h)))
    | ((with_reducible apply E_pt); (· rfl); (· first | (conv => lhs; whnf) | rfl))
    | ((with_reducible apply E_pf); (· rfl); (· first | (conv => lhs; whnf) | rfl))
    | ((with_reducible apply E_len); (· rfl))
    | ((with_reducible apply E_iad); (· rfl); (· rfl); (· rfl); (· rfl); (· omega); (intro y hy; (try rw [Int.toNat_natCast] at hy)))
    | ((with_reducible apply E_op0); (· rfl); (· first | (conv => lhs; whnf) | rfl))
    | ((with_reducible apply E_op); (· rfl); (· first | (conv => lhs; whnf) | rfl); (· first | (conv => lhs; whnf) | rfl))
    | ((with_reducible apply E_do); (· rfl); (· first | (conv => lhs; whnf) | rfl))
    | ((with_reducible apply E_fin); (· first | (conv => lhs; whnf) | rfl))
    | with_reducible refine E_skip ?_ | with_reducible refine E_block ?_ | with_reducible refine E_exit ?_ | with_reducible refine E_ret ?_ | with_reducible refine E_the ?_ | with_reducible refine E_thr ?_
    | with_reducible refine E_bln ?_ | with_reducible refine E_ble ?_ | ((with_reducible refine E_blo ?_ ?_); (· rfl)) | with_reducible refine E_blr ?_
    | ((with_reducible apply E_ct); (· rfl)) | ((with_reducible apply E_cf); (· rfl)) | ((with_reducible apply E_cs); (· rfl); all_goals (intro h; (try rw [h]); (try simp only [decide_eq_true_eq, decide_eq_false_iff_not, beq_iff_eq, bne_iff_ne, beq_eq_false_iff_ne, bne_eq_false_iff_eq, ge_iff_le, gt_iff_lt, Bool.not_true, Bool.not_false] at h))))
  refine ⟨trivial, [(4, .ref o (ver + 1) 0 (bs.length + 4) none)], ?_, rfl⟩
  rw [← e1]
  exact wk_fr ⟨.refl _, trivial⟩

/-! ### searching -/
def bs (c : Nat → Int) (i j : Nat) : Nat :=
  if h : i < j then (if c ((i + j) / 2) < 0 then bs c ((i + j) / 2 + 1) j else bs c i ((i + j) / 2)) else i
termination_by j - i
decreasing_by all_goals omega

theorem wrapU {x : Int} (h : 0 ≤ x ∧ x ≤ 9223372036854775807) : IntKind.u64.wrap x = x := by
  simp [IntKind.wrap, IntKind.bits, IntKind.signed]; omega

theorem bs_eq (c : Nat → Int) (i j : Nat) (h : i < j) : bs c i j = if c ((i + j) / 2) < 0 then bs c ((i + j) / 2 + 1) j else bs c i ((i + j) / 2) := by
  rw [bs]; simp [h]
theorem bs_le (c : Nat → Int) : ∀ (i j : Nat), i ≤ j → i ≤ bs c i j ∧ bs c i j ≤ j := by
  intro i j
  induction h : j - i using Nat.strongRecOn generalizing i j with
  | _ n ih =>
    intro hij
    by_cases hlt : i < j
    · rw [bs_eq c i j hlt]
      split
      · have := ih (j - ((i + j) / 2 + 1)) (by omega) ((i + j) / 2 + 1) j rfl (by omega); omega
      · have := ih ((i + j) / 2 - i) (by omega) i ((i + j) / 2) rfl (by omega); omega
    · rw [bs]; simp [hlt]; omega

def cF (rows : List Row) (x : Int) (k : Nat) : Int := cmpS ((rows[k]?.map Row.start).getD 0) x
theorem cF_at {rows : List Row} {x : Int} {k : Nat} {y : Row} (h : rows[k]? = some y) : cF rows x k = cmpS y.start x := by simp [cF, h]

def searchS (c : Nat → Int) (n : Nat) : AV := .tup [.int .i64 (bs c 0 n), .bool (decide (bs c 0 n < n) && decide (c (bs c 0 n) = 0))]

theorem half {i j : Nat} (h : i ≤ 1048576) (h' : j ≤ 1048576) : IntKind.i64.wrap ((IntKind.u64.wrap (IntKind.i64.wrap ((i : Int) + j))).fdiv (2 ^ min (Int.toNat 1) IntKind.u64.bits)) = ((i + j) / 2 : Nat) := by
  have a : IntKind.i64.wrap ((i : Int) + j) = i + j := wrap_i64 (by omega)
  have b : IntKind.u64.wrap ((i : Int) + j) = i + j := wrapU (by omega)
  have d : ((i : Int) + j).fdiv (2 ^ min (Int.toNat 1) IntKind.u64.bits) = ((i + j) / 2 : Nat) := by
    rw [show (2 : Int) ^ min (Int.toNat 1) IntKind.u64.bits = 2 from rfl, Int.fdiv_eq_ediv_of_nonneg _ (by omega)]; omega
  rw [a, b, d, wrap_i64 (by omega)]

def cS (rows : List Site) (x : Int) (k : Nat) : Int := cmpS ((rows[k]?.map Site.place).getD 0) x
theorem cS_at {rows : List Site} {x : Int} {k : Nat} {y : Site} (h : rows[k]? = some y) : cS rows x k = cmpS y.place x := by simp [cS, h]

theorem searchF_ev (rows : List Row) (x : Int) (hr : rows.length ≤ 1048576) :
    PureEv Try.prog 22 [.sl false 6 (rows.map Row.av), .int .i64 x, .fn (.func 23) [] []] (searchS (cF rows x) rows.length) := by
  refine PureEv_of mixed fn22 (by simp) [] rfl ?_
  unfold fc22
  repeat' (first
    | ((with_reducible apply E_callv (c := funcCmp_ev _ _)); (· rfl); (· rfl); (· rfl); (· simp [blwL, AV.blw, Row.blw]); (· rfl))
    | with_reducible refine E_seq ?_ | with_reducible refine E_reg ?_ | with_reducible refine E_thn ?_ | with_reducible refine E_nil ?_
    | ((with_reducible apply E_mv); (· first | (conv => lhs; whnf) | rfl))
    | ((with_reducible apply E_gh); (· rfl)) | ((with_reducible apply E_gm); (· rfl)) | ((with_reducible apply E_gz); (· rfl)) | ((with_reducible apply E_gs); (· rfl); all_goals (intro h; (try rw [h]); (try simp only [decide_eq_true_eq, decide_eq_false_iff_not, beq_iff_eq, bne_iff_ne, beq_eq_false_iff_ne, bne_eq_false_iff_eq, ge_iff_le, gt_iff_lt, Bool.not_true, Bool.not_false] at h)))
    | ((with_reducible apply E_pt); (· rfl); (· first | (conv => lhs; whnf) | rfl))
    | ((with_reducible apply E_pf); (· rfl); (· first | (conv => lhs; whnf) | rfl))
    | ((with_reducible apply E_len); (· rfl))
    | ((with_reducible apply E_iad); (· rfl); (· rfl); (· rfl); (· rfl); (· omega); (intro y hy; (try rw [Int.toNat_natCast] at hy)))
    | ((with_reducible apply E_op0); (· rfl); (· first | (conv => lhs; whnf) | rfl))
    | ((with_reducible apply E_op); (· rfl); (· first | (conv => lhs; whnf) | rfl); (· first | (conv => lhs; whnf) | rfl))
    | ((with_reducible apply E_do); (· rfl); (· first | (conv => lhs; whnf) | rfl))
    | ((with_reducible apply E_fin); (· first | (conv => lhs; whnf) | rfl))
    | with_reducible refine E_skip ?_ | with_reducible refine E_block ?_ | with_reducible refine E_exit ?_ | with_reducible refine E_ret ?_ | with_reducible refine E_the ?_ | with_reducible refine E_thr ?_
    | with_reducible refine E_bln ?_ | with_reducible refine E_ble ?_ | ((with_reducible refine E_blo ?_ ?_); (· rfl)) | with_reducible refine E_blr ?_
    | ((with_reducible apply E_ct); (· rfl)) | ((with_reducible apply E_cf); (· rfl)) | ((with_reducible apply E_cs); (· rfl); all_goals (intro h; (try rw [h]); (try simp only [decide_eq_true_eq, decide_eq_false_iff_not, beq_iff_eq, bne_iff_ne, beq_eq_false_iff_ne, bne_eq_false_iff_eq, ge_iff_le, gt_iff_lt, Bool.not_true, Bool.not_false] at h))))
  refine E_loop (ι := Nat × Nat) (fun i => [(0, .sl false 6 (rows.map Row.av)), (1, .int .i64 x), (2, .fn (.func 23) [] []), (8, .int .i64 rows.length), (9, .int .i64 i.1), (10, .int .i64 i.2)]) (fun _ => []) (fun i => i.1 ≤ i.2 ∧ i.2 ≤ rows.length ∧ bs (cF rows x) i.1 i.2 = bs (cF rows x) 0 rows.length) (fun i => i.2 - i.1) (0, rows.length) ⟨by simp, by simp, rfl⟩ (wk_nil ?_) ?_
  · exact ⟨rfl, blwL_map (Row.blw 0) _, rfl, rfl, rfl, rfl, by simp [Fr.get], rfl, rfl, rfl, by simp [Fr.get], rfl, trivial⟩
  rintro ⟨i, j⟩ ⟨hi, hj, hS⟩
  simp only at hi hj hS ⊢
  repeat' (first
    | ((with_reducible apply E_callv (c := funcCmp_ev _ _)); (· rfl); (· rfl); (· rfl); (· simp [blwL, AV.blw, Row.blw]); (· rfl))
    | with_reducible refine E_seq ?_ | with_reducible refine E_reg ?_ | with_reducible refine E_thn ?_ | with_reducible refine E_nil ?_
    | ((with_reducible apply E_mv); (· first | (conv => lhs; whnf) | rfl))
    | ((with_reducible apply E_gh); (· rfl)) | ((with_reducible apply E_gm); (· rfl)) | ((with_reducible apply E_gz); (· rfl)) | ((with_reducible apply E_gs); (· rfl); all_goals (intro h; (try rw [h]); (try simp only [decide_eq_true_eq, decide_eq_false_iff_not, beq_iff_eq, bne_iff_ne, beq_eq_false_iff_ne, bne_eq_false_iff_eq, ge_iff_le, gt_iff_lt, Bool.not_true, Bool.not_false] at h)))
    | ((with_reducible apply E_pt); (· rfl); (· first | (conv => lhs; whnf) | rfl))
    | ((with_reducible apply E_pf); (· rfl); (· first | (conv => lhs; whnf) | rfl))
    | ((with_reducible apply E_len); (· rfl))
    | ((with_reducible apply E_iad); (· rfl); (· rfl); (· rfl); (· rfl); (· omega); (intro y hy; (try rw [Int.toNat_natCast] at hy)))
    | ((with_reducible apply E_op0); (· rfl); (· first | (conv => lhs; whnf) | rfl))
    | ((with_reducible apply E_op); (· rfl); (· first | (conv => lhs; whnf) | rfl); (· first | (conv => lhs; whnf) | rfl))
    | ((with_reducible apply E_do); (· rfl); (· first | (conv => lhs; whnf) | rfl))
    | ((with_reducible apply E_fin); (· first | (conv => lhs; whnf) | rfl))
    | with_reducible refine E_skip ?_ | with_reducible refine E_block ?_ | with_reducible refine E_exit ?_ | with_reducible refine E_ret ?_ | with_reducible refine E_the ?_ | with_reducible refine E_thr ?_
    | with_reducible refine E_bln ?_ | with_reducible refine E_ble ?_ | ((with_reducible refine E_blo ?_ ?_); (· rfl)) | with_reducible refine E_blr ?_
    | ((with_reducible apply E_ct); (· rfl)) | ((with_reducible apply E_cf); (· rfl)) | ((with_reducible apply E_cs); (· rfl); all_goals (intro h; (try rw [h]); (try simp only [decide_eq_true_eq, decide_eq_false_iff_not, beq_iff_eq, bne_iff_ne, beq_eq_false_iff_ne, bne_eq_false_iff_eq, ge_iff_le, gt_iff_lt, Bool.not_true, Bool.not_false] at h))))
  · rw [half (by omega) (by omega)]
    repeat' (first
      | ((with_reducible apply E_callv (c := funcCmp_ev _ _)); (· rfl); (· rfl); (· rfl); (· simp [blwL, AV.blw, Row.blw]); (· rfl))
      | with_reducible refine E_seq ?_ | with_reducible refine E_reg ?_ | with_reducible refine E_thn ?_ | with_reducible refine E_nil ?_
      | ((with_reducible apply E_mv); (· first | (conv => lhs; whnf) | rfl))
      | ((with_reducible apply E_gh); (· rfl)) | ((with_reducible apply E_gm); (· rfl)) | ((with_reducible apply E_gz); (· rfl)) | ((with_reducible apply E_gs); (· rfl); all_goals (intro h; (try rw [h]); (try simp only [decide_eq_true_eq, decide_eq_false_iff_not, beq_iff_eq, bne_iff_ne, beq_eq_false_iff_ne, bne_eq_false_iff_eq, ge_iff_le, gt_iff_lt, Bool.not_true, Bool.not_false] at h)))
      | ((with_reducible apply E_pt); (· rfl); (· first | (conv => lhs; whnf) | rfl))
      | ((with_reducible apply E_pf); (· rfl); (· first | (conv => lhs; whnf) | rfl))
      | ((with_reducible apply E_len); (· rfl))
      | ((with_reducible apply E_iad); (· rfl); (· rfl); (· rfl); (· rfl); (· omega); (intro y hy; (try rw [Int.toNat_natCast] at hy)))
      | ((with_reducible apply E_op0); (· rfl); (· first | (conv => lhs; whnf) | rfl))
      | ((with_reducible apply E_op); (· rfl); (· first | (conv => lhs; whnf) | rfl); (· first | (conv => lhs; whnf) | rfl))
      | ((with_reducible apply E_do); (· rfl); (· first | (conv => lhs; whnf) | rfl))
      | ((with_reducible apply E_fin); (· first | (conv => lhs; whnf) | rfl))
      | with_reducible refine E_skip ?_ | with_reducible refine E_block ?_ | with_reducible refine E_exit ?_ | with_reducible refine E_ret ?_ | with_reducible refine E_the ?_ | with_reducible refine E_thr ?_
      | with_reducible refine E_bln ?_ | with_reducible refine E_ble ?_ | ((with_reducible refine E_blo ?_ ?_); (· rfl)) | with_reducible refine E_blr ?_
      | ((with_reducible apply E_ct); (· rfl)) | ((with_reducible apply E_cf); (· rfl)) | ((with_reducible apply E_cs); (· rfl); all_goals (intro h; (try rw [h]); (try simp only [decide_eq_true_eq, decide_eq_false_iff_not, beq_iff_eq, bne_iff_ne, beq_eq_false_iff_ne, bne_eq_false_iff_eq, ge_iff_le, gt_iff_lt, Bool.not_true, Bool.not_false] at h))))
    · refine ⟨((i + j) / 2 + 1, j), ⟨by simp only; omega, hj, by simp only; rw [← hS, bs_eq _ i j (by omega), cF_at hy, if_pos h]⟩, by simp only; omega, wk_nil ⟨rfl, blwL_map (Row.blw 0) _, rfl, rfl, rfl, rfl, rfl, rfl, congrArg _ (by rw [wrap_i64 (by omega)]; simp only; omega), rfl, rfl, rfl, trivial⟩⟩
    · refine ⟨(i, (i + j) / 2), ⟨by simp only; omega, by simp only; omega, by simp only; rw [← hS, bs_eq _ i j (by omega), cF_at hy, if_neg h]⟩, by simp only; omega, wk_nil ⟨rfl, blwL_map (Row.blw 0) _, rfl, rfl, rfl, rfl, rfl, rfl, rfl, rfl, rfl, rfl, trivial⟩⟩
  · have hb : bs (cF rows x) 0 rows.length = i := by rw [← hS, bs, dif_neg (by omega)]
    have hl : i < rows.length := by omega
    show AV.tup [.int .i64 i, .bool (cmpS y.start x == 0)] = _
    unfold searchS
    rw [hb, cF_at hy, decide_eq_true hl, Bool.true_and]; rfl
  · have hb : bs (cF rows x) 0 rows.length = i := by rw [← hS, bs, dif_neg (by omega)]
    have hl : ¬ i < rows.length := by omega
    show AV.tup [.int .i64 i, .bool false] = _
    unfold searchS
    rw [hb, decide_eq_false hl]; rfl

theorem searchS_ev (rows : List Site) (x : Int) (hr : rows.length ≤ 1048576) :
    PureEv Try.prog 27 [.sl false 2 (rows.map Site.av), .int .i64 x, .fn (.func 28) [] []] (searchS (cS rows x) rows.length) := by
  refine PureEv_of mixed fn27 (by simp) [] rfl ?_
  unfold fc27
  repeat' (first
    | ((with_reducible apply E_callv (c := siteCmp_ev _ _)); (· rfl); (· rfl); (· rfl); (· simp [blwL, AV.blw, Site.blw]); (· rfl))
    | with_reducible refine E_seq ?_ | with_reducible refine E_reg ?_ | with_reducible refine E_thn ?_ | with_reducible refine E_nil ?_
    | ((with_reducible apply E_mv); (· first | (conv => lhs; whnf) | rfl))
    | ((with_reducible apply E_gh); (· rfl)) | ((with_reducible apply E_gm); (· rfl)) | ((with_reducible apply E_gz); (· rfl)) | ((with_reducible apply E_gs); (· rfl); all_goals (intro h; (try rw [h]); (try simp only [decide_eq_true_eq, decide_eq_false_iff_not, beq_iff_eq, bne_iff_ne, beq_eq_false_iff_ne, bne_eq_false_iff_eq, ge_iff_le, gt_iff_lt, Bool.not_true, Bool.not_false] at h)))
    | ((with_reducible apply E_pt); (· rfl); (· first | (conv => lhs; whnf) | rfl))
    | ((with_reducible apply E_pf); (· rfl); (· first | (conv => lhs; whnf) | rfl))
    | ((with_reducible apply E_len); (· rfl))
    | ((with_reducible apply E_iad); (· rfl); (· rfl); (· rfl); (· rfl); (· omega); (intro y hy; (try rw [Int.toNat_natCast] at hy)))
    | ((with_reducible apply E_op0); (· rfl); (· first | (conv => lhs; whnf) | rfl))
    | ((with_reducible apply E_op); (· rfl); (· first | (conv => lhs; whnf) | rfl); (· first | (conv => lhs; whnf) | rfl))
    | ((with_reducible apply E_do); (· rfl); (· first | (conv => lhs; whnf) | rfl))
    | ((with_reducible apply E_fin); (· first | (conv => lhs; whnf) | rfl))
    | with_reducible refine E_skip ?_ | with_reducible refine E_block ?_ | with_reducible refine E_exit ?_ | with_reducible refine E_ret ?_ | with_reducible refine E_the ?_ | with_reducible refine E_thr ?_
    | with_reducible refine E_bln ?_ | with_reducible refine E_ble ?_ | ((with_reducible refine E_blo ?_ ?_); (· rfl)) | with_reducible refine E_blr ?_
    | ((with_reducible apply E_ct); (· rfl)) | ((with_reducible apply E_cf); (· rfl)) | ((with_reducible apply E_cs); (· rfl); all_goals (intro h; (try rw [h]); (try simp only [decide_eq_true_eq, decide_eq_false_iff_not, beq_iff_eq, bne_iff_ne, beq_eq_false_iff_ne, bne_eq_false_iff_eq, ge_iff_le, gt_iff_lt, Bool.not_true, Bool.not_false] at h))))
  refine E_loop (ι := Nat × Nat) (fun i => [(0, .sl false 2 (rows.map Site.av)), (1, .int .i64 x), (2, .fn (.func 28) [] []), (8, .int .i64 rows.length), (9, .int .i64 i.1), (10, .int .i64 i.2)]) (fun _ => []) (fun i => i.1 ≤ i.2 ∧ i.2 ≤ rows.length ∧ bs (cS rows x) i.1 i.2 = bs (cS rows x) 0 rows.length) (fun i => i.2 - i.1) (0, rows.length) ⟨by simp, by simp, rfl⟩ (wk_nil ?_) ?_
  · exact ⟨rfl, blwL_map (Site.blw 0) _, rfl, rfl, rfl, rfl, by simp [Fr.get], rfl, rfl, rfl, by simp [Fr.get], rfl, trivial⟩
  rintro ⟨i, j⟩ ⟨hi, hj, hS⟩
  simp only at hi hj hS ⊢
  repeat' (first
    | ((with_reducible apply E_callv (c := siteCmp_ev _ _)); (· rfl); (· rfl); (· rfl); (· simp [blwL, AV.blw, Site.blw]); (· rfl))
    | with_reducible refine E_seq ?_ | with_reducible refine E_reg ?_ | with_reducible refine E_thn ?_ | with_reducible refine E_nil ?_
    | ((with_reducible apply E_mv); (· first | (conv => lhs; whnf) | rfl))
    | ((with_reducible apply E_gh); (· rfl)) | ((with_reducible apply E_gm); (· rfl)) | ((with_reducible apply E_gz); (· rfl)) | ((with_reducible apply E_gs); (· rfl); all_goals (intro h; (try rw [h]); (try simp only [decide_eq_true_eq, decide_eq_false_iff_not, beq_iff_eq, bne_iff_ne, beq_eq_false_iff_ne, bne_eq_false_iff_eq, ge_iff_le, gt_iff_lt, Bool.not_true, Bool.not_false] at h)))
    | ((with_reducible apply E_pt); (· rfl); (· first | (conv => lhs; whnf) | rfl))
    | ((with_reducible apply E_pf); (· rfl); (· first | (conv => lhs; whnf) | rfl))
    | ((with_reducible apply E_len); (· rfl))
    | ((with_reducible apply E_iad); (· rfl); (· rfl); (· rfl); (· rfl); (· omega); (intro y hy; (try rw [Int.toNat_natCast] at hy)))
    | ((with_reducible apply E_op0); (· rfl); (· first | (conv => lhs; whnf) | rfl))
    | ((with_reducible apply E_op); (· rfl); (· first | (conv => lhs; whnf) | rfl); (· first | (conv => lhs; whnf) | rfl))
    | ((with_reducible apply E_do); (· rfl); (· first | (conv => lhs; whnf) | rfl))
    | ((with_reducible apply E_fin); (· first | (conv => lhs; whnf) | rfl))
    | with_reducible refine E_skip ?_ | with_reducible refine E_block ?_ | with_reducible refine E_exit ?_ | with_reducible refine E_ret ?_ | with_reducible refine E_the ?_ | with_reducible refine E_thr ?_
    | with_reducible refine E_bln ?_ | with_reducible refine E_ble ?_ | ((with_reducible refine E_blo ?_ ?_); (· rfl)) | with_reducible refine E_blr ?_
    | ((with_reducible apply E_ct); (· rfl)) | ((with_reducible apply E_cf); (· rfl)) | ((with_reducible apply E_cs); (· rfl); all_goals (intro h; (try rw [h]); (try simp only [decide_eq_true_eq, decide_eq_false_iff_not, beq_iff_eq, bne_iff_ne, beq_eq_false_iff_ne, bne_eq_false_iff_eq, ge_iff_le, gt_iff_lt, Bool.not_true, Bool.not_false] at h))))
  · rw [half (by omega) (by omega)]
    repeat' (first
      | ((with_reducible apply E_callv (c := siteCmp_ev _ _)); (· rfl); (· rfl); (· rfl); (· simp [blwL, AV.blw, Site.blw]); (· rfl))
      | with_reducible refine E_seq ?_ | with_reducible refine E_reg ?_ | with_reducible refine E_thn ?_ | with_reducible refine E_nil ?_
      | ((with_reducible apply E_mv); (· first | (conv => lhs; whnf) | rfl))
      | ((with_reducible apply E_gh); (· rfl)) | ((with_reducible apply E_gm); (· rfl)) | ((with_reducible apply E_gz); (· rfl)) | ((with_reducible apply E_gs); (· rfl); all_goals (intro h; (try rw [h]); (try simp only [decide_eq_true_eq, decide_eq_false_iff_not, beq_iff_eq, bne_iff_ne, beq_eq_false_iff_ne, bne_eq_false_iff_eq, ge_iff_le, gt_iff_lt, Bool.not_true, Bool.not_false] at h)))
      | ((with_reducible apply E_pt); (· rfl); (· first | (conv => lhs; whnf) | rfl))
      | ((with_reducible apply E_pf); (· rfl); (· first | (conv => lhs; whnf) | rfl))
      | ((with_reducible apply E_len); (· rfl))
      | ((with_reducible apply E_iad); (· rfl); (· rfl); (· rfl); (· rfl); (· omega); (intro y hy; (try rw [Int.toNat_natCast] at hy)))
      | ((with_reducible apply E_op0); (· rfl); (· first | (conv => lhs; whnf) | rfl))
      | ((with_reducible apply E_op); (· rfl); (· first | (conv => lhs; whnf) | rfl); (· first | (conv => lhs; whnf) | rfl))
      | ((with_reducible apply E_do); (· rfl); (· first | (conv => lhs; whnf) | rfl))
      | ((with_reducible apply E_fin); (· first | (conv => lhs; whnf) | rfl))
      | with_reducible refine E_skip ?_ | with_reducible refine E_block ?_ | with_reducible refine E_exit ?_ | with_reducible refine E_ret ?_ | with_reducible refine E_the ?_ | with_reducible refine E_thr ?_
      | with_reducible refine E_bln ?_ | with_reducible refine E_ble ?_ | ((with_reducible refine E_blo ?_ ?_); (· rfl)) | with_reducible refine E_blr ?_
      | ((with_reducible apply E_ct); (· rfl)) | ((with_reducible apply E_cf); (· rfl)) | ((with_reducible apply E_cs); (· rfl); all_goals (intro h; (try rw [h]); (try simp only [decide_eq_true_eq, decide_eq_false_iff_not, beq_iff_eq, bne_iff_ne, beq_eq_false_iff_ne, bne_eq_false_iff_eq, ge_iff_le, gt_iff_lt, Bool.not_true, Bool.not_false] at h))))
    · refine ⟨((i + j) / 2 + 1, j), ⟨by simp only; omega, hj, by simp only; rw [← hS, bs_eq _ i j (by omega), cS_at hy, if_pos h]⟩, by simp only; omega, wk_nil ⟨rfl, blwL_map (Site.blw 0) _, rfl, rfl, rfl, rfl, rfl, rfl, congrArg _ (by rw [wrap_i64 (by omega)]; simp only; omega), rfl, rfl, rfl, trivial⟩⟩
    · refine ⟨(i, (i + j) / 2), ⟨by simp only; omega, by simp only; omega, by simp only; rw [← hS, bs_eq _ i j (by omega), cS_at hy, if_neg h]⟩, by simp only; omega, wk_nil ⟨rfl, blwL_map (Site.blw 0) _, rfl, rfl, rfl, rfl, rfl, rfl, rfl, rfl, rfl, rfl, trivial⟩⟩
  · have hb : bs (cS rows x) 0 rows.length = i := by rw [← hS, bs, dif_neg (by omega)]
    have hl : i < rows.length := by omega
    show AV.tup [.int .i64 i, .bool (cmpS y.place x == 0)] = _
    unfold searchS
    rw [hb, cS_at hy, decide_eq_true hl, Bool.true_and]; rfl
  · have hb : bs (cS rows x) 0 rows.length = i := by rw [← hS, bs, dif_neg (by omega)]
    have hl : ¬ i < rows.length := by omega
    show AV.tup [.int .i64 i, .bool false] = _
    unfold searchS
    rw [hb, decide_eq_false hl]; rfl

/-- The row of an instruction, as Func finds it: its number, and whether there is one. -/
def funcS (rows : List Row) (x : Int) : Int × Bool :=
  let b := bs (cF rows x) 0 rows.length
  let i : Int := if b < rows.length ∧ cF rows x b = 0 then b else b - 1
  if i < 0 ∨ ((rows[i.toNat]?.map Row.stop).getD 0) ≤ x then (0, false) else (i, true)
def pairAV (p : Int × Bool) : AV := .tup [.int .i64 p.1, .bool p.2]

theorem func_ev (t : Tab) (x : Int) (hr : t.funcs.length ≤ 1048576) : PureEv Try.prog 10 [t.av, .int .i64 x] (pairAV (funcS t.funcs x)) := by
  obtain ⟨b1, b2⟩ := bs_le (cF t.funcs x) 0 t.funcs.length (by omega)
  have hse := searchF_ev t.funcs x hr
  unfold searchS at hse
  unfold funcS
  generalize bs (cF t.funcs x) 0 t.funcs.length = b at b1 b2 hse ⊢
  have hfd : (decide (b < t.funcs.length) && decide (cF t.funcs x b = 0)) = decide (b < t.funcs.length ∧ cF t.funcs x b = 0) := by simp
  rw [hfd] at hse
  simp only
  generalize hii : (if b < t.funcs.length ∧ cF t.funcs x b = 0 then (b : Int) else b - 1) = ii
  have hi1 : -1 ≤ ii ∧ ii < t.funcs.length := by rw [← hii]; split <;> omega
  refine PureEv_of mixed fn10 (by simp) [] rfl ?_
  unfold fc10
  refine E_cut [(1, .int .i64 x), (2, .cptr t.av.cells 0)] [] True ?_ (fun _ => ?_)
  · repeat' (first
      | with_reducible refine E_seq ?_ | with_reducible refine E_reg ?_ | with_reducible refine E_thn ?_ | with_reducible refine E_nil ?_
      | ((with_reducible apply E_mv); (· first | (conv => lhs; whnf) | rfl))
      | ((with_reducible apply E_gh); (· rfl)) | ((with_reducible apply E_gm); (· rfl)) | ((with_reducible apply E_gz); (· rfl)) | ((with_reducible apply E_gs); (· rfl); all_goals (intro h; (try rw [h]); (try simp only [decide_eq_true_eq, decide_eq_false_iff_not, beq_iff_eq, bne_iff_ne, beq_eq_false_iff_ne, bne_eq_false_iff_eq, ge_iff_le, gt_iff_lt, Bool.not_true, Bool.not_false] at h)))
      | ((with_reducible apply E_pt); (· rfl); (· first | (conv => lhs; whnf) | rfl))
      | ((with_reducible apply E_pf); (· rfl); (· first | (conv => lhs; whnf) | rfl))
      | ((with_reducible apply E_len); (· rfl))
      | ((with_reducible apply E_iad); (· rfl); (· rfl); (· rfl); (· rfl); (· omega); (intro y hy; (try rw [Int.toNat_natCast] at hy)))
      | ((with_reducible apply E_op0); (· rfl); (· first | (conv => lhs; whnf) | rfl))
      | ((with_reducible apply E_op); (· rfl); (· first | (conv => lhs; whnf) | rfl); (· first | (conv => lhs; whnf) | rfl))
      | ((with_reducible apply E_do); (· rfl); (· first | (conv => lhs; whnf) | rfl))
      | ((with_reducible apply E_fin); (· first | (conv => lhs; whnf) | rfl))
      | with_reducible refine E_skip ?_ | with_reducible refine E_block ?_ | with_reducible refine E_exit ?_ | with_reducible refine E_ret ?_ | with_reducible refine E_the ?_ | with_reducible refine E_thr ?_
      | with_reducible refine E_bln ?_ | with_reducible refine E_ble ?_ | ((with_reducible refine E_blo ?_ ?_); (· rfl)) | with_reducible refine E_blr ?_
      | ((with_reducible apply E_ct); (· rfl)) | ((with_reducible apply E_cf); (· rfl)) | ((with_reducible apply E_cs); (· rfl); all_goals (intro h; (try rw [h]); (try simp only [decide_eq_true_eq, decide_eq_false_iff_not, beq_iff_eq, bne_iff_ne, beq_eq_false_iff_ne, bne_eq_false_iff_eq, ge_iff_le, gt_iff_lt, Bool.not_true, Bool.not_false] at h))))
    exact ⟨trivial, wk_nil ⟨rfl, rfl, rfl, Tab.blw 0 t, trivial⟩⟩
  refine E_cut [(1, .int .i64 x), (2, .cptr t.av.cells 0), (6, .int .i64 b), (7, .bool (decide (b < t.funcs.length ∧ cF t.funcs x b = 0)))] [] True ?_ (fun _ => ?_)
  · repeat' (first
      | ((with_reducible apply E_call hse); (· rfl); (· simp [blwL, AV.blw, blwL_map (Row.blw 0)]); (· rfl))
      | with_reducible refine E_seq ?_ | with_reducible refine E_reg ?_ | with_reducible refine E_thn ?_ | with_reducible refine E_nil ?_
      | ((with_reducible apply E_mv); (· first | (conv => lhs; whnf) | rfl))
      | ((with_reducible apply E_gh); (· rfl)) | ((with_reducible apply E_gm); (· rfl)) | ((with_reducible apply E_gz); (· rfl)) | ((with_reducible apply E_gs); (· rfl); all_goals (intro h; (try rw [h]); (try simp only [decide_eq_true_eq, decide_eq_false_iff_not, beq_iff_eq, bne_iff_ne, beq_eq_false_iff_ne, bne_eq_false_iff_eq, ge_iff_le, gt_iff_lt, Bool.not_true, Bool.not_false] at h)))
      | ((with_reducible apply E_pt); (· rfl); (· first | (conv => lhs; whnf) | rfl))
      | ((with_reducible apply E_pf); (· rfl); (· first | (conv => lhs; whnf) | rfl))
      | ((with_reducible apply E_len); (· rfl))
      | ((with_reducible apply E_iad); (· rfl); (· rfl); (· rfl); (· rfl); (· omega); (intro y hy; (try rw [Int.toNat_natCast] at hy)))
      | ((with_reducible apply E_op0); (· rfl); (· first | (conv => lhs; whnf) | rfl))
      | ((with_reducible apply E_op); (· rfl); (· first | (conv => lhs; whnf) | rfl); (· first | (conv => lhs; whnf) | rfl))
      | ((with_reducible apply E_do); (· rfl); (· first | (conv => lhs; whnf) | rfl))
      | ((with_reducible apply E_fin); (· first | (conv => lhs; whnf) | rfl))
      | with_reducible refine E_skip ?_ | with_reducible refine E_block ?_ | with_reducible refine E_exit ?_ | with_reducible refine E_ret ?_ | with_reducible refine E_the ?_ | with_reducible refine E_thr ?_
      | with_reducible refine E_bln ?_ | with_reducible refine E_ble ?_ | ((with_reducible refine E_blo ?_ ?_); (· rfl)) | with_reducible refine E_blr ?_
      | ((with_reducible apply E_ct); (· rfl)) | ((with_reducible apply E_cf); (· rfl)) | ((with_reducible apply E_cs); (· rfl); all_goals (intro h; (try rw [h]); (try simp only [decide_eq_true_eq, decide_eq_false_iff_not, beq_iff_eq, bne_iff_ne, beq_eq_false_iff_ne, bne_eq_false_iff_eq, ge_iff_le, gt_iff_lt, Bool.not_true, Bool.not_false] at h))))
    exact ⟨trivial, wk_nil ⟨rfl, rfl, rfl, Tab.blw 0 t, rfl, rfl, rfl, rfl, trivial⟩⟩
  refine E_cut [(1, .int .i64 x), (2, .cptr t.av.cells 0), (6, .int .i64 ii)] [] True ?_ (fun _ => ?_)
  · repeat' (first
      | with_reducible refine E_seq ?_ | with_reducible refine E_reg ?_ | with_reducible refine E_thn ?_ | with_reducible refine E_nil ?_
      | ((with_reducible apply E_mv); (· first | (conv => lhs; whnf) | rfl))
      | ((with_reducible apply E_gh); (· rfl)) | ((with_reducible apply E_gm); (· rfl)) | ((with_reducible apply E_gz); (· rfl)) | ((with_reducible apply E_gs); (· rfl); all_goals (intro h; (try rw [h]); (try simp only [decide_eq_true_eq, decide_eq_false_iff_not, beq_iff_eq, bne_iff_ne, beq_eq_false_iff_ne, bne_eq_false_iff_eq, ge_iff_le, gt_iff_lt, Bool.not_true, Bool.not_false] at h)))
      | ((with_reducible apply E_pt); (· rfl); (· first | (conv => lhs; whnf) | rfl))
      | ((with_reducible apply E_pf); (· rfl); (· first | (conv => lhs; whnf) | rfl))
      | ((with_reducible apply E_len); (· rfl))
      | ((with_reducible apply E_iad); (· rfl); (· rfl); (· rfl); (· rfl); (· omega); (intro y hy; (try rw [Int.toNat_natCast] at hy)))
      | ((with_reducible apply E_op0); (· rfl); (· first | (conv => lhs; whnf) | rfl))
      | ((with_reducible apply E_op); (· rfl); (· first | (conv => lhs; whnf) | rfl); (· first | (conv => lhs; whnf) | rfl))
      | ((with_reducible apply E_do); (· rfl); (· first | (conv => lhs; whnf) | rfl))
      | ((with_reducible apply E_fin); (· first | (conv => lhs; whnf) | rfl))
      | with_reducible refine E_skip ?_ | with_reducible refine E_block ?_ | with_reducible refine E_exit ?_ | with_reducible refine E_ret ?_ | with_reducible refine E_the ?_ | with_reducible refine E_thr ?_
      | with_reducible refine E_bln ?_ | with_reducible refine E_ble ?_ | ((with_reducible refine E_blo ?_ ?_); (· rfl)) | with_reducible refine E_blr ?_
      | ((with_reducible apply E_ct); (· rfl)) | ((with_reducible apply E_cf); (· rfl)) | ((with_reducible apply E_cs); (· rfl); all_goals (intro h; (try rw [h]); (try simp only [decide_eq_true_eq, decide_eq_false_iff_not, beq_iff_eq, bne_iff_ne, beq_eq_false_iff_ne, bne_eq_false_iff_eq, ge_iff_le, gt_iff_lt, Bool.not_true, Bool.not_false] at h))))
    · refine ⟨trivial, wk_nil ⟨rfl, rfl, rfl, Tab.blw 0 t, congrArg _ ?_, rfl, trivial⟩⟩
      simp at h
      rw [← hii, if_neg (by omega), wrap_i64 (by omega)]
    · refine ⟨trivial, wk_nil ⟨rfl, rfl, rfl, Tab.blw 0 t, congrArg _ ?_, rfl, trivial⟩⟩
      simp at h
      rw [← hii, if_pos h]
  repeat' (first
    | with_reducible refine E_seq ?_ | with_reducible refine E_reg ?_ | with_reducible refine E_thn ?_ | with_reducible refine E_nil ?_
    | ((with_reducible apply E_mv); (· first | (conv => lhs; whnf) | rfl))
    | ((with_reducible apply E_gh); (· rfl)) | ((with_reducible apply E_gm); (· rfl)) | ((with_reducible apply E_gz); (· rfl)) | ((with_reducible apply E_gs); (· rfl); all_goals (intro h; (try rw [h]); (try simp only [decide_eq_true_eq, decide_eq_false_iff_not, beq_iff_eq, bne_iff_ne, beq_eq_false_iff_ne, bne_eq_false_iff_eq, ge_iff_le, gt_iff_lt, Bool.not_true, Bool.not_false] at h)))
    | ((with_reducible apply E_pt); (· rfl); (· first | (conv => lhs; whnf) | rfl))
    | ((with_reducible apply E_pf); (· rfl); (· first | (conv => lhs; whnf) | rfl))
    | ((with_reducible apply E_len); (· rfl))
    | ((with_reducible apply E_iad); (· rfl); (· rfl); (· rfl); (· rfl); (· omega); (intro y hy; (try rw [Int.toNat_natCast] at hy)))
    | ((with_reducible apply E_op0); (· rfl); (· first | (conv => lhs; whnf) | rfl))
    | ((with_reducible apply E_op); (· rfl); (· first | (conv => lhs; whnf) | rfl); (· first | (conv => lhs; whnf) | rfl))
    | ((with_reducible apply E_do); (· rfl); (· first | (conv => lhs; whnf) | rfl))
    | ((with_reducible apply E_fin); (· first | (conv => lhs; whnf) | rfl))
    | with_reducible refine E_skip ?_ | with_reducible refine E_block ?_ | with_reducible refine E_exit ?_ | with_reducible refine E_ret ?_ | with_reducible refine E_the ?_ | with_reducible refine E_thr ?_
    | with_reducible refine E_bln ?_ | with_reducible refine E_ble ?_ | ((with_reducible refine E_blo ?_ ?_); (· rfl)) | with_reducible refine E_blr ?_
    | ((with_reducible apply E_ct); (· rfl)) | ((with_reducible apply E_cf); (· rfl)) | ((with_reducible apply E_cs); (· rfl); all_goals (intro h; (try rw [h]); (try simp only [decide_eq_true_eq, decide_eq_false_iff_not, beq_iff_eq, bne_iff_ne, beq_eq_false_iff_ne, bne_eq_false_iff_eq, ge_iff_le, gt_iff_lt, Bool.not_true, Bool.not_false] at h))))
  · rename_i h1 _ _
    have e : t.funcs[ii.toNat]? = some y := hy
    show pairAV (0, false) = _
    rw [if_pos (by rw [e]; right; exact h)]
  · have e : t.funcs[ii.toNat]? = some y := hy
    show pairAV (ii, true) = _
    rw [if_neg (by rw [e]; simp; omega)]
  · show pairAV (0, false) = _
    rw [if_pos (by left; omega)]
end Go.Proofs.Ytnmicfhdpnabcaa
