/- Contract of first. -/
import Derived.Test.YtnmicfhdpnabcaaT4
namespace Go.Proofs.Ytnmicfhdpnabcaa
open Go Go.Ab
set_option maxRecDepth 20000
set_option linter.unusedVariables false
set_option linter.unusedSimpArgs false

theorem pureWeak {P : Program} {f : FuncId} {args args' : List AV} {r : AV} (h : PureEv P f args' r) (hl : args.length = args'.length) (ha : ∀ j (h1 : j < args.length) (h2 : j < args'.length), AVle none args[j] args'[j]) : PureEv P f args r := by
  have h' : Ev P f args' (hp []) r noHp := by rw [hp_nil]; exact h
  have := Ev.weak (S := []) (S' := noHp) h' hl ha
  rw [hp_nil] at this
  exact this

def tab0 : Tab := ⟨[⟨2, 9, 0, [], [], -1⟩], []⟩
def arg0 : AV := .agg [.sl true 6 [.agg [.int .i64 2, .int .i64 9, .int .i64 0, .nils, .nils, .int .i64 (-1)]], .nils]
theorem tab0_small : tab0.small := ⟨by decide, by decide, fun r hr => by simp [tab0] at hr; subst hr; simp, fun r hr => by simp [tab0] at hr; subst hr; simp, fun s hs => by simp [tab0] at hs⟩
theorem arg0_le : AVle none arg0 tab0.av := by
  refine .agg rfl (fun j h1 h2 => ?_)
  match j, h1 with
  | 0, _ =>
    refine .sl (by simp) rfl (fun i h1 h2 => ?_) (fun i h1 h2 j h3 h4 => ?_)
    · have : i = 0 := by simpa using h1
      subst this; rfl
    · have : i = 0 := by simpa using h1
      subst this
      match j, h3 with
      | 0, _ => exact .refl _
      | 1, _ => exact .refl _
      | 2, _ => exact .refl _
      | 3, _ => exact .nil
      | 4, _ => exact .nil
      | 5, _ => exact .refl _
  | 1, _ => exact .nil
theorem arg0_ok {xs : List AV} : ∀ j (h1 : j < (arg0 :: xs).length) (h2 : j < (tab0.av :: xs).length), AVle none (arg0 :: xs)[j] (tab0.av :: xs)[j] := by
  intro j h1 h2
  cases j with
  | zero => exact arg0_le
  | succ j => exact .refl _

theorem tab0_ok : tabOK tab0 = true := by decide
theorem encode0 : PureEv Try.prog 15 [arg0] (.tup [.sl false 1 ((tabB tab0).map bav), .int .i64 0]) := by
  have := pureWeak (encode_ev tab0 tab0_small) (args := [arg0]) rfl arg0_ok
  unfold encS at this
  rw [tab0_ok] at this
  exact this
theorem check0 : PureEv Try.prog 9 [arg0] (.int .i64 0) := by
  have := pureWeak (check_ev tab0 tab0_small) (args := [arg0]) rfl arg0_ok
  unfold checkS at this
  rw [tab0_ok] at this
  exact this
theorem func0 : PureEv Try.prog 10 [arg0, .int .i64 8] (.tup [.int .i64 0, .bool true]) := by
  have := pureWeak (func_ev tab0 8 (by decide)) (args := [arg0, .int .i64 8]) rfl arg0_ok
  have hb : bs (cF tab0.funcs 8) 0 1 = 1 := by
    rw [bs_eq _ 0 1 (by omega), if_pos (by decide), bs, dif_neg (by omega)]
  have e : funcS tab0.funcs 8 = (0, true) := by
    unfold funcS
    rw [show tab0.funcs.length = 1 from rfl, hb]
    rfl
  rw [e] at this
  exact this

theorem first_ev : PureEv Try.prog 8 [] (.bool true) := by
  refine PureEv_of mixed fn8 (by simp) [1] rfl ?_
  unfold fc8
  repeat' (first
    | ((with_reducible apply E_call encode0); (· rfl); (· rfl); (· simp [blwL, AV.blw, bavs_blw]))
    | ((with_reducible apply E_call check0); (· rfl); (· rfl); (· rfl))
    | ((with_reducible apply E_call func0); (· rfl); (· rfl); (· rfl))
    | with_reducible refine E_seq ?_ | with_reducible refine E_reg ?_ | with_reducible refine E_thn ?_ | with_reducible refine E_nil ?_
    | ((with_reducible apply E_mv); (· first | (conv => lhs; whnf) | rfl))
    | ((with_reducible apply E_gh); (· rfl)) | ((with_reducible apply E_gm); (· rfl)) | ((with_reducible apply E_gz); (· rfl)) | ((with_reducible apply E_gs); (· rfl); all_goals (intro h; (try rw [h]); (try simp only [decide_eq_true_eq, decide_eq_false_iff_not, beq_iff_eq, bne_iff_ne, beq_eq_false_iff_ne, bne_eq_false_iff_eq, ge_iff_le, gt_iff_lt, Bool.not_true, Bool.not_false] at h)))
    | ((with_reducible apply E_pt); (· rfl); (· first | (conv => lhs; whnf) | rfl))
    | ((with_reducible apply E_pf); (· rfl); (· first | (conv => lhs; whnf) | rfl))
    | ((with_reducible apply E_len); (· rfl))
    | ((with_reducible apply E_iad); (· rfl); (· rfl); (· rfl); (· rfl); (· omega); (intro y hy; (try rw [Int.toNat_natCast] at hy)))
    | ((with_reducible apply E_op0); (· rfl); (· first | (conv => lhs; whnf) | rfl))
    | ((with_reducible apply E_op); (· rfl); (· first | (conv => lhs; whnf) | rfl); (· first | (conv => lhs; whnf) | rfl))
    | ((with_reducible apply E_do); (· rfl); (· first | (conv => lhs; whnf) | rfl))
    | ((with_reducible apply E_fin); (· first | (conv => lhs; whnf) | rfl))
    | with_reducible refine E_regp ?_ | ((with_reducible refine And.intro (a := okLog _ _) ?_ ?_); (· simp [okLog, nthL, okPair]))
    | with_reducible refine E_skip ?_ | with_reducible refine E_block ?_ | with_reducible refine E_exit ?_ | with_reducible refine E_ret ?_ | with_reducible refine E_the ?_ | with_reducible refine E_thr ?_
    | with_reducible refine E_bln ?_ | with_reducible refine E_ble ?_ | ((with_reducible refine E_blo ?_ ?_); (· rfl)) | with_reducible refine E_blr ?_
    | ((with_reducible apply E_ct); (· rfl)) | ((with_reducible apply E_cf); (· rfl)) | ((with_reducible apply E_cs); (· rfl); all_goals (intro h; (try rw [h]); (try simp only [decide_eq_true_eq, decide_eq_false_iff_not, beq_iff_eq, bne_iff_ne, beq_eq_false_iff_ne, bne_eq_false_iff_eq, ge_iff_le, gt_iff_lt, Bool.not_true, Bool.not_false] at h))))
  rfl
end Go.Proofs.Ytnmicfhdpnabcaa
