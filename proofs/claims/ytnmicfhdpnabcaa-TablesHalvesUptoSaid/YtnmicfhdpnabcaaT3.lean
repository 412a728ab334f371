/- Contract of Check. -/
import Derived.Test.YtnmicfhdpnabcaaT2
namespace Go.Proofs.Ytnmicfhdpnabcaa
open Go Go.Ab
set_option maxRecDepth 20000
set_option linter.unusedVariables false
set_option linter.unusedSimpArgs false

def rowsOK : Int → List Row → Bool
  | _, [] => true
  | l, r :: rs => rowS r l && rowsOK r.stop rs
def liveOK (size : Int) : Option Int → List Int → Bool
  | _, [] => true
  | p, o :: r => offsetS o size && p.all (fun q => decide (q < o)) && liveOK size (some o) r
def sizeAt (t : Tab) (f : Int) : Int := (t.funcs[f.toNat]?.map Row.size).getD 0
def siteOK (t : Tab) (p : Option Int) (s : Site) : Bool :=
  decide (0 ≤ ownerFrom s.place 0 t.funcs) && p.all (fun q => decide (q < s.place)) && liveOK (sizeAt t (ownerFrom s.place 0 t.funcs)) none s.live
def sitesOK (t : Tab) : Option Int → List Site → Bool
  | _, [] => true
  | p, s :: r => siteOK t p s && sitesOK t (some s.place) r
def tabOK (t : Tab) : Bool := decide (t.funcs.length ≤ 16 ∧ t.sites.length ≤ 65536) && rowsOK 0 t.funcs && sitesOK t none t.sites
def checkS (t : Tab) : Int := if tabOK t = true then 0 else 190

/-- No list is longer than the bound. -/
structure Tab.small (t : Tab) : Prop where
  funcs : t.funcs.length ≤ 1048576
  sites : t.sites.length ≤ 1048576
  params : ∀ r ∈ t.funcs, r.params.length ≤ 1048576
  saves : ∀ r ∈ t.funcs, r.saves.length ≤ 1048576
  live : ∀ s ∈ t.sites, s.live.length ≤ 1048576

theorem ownerFrom_range (x : Int) : ∀ (rs : List Row) (i : Nat), ownerFrom x i rs = -1 ∨ (i ≤ ownerFrom x i rs ∧ ownerFrom x i rs < i + rs.length)
  | [], i => .inl rfl
  | r :: rs, i => by
    simp only [ownerFrom]
    split
    · right; simp; omega
    · rcases ownerFrom_range x rs (i + 1) with h | h
      · exact .inl h
      · right; simp; omega

def prevL (s : Site) (j : Nat) : Option Int := if j = 0 then none else s.live[j - 1]?
def prevP (t : Tab) (i : Nat) : Option Int := if i = 0 then none else t.sites[i - 1]?.map Site.place

theorem check_ev (t : Tab) (ht : t.small) : PureEv Try.prog 9 [t.av] (.int .i64 (checkS t)) := by
  have hl1 : (t.funcs.map Row.av).length = t.funcs.length := List.length_map ..
  have hl2 : (t.sites.map Site.av).length = t.sites.length := List.length_map ..
  have bad : tabOK t = false → AV.int .i64 190 = AV.int .i64 (checkS t) := fun h => by unfold checkS; rw [h]; rfl
  refine PureEv_of mixed fn9 (by simp) [5, 7] rfl ?_
  unfold fc9
  refine E_cut [(1, .cptr t.av.cells 0)] [] True ?_ (fun _ => ?_)
  · repeat' (first
      | with_reducible refine E_seq ?_ | with_reducible refine E_reg ?_ | with_reducible refine E_thn ?_ | with_reducible refine E_nil ?_
      | ((with_reducible apply E_mv); (· first | (conv => lhs; whnf) | rfl))
      | ((with_reducible apply E_gh); (· rfl)) | ((with_reducible apply E_gm); (· rfl)) | ((with_reducible apply E_gz); (· rfl)) | ((with_reducible apply E_gs); (· rfl); all_goals (intro h; (try rw [h]); (try simp only [decide_eq_true_eq, decide_eq_false_iff_not, beq_iff_eq, bne_iff_ne, beq_eq_false_iff_ne, bne_eq_false_iff_eq, ge_iff_le, gt_iff_lt, Bool.not_true, Bool.not_false] at h)))
      | ((with_reducible apply E_pt); (· rfl); (· first | (conv => lhs; whnf) | rfl))
      | ((with_reducible apply E_pf); (· rfl); (· first | (conv => lhs; whnf) | rfl))
      | ((with_reducible apply E_len); (· rfl))
      | ((with_reducible apply E_iad); (· rfl); (· rfl); (· rfl); (· rfl); (· omega); (intro y hy; (try rw [Int.toNat_natCast] at hy)))
      | ((with_reducible apply E_op0); (· rfl); (· first | (conv => lhs; whnf) | rfl))
      | ((with_reducible apply E_op); (· rfl); (· first | (conv => lhs; whnf) | rfl); (· first | (conv => lhs; whnf) | rfl))
      | ((with_reducible apply E_do); (· rfl); (· first | (conv => lhs; whnf) | rfl))
      | ((with_reducible apply E_fin); (· first | (conv => lhs; whnf) | rfl))
      | with_reducible refine E_skip ?_ | with_reducible refine E_block ?_ | with_reducible refine E_exit ?_ | with_reducible refine E_ret ?_ | with_reducible refine E_the ?_ | with_reducible refine E_thr ?_
      | with_reducible refine E_bln ?_ | with_reducible refine E_ble ?_ | ((with_reducible refine E_blo ?_ ?_); (· rfl)) | with_reducible refine E_blr ?_
      | ((with_reducible apply E_ct); (· rfl)) | ((with_reducible apply E_cf); (· rfl)) | ((with_reducible apply E_cs); (· rfl); all_goals (intro h; (try rw [h]); (try simp only [decide_eq_true_eq, decide_eq_false_iff_not, beq_iff_eq, bne_iff_ne, beq_eq_false_iff_ne, bne_eq_false_iff_eq, ge_iff_le, gt_iff_lt, Bool.not_true, Bool.not_false] at h))))
    exact ⟨trivial, wk_nil ⟨rfl, Tab.blw 0 t, trivial⟩⟩
  refine E_cut [(1, .cptr t.av.cells 0)] [] (t.funcs.length ≤ 16 ∧ t.sites.length ≤ 65536) ?_ (fun hlen => ?_)
  · repeat' (first
      | with_reducible refine E_seq ?_ | with_reducible refine E_reg ?_ | with_reducible refine E_thn ?_ | with_reducible refine E_nil ?_
      | ((with_reducible apply E_mv); (· first | (conv => lhs; whnf) | rfl))
      | ((with_reducible apply E_gh); (· rfl)) | ((with_reducible apply E_gm); (· rfl)) | ((with_reducible apply E_gz); (· rfl)) | ((with_reducible apply E_gs); (· rfl); all_goals (intro h; (try rw [h]); (try simp only [decide_eq_true_eq, decide_eq_false_iff_not, beq_iff_eq, bne_iff_ne, beq_eq_false_iff_ne, bne_eq_false_iff_eq, ge_iff_le, gt_iff_lt, Bool.not_true, Bool.not_false] at h)))
      | ((with_reducible apply E_pt); (· rfl); (· first | (conv => lhs; whnf) | rfl))
      | ((with_reducible apply E_pf); (· rfl); (· first | (conv => lhs; whnf) | rfl))
      | ((with_reducible apply E_len); (· rfl))
      | ((with_reducible apply E_iad); (· rfl); (· rfl); (· rfl); (· rfl); (· omega); (intro y hy; (try rw [Int.toNat_natCast] at hy)))
      | ((with_reducible apply E_op0); (· rfl); (· first | (conv => lhs; whnf) | rfl))
      | ((with_reducible apply E_op); (· rfl); (· first | (conv => lhs; whnf) | rfl); (· first | (conv => lhs; whnf) | rfl))
      | ((with_reducible apply E_do); (· rfl); (· first | (conv => lhs; whnf) | rfl))
      | ((with_reducible apply E_fin); (· first | (conv => lhs; whnf) | rfl))
      | with_reducible refine E_skip ?_ | with_reducible refine E_block ?_ | with_reducible refine E_exit ?_ | with_reducible refine E_ret ?_ | with_reducible refine E_the ?_ | with_reducible refine E_thr ?_
      | with_reducible refine E_bln ?_ | with_reducible refine E_ble ?_ | ((with_reducible refine E_blo ?_ ?_); (· rfl)) | with_reducible refine E_blr ?_
      | ((with_reducible apply E_ct); (· rfl)) | ((with_reducible apply E_cf); (· rfl)) | ((with_reducible apply E_cs); (· rfl); all_goals (intro h; (try rw [h]); (try simp only [decide_eq_true_eq, decide_eq_false_iff_not, beq_iff_eq, bne_iff_ne, beq_eq_false_iff_ne, bne_eq_false_iff_eq, ge_iff_le, gt_iff_lt, Bool.not_true, Bool.not_false] at h))))
    all_goals first
      | (refine bad ?_; unfold tabOK; rw [decide_eq_false (by omega)]; rfl)
      | exact ⟨by omega, wk_nil ⟨rfl, Tab.blw 0 t, trivial⟩⟩
  refine E_cut [(1, .cptr t.av.cells 0), (3, .int .i64 0)] [] True ?_ (fun _ => ?_)
  · repeat' (first
      | with_reducible refine E_seq ?_ | with_reducible refine E_reg ?_ | with_reducible refine E_thn ?_ | with_reducible refine E_nil ?_
      | ((with_reducible apply E_mv); (· first | (conv => lhs; whnf) | rfl))
      | ((with_reducible apply E_gh); (· rfl)) | ((with_reducible apply E_gm); (· rfl)) | ((with_reducible apply E_gz); (· rfl)) | ((with_reducible apply E_gs); (· rfl); all_goals (intro h; (try rw [h]); (try simp only [decide_eq_true_eq, decide_eq_false_iff_not, beq_iff_eq, bne_iff_ne, beq_eq_false_iff_ne, bne_eq_false_iff_eq, ge_iff_le, gt_iff_lt, Bool.not_true, Bool.not_false] at h)))
      | ((with_reducible apply E_pt); (· rfl); (· first | (conv => lhs; whnf) | rfl))
      | ((with_reducible apply E_pf); (· rfl); (· first | (conv => lhs; whnf) | rfl))
      | ((with_reducible apply E_len); (· rfl))
      | ((with_reducible apply E_iad); (· rfl); (· rfl); (· rfl); (· rfl); (· omega); (intro y hy; (try rw [Int.toNat_natCast] at hy)))
      | ((with_reducible apply E_op0); (· rfl); (· first | (conv => lhs; whnf) | rfl))
      | ((with_reducible apply E_op); (· rfl); (· first | (conv => lhs; whnf) | rfl); (· first | (conv => lhs; whnf) | rfl))
      | ((with_reducible apply E_do); (· rfl); (· first | (conv => lhs; whnf) | rfl))
      | ((with_reducible apply E_fin); (· first | (conv => lhs; whnf) | rfl))
      | with_reducible refine E_skip ?_ | with_reducible refine E_block ?_ | with_reducible refine E_exit ?_ | with_reducible refine E_ret ?_ | with_reducible refine E_the ?_ | with_reducible refine E_thr ?_
      | with_reducible refine E_bln ?_ | with_reducible refine E_ble ?_ | ((with_reducible refine E_blo ?_ ?_); (· rfl)) | with_reducible refine E_blr ?_
      | ((with_reducible apply E_ct); (· rfl)) | ((with_reducible apply E_cf); (· rfl)) | ((with_reducible apply E_cs); (· rfl); all_goals (intro h; (try rw [h]); (try simp only [decide_eq_true_eq, decide_eq_false_iff_not, beq_iff_eq, bne_iff_ne, beq_eq_false_iff_ne, bne_eq_false_iff_eq, ge_iff_le, gt_iff_lt, Bool.not_true, Bool.not_false] at h))))
    exact ⟨trivial, wk_nil ⟨rfl, Tab.blw 0 t, rfl, rfl, trivial⟩⟩
  refine E_cut [(1, .cptr t.av.cells 0)] [] (rowsOK 0 t.funcs = true) ?_ (fun hrows => ?_)
  · repeat' (first
      | with_reducible refine E_seq ?_ | with_reducible refine E_reg ?_ | with_reducible refine E_thn ?_ | with_reducible refine E_nil ?_
      | ((with_reducible apply E_mv); (· first | (conv => lhs; whnf) | rfl))
      | ((with_reducible apply E_gh); (· rfl)) | ((with_reducible apply E_gm); (· rfl)) | ((with_reducible apply E_gz); (· rfl)) | ((with_reducible apply E_gs); (· rfl); all_goals (intro h; (try rw [h]); (try simp only [decide_eq_true_eq, decide_eq_false_iff_not, beq_iff_eq, bne_iff_ne, beq_eq_false_iff_ne, bne_eq_false_iff_eq, ge_iff_le, gt_iff_lt, Bool.not_true, Bool.not_false] at h)))
      | ((with_reducible apply E_pt); (· rfl); (· first | (conv => lhs; whnf) | rfl))
      | ((with_reducible apply E_pf); (· rfl); (· first | (conv => lhs; whnf) | rfl))
      | ((with_reducible apply E_len); (· rfl))
      | ((with_reducible apply E_iad); (· rfl); (· rfl); (· rfl); (· rfl); (· omega); (intro y hy; (try rw [Int.toNat_natCast] at hy)))
      | ((with_reducible apply E_op0); (· rfl); (· first | (conv => lhs; whnf) | rfl))
      | ((with_reducible apply E_op); (· rfl); (· first | (conv => lhs; whnf) | rfl); (· first | (conv => lhs; whnf) | rfl))
      | ((with_reducible apply E_do); (· rfl); (· first | (conv => lhs; whnf) | rfl))
      | ((with_reducible apply E_fin); (· first | (conv => lhs; whnf) | rfl))
      | with_reducible refine E_skip ?_ | with_reducible refine E_block ?_ | with_reducible refine E_exit ?_ | with_reducible refine E_ret ?_ | with_reducible refine E_the ?_ | with_reducible refine E_thr ?_
      | with_reducible refine E_bln ?_ | with_reducible refine E_ble ?_ | ((with_reducible refine E_blo ?_ ?_); (· rfl)) | with_reducible refine E_blr ?_
      | ((with_reducible apply E_ct); (· rfl)) | ((with_reducible apply E_cf); (· rfl)) | ((with_reducible apply E_cs); (· rfl); all_goals (intro h; (try rw [h]); (try simp only [decide_eq_true_eq, decide_eq_false_iff_not, beq_iff_eq, bne_iff_ne, beq_eq_false_iff_ne, bne_eq_false_iff_eq, ge_iff_le, gt_iff_lt, Bool.not_true, Bool.not_false] at h))))
    refine E_loop (ι := Nat × Int) (fun i => [(1, .cptr t.av.cells 0), (22, .sl false 6 (t.funcs.map Row.av)), (23, .int .i64 t.funcs.length), (24, .int .i64 i.1), (3, .int .i64 i.2)]) (fun _ => []) (fun i => i.1 ≤ t.funcs.length ∧ rowsOK 0 t.funcs = rowsOK i.2 (t.funcs.drop i.1)) (fun i => t.funcs.length - i.1) (0, 0) ⟨by simp, rfl⟩ (wk_nil ?_) ?_
    · exact ⟨rfl, Tab.blw 0 t, rfl, blwL_map (Row.blw 0) _, by simp [Fr.get], rfl, rfl, rfl, rfl, rfl, trivial⟩
    rintro ⟨i, l⟩ ⟨hi, hS⟩
    simp only at hi hS ⊢
    repeat' (first
      | ((with_reducible apply E_call (row_ev _ _ (ht.saves _ (List.mem_of_getElem? (by assumption))))); (· rfl); (· simp [blwL, AV.blw, Row.blw]); (· rfl))
      | with_reducible refine E_seq ?_ | with_reducible refine E_reg ?_ | with_reducible refine E_thn ?_ | with_reducible refine E_nil ?_
      | ((with_reducible apply E_mv); (· first | (conv => lhs; whnf) | rfl))
      | ((with_reducible apply E_gh); (· rfl)) | ((with_reducible apply E_gm); (· rfl)) | ((with_reducible apply E_gz); (· rfl)) | ((with_reducible apply E_gs); (· rfl); all_goals (intro h; (try rw [h]); (try simp only [decide_eq_true_eq, decide_eq_false_iff_not, beq_iff_eq, bne_iff_ne, beq_eq_false_iff_ne, bne_eq_false_iff_eq, ge_iff_le, gt_iff_lt, Bool.not_true, Bool.not_false] at h)))
      | ((with_reducible apply E_pt); (· rfl); (· first | (conv => lhs; whnf) | rfl))
      | ((with_reducible apply E_pf); (· rfl); (· first | (conv => lhs; whnf) | rfl))
      | ((with_reducible apply E_len); (· rfl))
      | ((with_reducible apply E_iad); (· rfl); (· rfl); (· rfl); (· rfl); (· omega); (intro y hy; (try rw [Int.toNat_natCast] at hy)))
      | ((with_reducible apply E_op0); (· rfl); (· first | (conv => lhs; whnf) | rfl))
      | ((with_reducible apply E_op); (· rfl); (· first | (conv => lhs; whnf) | rfl); (· first | (conv => lhs; whnf) | rfl))
      | ((with_reducible apply E_do); (· rfl); (· first | (conv => lhs; whnf) | rfl))
      | ((with_reducible apply E_fin); (· first | (conv => lhs; whnf) | rfl))
      | with_reducible refine E_skip ?_ | with_reducible refine E_block ?_ | with_reducible refine E_exit ?_ | with_reducible refine E_ret ?_ | with_reducible refine E_the ?_ | with_reducible refine E_thr ?_
      | with_reducible refine E_bln ?_ | with_reducible refine E_ble ?_ | ((with_reducible refine E_blo ?_ ?_); (· rfl)) | with_reducible refine E_blr ?_
      | ((with_reducible apply E_ct); (· rfl)) | ((with_reducible apply E_cf); (· rfl)) | ((with_reducible apply E_cs); (· rfl); all_goals (intro h; (try rw [h]); (try simp only [decide_eq_true_eq, decide_eq_false_iff_not, beq_iff_eq, bne_iff_ne, beq_eq_false_iff_ne, bne_eq_false_iff_eq, ge_iff_le, gt_iff_lt, Bool.not_true, Bool.not_false] at h))))
    · refine bad ?_
      unfold tabOK; rw [hS, drop_cons hy]; simp at h; simp [rowsOK, h]
    · refine ⟨(i + 1, y.stop), ⟨by simp only; omega, ?_⟩, by simp only; omega, wk_nil ?_⟩
      · rw [hS, drop_cons hy]; simp at h; simp [rowsOK, h]
      · exact ⟨rfl, Tab.blw 0 t, rfl, blwL_map (Row.blw 0) _, rfl, rfl, congrArg _ (by rw [wrap_i64 (by omega)]; simp only; omega), rfl, rfl, rfl, trivial⟩
    · refine ⟨?_, wk_nil ⟨rfl, Tab.blw 0 t, trivial⟩⟩
      rw [hS, List.drop_eq_nil_of_le (by omega)]; rfl
  refine E_cut [(1, .cptr t.av.cells 0)] [] (sitesOK t none t.sites = true) ?_ (fun hsites => ?_)
  · repeat' (first
      | with_reducible refine E_seq ?_ | with_reducible refine E_reg ?_ | with_reducible refine E_thn ?_ | with_reducible refine E_nil ?_
      | ((with_reducible apply E_mv); (· first | (conv => lhs; whnf) | rfl))
      | ((with_reducible apply E_gh); (· rfl)) | ((with_reducible apply E_gm); (· rfl)) | ((with_reducible apply E_gz); (· rfl)) | ((with_reducible apply E_gs); (· rfl); all_goals (intro h; (try rw [h]); (try simp only [decide_eq_true_eq, decide_eq_false_iff_not, beq_iff_eq, bne_iff_ne, beq_eq_false_iff_ne, bne_eq_false_iff_eq, ge_iff_le, gt_iff_lt, Bool.not_true, Bool.not_false] at h)))
      | ((with_reducible apply E_pt); (· rfl); (· first | (conv => lhs; whnf) | rfl))
      | ((with_reducible apply E_pf); (· rfl); (· first | (conv => lhs; whnf) | rfl))
      | ((with_reducible apply E_len); (· rfl))
      | ((with_reducible apply E_iad); (· rfl); (· rfl); (· rfl); (· rfl); (· omega); (intro y hy; (try rw [Int.toNat_natCast] at hy)))
      | ((with_reducible apply E_op0); (· rfl); (· first | (conv => lhs; whnf) | rfl))
      | ((with_reducible apply E_op); (· rfl); (· first | (conv => lhs; whnf) | rfl); (· first | (conv => lhs; whnf) | rfl))
      | ((with_reducible apply E_do); (· rfl); (· first | (conv => lhs; whnf) | rfl))
      | ((with_reducible apply E_fin); (· first | (conv => lhs; whnf) | rfl))
      | with_reducible refine E_skip ?_ | with_reducible refine E_block ?_ | with_reducible refine E_exit ?_ | with_reducible refine E_ret ?_ | with_reducible refine E_the ?_ | with_reducible refine E_thr ?_
      | with_reducible refine E_bln ?_ | with_reducible refine E_ble ?_ | ((with_reducible refine E_blo ?_ ?_); (· rfl)) | with_reducible refine E_blr ?_
      | ((with_reducible apply E_ct); (· rfl)) | ((with_reducible apply E_cf); (· rfl)) | ((with_reducible apply E_cs); (· rfl); all_goals (intro h; (try rw [h]); (try simp only [decide_eq_true_eq, decide_eq_false_iff_not, beq_iff_eq, bne_iff_ne, beq_eq_false_iff_ne, bne_eq_false_iff_eq, ge_iff_le, gt_iff_lt, Bool.not_true, Bool.not_false] at h))))
    refine E_loop (ι := Nat) (fun i => [(1, .cptr t.av.cells 0), (36, .sl false 2 (t.sites.map Site.av)), (37, .int .i64 t.sites.length), (38, .int .i64 i)]) (fun _ => []) (fun i => i ≤ t.sites.length ∧ sitesOK t none t.sites = sitesOK t (prevP t i) (t.sites.drop i)) (fun i => t.sites.length - i) 0 ⟨by simp, rfl⟩ (wk_nil ?_) ?_
    · exact ⟨rfl, Tab.blw 0 t, rfl, blwL_map (Site.blw 0) _, by simp [Fr.get], rfl, rfl, rfl, trivial⟩
    rintro i ⟨hi, hS⟩
    refine E_cut [(1, .cptr t.av.cells 0), (36, .sl false 2 (t.sites.map Site.av)), (37, .int .i64 t.sites.length), (38, .int .i64 i), (39, .bool (decide ((i : Int) < t.sites.length)))] [] True ?_ (fun _ => ?_)
    · repeat' (first
        | with_reducible refine E_seq ?_ | with_reducible refine E_reg ?_ | with_reducible refine E_thn ?_ | with_reducible refine E_nil ?_
        | ((with_reducible apply E_mv); (· first | (conv => lhs; whnf) | rfl))
        | ((with_reducible apply E_gh); (· rfl)) | ((with_reducible apply E_gm); (· rfl)) | ((with_reducible apply E_gz); (· rfl)) | ((with_reducible apply E_gs); (· rfl); all_goals (intro h; (try rw [h]); (try simp only [decide_eq_true_eq, decide_eq_false_iff_not, beq_iff_eq, bne_iff_ne, beq_eq_false_iff_ne, bne_eq_false_iff_eq, ge_iff_le, gt_iff_lt, Bool.not_true, Bool.not_false] at h)))
        | ((with_reducible apply E_pt); (· rfl); (· first | (conv => lhs; whnf) | rfl))
        | ((with_reducible apply E_pf); (· rfl); (· first | (conv => lhs; whnf) | rfl))
        | ((with_reducible apply E_len); (· rfl))
        | ((with_reducible apply E_iad); (· rfl); (· rfl); (· rfl); (· rfl); (· omega); (intro y hy; (try rw [Int.toNat_natCast] at hy)))
        | ((with_reducible apply E_op0); (· rfl); (· first | (conv => lhs; whnf) | rfl))
        | ((with_reducible apply E_op); (· rfl); (· first | (conv => lhs; whnf) | rfl); (· first | (conv => lhs; whnf) | rfl))
        | ((with_reducible apply E_do); (· rfl); (· first | (conv => lhs; whnf) | rfl))
        | ((with_reducible apply E_fin); (· first | (conv => lhs; whnf) | rfl))
        | with_reducible refine E_skip ?_ | with_reducible refine E_block ?_ | with_reducible refine E_exit ?_ | with_reducible refine E_ret ?_ | with_reducible refine E_the ?_ | with_reducible refine E_thr ?_
        | with_reducible refine E_bln ?_ | with_reducible refine E_ble ?_ | ((with_reducible refine E_blo ?_ ?_); (· rfl)) | with_reducible refine E_blr ?_
        | ((with_reducible apply E_ct); (· rfl)) | ((with_reducible apply E_cf); (· rfl)) | ((with_reducible apply E_cs); (· rfl); all_goals (intro h; (try rw [h]); (try simp only [decide_eq_true_eq, decide_eq_false_iff_not, beq_iff_eq, bne_iff_ne, beq_eq_false_iff_ne, bne_eq_false_iff_eq, ge_iff_le, gt_iff_lt, Bool.not_true, Bool.not_false] at h))))
      exact ⟨trivial, wk_nil ⟨rfl, Tab.blw 0 t, rfl, blwL_map (Site.blw 0) _, rfl, rfl, rfl, rfl, rfl, rfl, trivial⟩⟩
    refine E_cut [(1, .cptr t.av.cells 0), (36, .sl false 2 (t.sites.map Site.av)), (37, .int .i64 t.sites.length), (38, .int .i64 i)] [] (i < t.sites.length) ?_ (fun hlt => ?_)
    · repeat' (first
        | with_reducible refine E_seq ?_ | with_reducible refine E_reg ?_ | with_reducible refine E_thn ?_ | with_reducible refine E_nil ?_
        | ((with_reducible apply E_mv); (· first | (conv => lhs; whnf) | rfl))
        | ((with_reducible apply E_gh); (· rfl)) | ((with_reducible apply E_gm); (· rfl)) | ((with_reducible apply E_gz); (· rfl)) | ((with_reducible apply E_gs); (· rfl); all_goals (intro h; (try rw [h]); (try simp only [decide_eq_true_eq, decide_eq_false_iff_not, beq_iff_eq, bne_iff_ne, beq_eq_false_iff_ne, bne_eq_false_iff_eq, ge_iff_le, gt_iff_lt, Bool.not_true, Bool.not_false] at h)))
        | ((with_reducible apply E_pt); (· rfl); (· first | (conv => lhs; whnf) | rfl))
        | ((with_reducible apply E_pf); (· rfl); (· first | (conv => lhs; whnf) | rfl))
        | ((with_reducible apply E_len); (· rfl))
        | ((with_reducible apply E_iad); (· rfl); (· rfl); (· rfl); (· rfl); (· omega); (intro y hy; (try rw [Int.toNat_natCast] at hy)))
        | ((with_reducible apply E_op0); (· rfl); (· first | (conv => lhs; whnf) | rfl))
        | ((with_reducible apply E_op); (· rfl); (· first | (conv => lhs; whnf) | rfl); (· first | (conv => lhs; whnf) | rfl))
        | ((with_reducible apply E_do); (· rfl); (· first | (conv => lhs; whnf) | rfl))
        | ((with_reducible apply E_fin); (· first | (conv => lhs; whnf) | rfl))
        | with_reducible refine E_skip ?_ | with_reducible refine E_block ?_ | with_reducible refine E_exit ?_ | with_reducible refine E_ret ?_ | with_reducible refine E_the ?_ | with_reducible refine E_thr ?_
        | with_reducible refine E_bln ?_ | with_reducible refine E_ble ?_ | ((with_reducible refine E_blo ?_ ?_); (· rfl)) | with_reducible refine E_blr ?_
        | ((with_reducible apply E_ct); (· rfl)) | ((with_reducible apply E_cf); (· rfl)) | ((with_reducible apply E_cs); (· rfl); all_goals (intro h; (try rw [h]); (try simp only [decide_eq_true_eq, decide_eq_false_iff_not, beq_iff_eq, bne_iff_ne, beq_eq_false_iff_ne, bne_eq_false_iff_eq, ge_iff_le, gt_iff_lt, Bool.not_true, Bool.not_false] at h))))
      · exact ⟨by omega, wk_nil ⟨rfl, Tab.blw 0 t, rfl, blwL_map (Site.blw 0) _, rfl, rfl, rfl, rfl, trivial⟩⟩
      · refine ⟨?_, wk_nil ⟨rfl, Tab.blw 0 t, trivial⟩⟩
        rw [hS, List.drop_eq_nil_of_le (by omega)]; rfl
    obtain ⟨s0, hs0⟩ : ∃ s0, t.sites[i]? = some s0 := ⟨_, List.getElem?_eq_getElem hlt⟩
    generalize hf : ownerFrom s0.place 0 t.funcs = f
    have hfr := ownerFrom_range s0.place t.funcs 0
    rw [hf] at hfr
    refine E_cut [(1, .cptr t.av.cells 0), (36, .sl false 2 (t.sites.map Site.av)), (37, .int .i64 t.sites.length), (38, .int .i64 i)] [] (siteOK t (prevP t i) s0 = true) ?_ (fun hok => ?_)
    · with_reducible refine E_block ?_
      refine E_cut [(1, .cptr t.av.cells 0), (36, .sl false 2 (t.sites.map Site.av)), (37, .int .i64 t.sites.length), (38, .int .i64 i), (6, .int .i64 i), (7, .cptr s0.av.cells 0)] [] True ?_ (fun _ => ?_)
      · repeat' (first
          | with_reducible refine E_seq ?_ | with_reducible refine E_reg ?_ | with_reducible refine E_thn ?_ | with_reducible refine E_nil ?_
          | ((with_reducible apply E_mv); (· first | (conv => lhs; whnf) | rfl))
          | ((with_reducible apply E_gh); (· rfl)) | ((with_reducible apply E_gm); (· rfl)) | ((with_reducible apply E_gz); (· rfl)) | ((with_reducible apply E_gs); (· rfl); all_goals (intro h; (try rw [h]); (try simp only [decide_eq_true_eq, decide_eq_false_iff_not, beq_iff_eq, bne_iff_ne, beq_eq_false_iff_ne, bne_eq_false_iff_eq, ge_iff_le, gt_iff_lt, Bool.not_true, Bool.not_false] at h)))
          | ((with_reducible apply E_pt); (· rfl); (· first | (conv => lhs; whnf) | rfl))
          | ((with_reducible apply E_pf); (· rfl); (· first | (conv => lhs; whnf) | rfl))
          | ((with_reducible apply E_len); (· rfl))
          | ((with_reducible apply E_iad); (· rfl); (· rfl); (· rfl); (· rfl); (· omega); (intro y hy; (try rw [Int.toNat_natCast] at hy)))
          | ((with_reducible apply E_op0); (· rfl); (· first | (conv => lhs; whnf) | rfl))
          | ((with_reducible apply E_op); (· rfl); (· first | (conv => lhs; whnf) | rfl); (· first | (conv => lhs; whnf) | rfl))
          | ((with_reducible apply E_do); (· rfl); (· first | (conv => lhs; whnf) | rfl))
          | ((with_reducible apply E_fin); (· first | (conv => lhs; whnf) | rfl))
          | with_reducible refine E_skip ?_ | with_reducible refine E_block ?_ | with_reducible refine E_exit ?_ | with_reducible refine E_ret ?_ | with_reducible refine E_the ?_ | with_reducible refine E_thr ?_
          | with_reducible refine E_bln ?_ | with_reducible refine E_ble ?_ | ((with_reducible refine E_blo ?_ ?_); (· rfl)) | with_reducible refine E_blr ?_
          | ((with_reducible apply E_ct); (· rfl)) | ((with_reducible apply E_cf); (· rfl)) | ((with_reducible apply E_cs); (· rfl); all_goals (intro h; (try rw [h]); (try simp only [decide_eq_true_eq, decide_eq_false_iff_not, beq_iff_eq, bne_iff_ne, beq_eq_false_iff_ne, bne_eq_false_iff_eq, ge_iff_le, gt_iff_lt, Bool.not_true, Bool.not_false] at h))))
        obtain rfl : y = s0 := by rw [hs0] at hy; exact (Option.some.inj hy).symm
        refine ⟨trivial, wk_frz (S1 := []) (ver := 0) (cs := y.av.cells) rfl (by simp) (Site.blw 0 y) (by intro o v c h; simp at h) ?_⟩
        exact ⟨.inl ⟨rfl, Tab.blw 0 t⟩, .inl ⟨rfl, blwL_map (Site.blw 0) _⟩, .inl ⟨rfl, rfl⟩, .inl ⟨rfl, rfl⟩, .inl ⟨rfl, rfl⟩, .inr ⟨0, rfl, rfl⟩, trivial⟩
      refine E_cut [(1, .cptr t.av.cells 0), (36, .sl false 2 (t.sites.map Site.av)), (37, .int .i64 t.sites.length), (38, .int .i64 i), (6, .int .i64 i), (7, .cptr s0.av.cells 0), (8, .int .i64 f)] [] True ?_ (fun _ => ?_)
      · repeat' (first
          | ((with_reducible apply E_call (owner_ev t s0.place ht.funcs)); (· rfl); (· simp [blwL, AV.blw, Tab.blw]); (· rfl))
          | with_reducible refine E_seq ?_ | with_reducible refine E_reg ?_ | with_reducible refine E_thn ?_ | with_reducible refine E_nil ?_
          | ((with_reducible apply E_mv); (· first | (conv => lhs; whnf) | rfl))
          | ((with_reducible apply E_gh); (· rfl)) | ((with_reducible apply E_gm); (· rfl)) | ((with_reducible apply E_gz); (· rfl)) | ((with_reducible apply E_gs); (· rfl); all_goals (intro h; (try rw [h]); (try simp only [decide_eq_true_eq, decide_eq_false_iff_not, beq_iff_eq, bne_iff_ne, beq_eq_false_iff_ne, bne_eq_false_iff_eq, ge_iff_le, gt_iff_lt, Bool.not_true, Bool.not_false] at h)))
          | ((with_reducible apply E_pt); (· rfl); (· first | (conv => lhs; whnf) | rfl))
          | ((with_reducible apply E_pf); (· rfl); (· first | (conv => lhs; whnf) | rfl))
          | ((with_reducible apply E_len); (· rfl))
          | ((with_reducible apply E_iad); (· rfl); (· rfl); (· rfl); (· rfl); (· omega); (intro y hy; (try rw [Int.toNat_natCast] at hy)))
          | ((with_reducible apply E_op0); (· rfl); (· first | (conv => lhs; whnf) | rfl))
          | ((with_reducible apply E_op); (· rfl); (· first | (conv => lhs; whnf) | rfl); (· first | (conv => lhs; whnf) | rfl))
          | ((with_reducible apply E_do); (· rfl); (· first | (conv => lhs; whnf) | rfl))
          | ((with_reducible apply E_fin); (· first | (conv => lhs; whnf) | rfl))
          | with_reducible refine E_skip ?_ | with_reducible refine E_block ?_ | with_reducible refine E_exit ?_ | with_reducible refine E_ret ?_ | with_reducible refine E_the ?_ | with_reducible refine E_thr ?_
          | with_reducible refine E_bln ?_ | with_reducible refine E_ble ?_ | ((with_reducible refine E_blo ?_ ?_); (· rfl)) | with_reducible refine E_blr ?_
          | ((with_reducible apply E_ct); (· rfl)) | ((with_reducible apply E_cf); (· rfl)) | ((with_reducible apply E_cs); (· rfl); all_goals (intro h; (try rw [h]); (try simp only [decide_eq_true_eq, decide_eq_false_iff_not, beq_iff_eq, bne_iff_ne, beq_eq_false_iff_ne, bne_eq_false_iff_eq, ge_iff_le, gt_iff_lt, Bool.not_true, Bool.not_false] at h))))
        refine ⟨trivial, wk_nil ⟨rfl, Tab.blw 0 t, rfl, blwL_map (Site.blw 0) _, rfl, rfl, rfl, rfl, rfl, rfl, rfl, Site.blw 0 s0, congrArg _ hf.symm, rfl, trivial⟩⟩
      refine E_cut [(1, .cptr t.av.cells 0), (36, .sl false 2 (t.sites.map Site.av)), (37, .int .i64 t.sites.length), (38, .int .i64 i), (6, .int .i64 i), (7, .cptr s0.av.cells 0), (8, .int .i64 f)] [] (0 ≤ f ∧ (prevP t i).all (fun q => decide (q < s0.place)) = true) ?_ (fun hb => ?_)
      · have hno : (¬ (0 ≤ f ∧ (prevP t i).all (fun q => decide (q < s0.place)) = true)) → tabOK t = false := fun h => by
          unfold tabOK
          rw [hS, drop_cons hs0]
          simp only [sitesOK, siteOK, hf]
          have : (decide (0 ≤ f) && (prevP t i).all fun q => decide (q < s0.place)) = false := by
            cases h1 : (prevP t i).all (fun q => decide (q < s0.place)) <;> simp_all
          rw [this]; simp
        repeat' (first
          | with_reducible refine E_seq ?_ | with_reducible refine E_reg ?_ | with_reducible refine E_thn ?_ | with_reducible refine E_nil ?_
          | ((with_reducible apply E_mv); (· first | (conv => lhs; whnf) | rfl))
          | ((with_reducible apply E_gh); (· rfl)) | ((with_reducible apply E_gm); (· rfl)) | ((with_reducible apply E_gz); (· rfl)) | ((with_reducible apply E_gs); (· rfl); all_goals (intro h; (try rw [h]); (try simp only [decide_eq_true_eq, decide_eq_false_iff_not, beq_iff_eq, bne_iff_ne, beq_eq_false_iff_ne, bne_eq_false_iff_eq, ge_iff_le, gt_iff_lt, Bool.not_true, Bool.not_false] at h)))
          | ((with_reducible apply E_pt); (· rfl); (· first | (conv => lhs; whnf) | rfl))
          | ((with_reducible apply E_pf); (· rfl); (· first | (conv => lhs; whnf) | rfl))
          | ((with_reducible apply E_len); (· rfl))
          | ((with_reducible apply E_iad); (· rfl); (· rfl); (· rfl); (· rfl); (· omega); (intro y hy; (try rw [Int.toNat_natCast] at hy)))
          | ((with_reducible apply E_op0); (· rfl); (· first | (conv => lhs; whnf) | rfl))
          | ((with_reducible apply E_op); (· rfl); (· first | (conv => lhs; whnf) | rfl); (· first | (conv => lhs; whnf) | rfl))
          | ((with_reducible apply E_do); (· rfl); (· first | (conv => lhs; whnf) | rfl))
          | ((with_reducible apply E_fin); (· first | (conv => lhs; whnf) | rfl))
          | with_reducible refine E_skip ?_ | with_reducible refine E_block ?_ | with_reducible refine E_exit ?_ | with_reducible refine E_ret ?_ | with_reducible refine E_the ?_ | with_reducible refine E_thr ?_
          | with_reducible refine E_bln ?_ | with_reducible refine E_ble ?_ | ((with_reducible refine E_blo ?_ ?_); (· rfl)) | with_reducible refine E_blr ?_
          | ((with_reducible apply E_ct); (· rfl)) | ((with_reducible apply E_cf); (· rfl)) | ((with_reducible apply E_cs); (· rfl); all_goals (intro h; (try rw [h]); (try simp only [decide_eq_true_eq, decide_eq_false_iff_not, beq_iff_eq, bne_iff_ne, beq_eq_false_iff_ne, bne_eq_false_iff_eq, ge_iff_le, gt_iff_lt, Bool.not_true, Bool.not_false] at h))))
        · rw [show IntKind.i64.wrap ((i : Int) - 1) = ((i - 1 : Nat) : Int) by rw [wrap_i64 (by omega)]; omega]
          repeat' (first
            | with_reducible refine E_seq ?_ | with_reducible refine E_reg ?_ | with_reducible refine E_thn ?_ | with_reducible refine E_nil ?_
            | ((with_reducible apply E_mv); (· first | (conv => lhs; whnf) | rfl))
            | ((with_reducible apply E_gh); (· rfl)) | ((with_reducible apply E_gm); (· rfl)) | ((with_reducible apply E_gz); (· rfl)) | ((with_reducible apply E_gs); (· rfl); all_goals (intro h; (try rw [h]); (try simp only [decide_eq_true_eq, decide_eq_false_iff_not, beq_iff_eq, bne_iff_ne, beq_eq_false_iff_ne, bne_eq_false_iff_eq, ge_iff_le, gt_iff_lt, Bool.not_true, Bool.not_false] at h)))
            | ((with_reducible apply E_pt); (· rfl); (· first | (conv => lhs; whnf) | rfl))
            | ((with_reducible apply E_pf); (· rfl); (· first | (conv => lhs; whnf) | rfl))
            | ((with_reducible apply E_len); (· rfl))
            | ((with_reducible apply E_iad); (· rfl); (· rfl); (· rfl); (· rfl); (· omega); (intro y hy; (try rw [Int.toNat_natCast] at hy)))
            | ((with_reducible apply E_op0); (· rfl); (· first | (conv => lhs; whnf) | rfl))
            | ((with_reducible apply E_op); (· rfl); (· first | (conv => lhs; whnf) | rfl); (· first | (conv => lhs; whnf) | rfl))
            | ((with_reducible apply E_do); (· rfl); (· first | (conv => lhs; whnf) | rfl))
            | ((with_reducible apply E_fin); (· first | (conv => lhs; whnf) | rfl))
            | with_reducible refine E_skip ?_ | with_reducible refine E_block ?_ | with_reducible refine E_exit ?_ | with_reducible refine E_ret ?_ | with_reducible refine E_the ?_ | with_reducible refine E_thr ?_
            | with_reducible refine E_bln ?_ | with_reducible refine E_ble ?_ | ((with_reducible refine E_blo ?_ ?_); (· rfl)) | with_reducible refine E_blr ?_
            | ((with_reducible apply E_ct); (· rfl)) | ((with_reducible apply E_cf); (· rfl)) | ((with_reducible apply E_cs); (· rfl); all_goals (intro h; (try rw [h]); (try simp only [decide_eq_true_eq, decide_eq_false_iff_not, beq_iff_eq, bne_iff_ne, beq_eq_false_iff_ne, bne_eq_false_iff_eq, ge_iff_le, gt_iff_lt, Bool.not_true, Bool.not_false] at h))))
          · have hp : prevP t i = some y.place := by unfold prevP; rw [if_neg (by omega), hy]; rfl
            exact bad (hno (by rw [hp]; simp; omega))
          · have hp : prevP t i = some y.place := by unfold prevP; rw [if_neg (by omega), hy]; rfl
            exact ⟨⟨by omega, by rw [hp]; simp; omega⟩, wk_nil ⟨rfl, Tab.blw 0 t, rfl, blwL_map (Site.blw 0) _, rfl, rfl, rfl, rfl, rfl, rfl, rfl, Site.blw 0 s0, rfl, rfl, trivial⟩⟩
        · have hp : prevP t i = none := by unfold prevP; rw [if_pos (by omega)]
          exact ⟨⟨by omega, by rw [hp]; rfl⟩, wk_nil ⟨rfl, Tab.blw 0 t, rfl, blwL_map (Site.blw 0) _, rfl, rfl, rfl, rfl, rfl, rfl, rfl, Site.blw 0 s0, rfl, rfl, trivial⟩⟩
        · exact bad (hno (by omega))
      have hf2 : f.toNat < t.funcs.length := by omega
      obtain ⟨rf, hrf⟩ : ∃ rf, t.funcs[f.toNat]? = some rf := ⟨_, List.getElem?_eq_getElem hf2⟩
      have hsz : sizeAt t f = rf.size := by unfold sizeAt; rw [hrf]; rfl
      have hlive : liveOK rf.size none s0.live = false → tabOK t = false := fun h => by
        unfold tabOK
        rw [hS, drop_cons hs0]
        simp only [sitesOK, siteOK, hf, hsz, h]
        simp
      have hyl := ht.live s0 (List.mem_of_getElem? hs0)
      have hll : (s0.live.map iav).length = s0.live.length := List.length_map ..
      repeat' (first
        | with_reducible refine E_seq ?_ | with_reducible refine E_reg ?_ | with_reducible refine E_thn ?_ | with_reducible refine E_nil ?_
        | ((with_reducible apply E_mv); (· first | (conv => lhs; whnf) | rfl))
        | ((with_reducible apply E_gh); (· rfl)) | ((with_reducible apply E_gm); (· rfl)) | ((with_reducible apply E_gz); (· rfl)) | ((with_reducible apply E_gs); (· rfl); all_goals (intro h; (try rw [h]); (try simp only [decide_eq_true_eq, decide_eq_false_iff_not, beq_iff_eq, bne_iff_ne, beq_eq_false_iff_ne, bne_eq_false_iff_eq, ge_iff_le, gt_iff_lt, Bool.not_true, Bool.not_false] at h)))
        | ((with_reducible apply E_pt); (· rfl); (· first | (conv => lhs; whnf) | rfl))
        | ((with_reducible apply E_pf); (· rfl); (· first | (conv => lhs; whnf) | rfl))
        | ((with_reducible apply E_len); (· rfl))
        | ((with_reducible apply E_iad); (· rfl); (· rfl); (· rfl); (· rfl); (· omega); (intro y hy; (try rw [Int.toNat_natCast] at hy)))
        | ((with_reducible apply E_op0); (· rfl); (· first | (conv => lhs; whnf) | rfl))
        | ((with_reducible apply E_op); (· rfl); (· first | (conv => lhs; whnf) | rfl); (· first | (conv => lhs; whnf) | rfl))
        | ((with_reducible apply E_do); (· rfl); (· first | (conv => lhs; whnf) | rfl))
        | ((with_reducible apply E_fin); (· first | (conv => lhs; whnf) | rfl))
        | with_reducible refine E_skip ?_ | with_reducible refine E_block ?_ | with_reducible refine E_exit ?_ | with_reducible refine E_ret ?_ | with_reducible refine E_the ?_ | with_reducible refine E_thr ?_
        | with_reducible refine E_bln ?_ | with_reducible refine E_ble ?_ | ((with_reducible refine E_blo ?_ ?_); (· rfl)) | with_reducible refine E_blr ?_
        | ((with_reducible apply E_ct); (· rfl)) | ((with_reducible apply E_cf); (· rfl)) | ((with_reducible apply E_cs); (· rfl); all_goals (intro h; (try rw [h]); (try simp only [decide_eq_true_eq, decide_eq_false_iff_not, beq_iff_eq, bne_iff_ne, beq_eq_false_iff_ne, bne_eq_false_iff_eq, ge_iff_le, gt_iff_lt, Bool.not_true, Bool.not_false] at h))))
      refine E_loop (ι := Nat) (fun j => [(1, .cptr t.av.cells 0), (36, .sl false 2 (t.sites.map Site.av)), (37, .int .i64 t.sites.length), (38, .int .i64 i), (7, .cptr s0.av.cells 0), (8, .int .i64 f), (66, .sl false 1 (s0.live.map iav)), (67, .int .i64 s0.live.length), (68, .int .i64 j)]) (fun _ => []) (fun j => j ≤ s0.live.length ∧ liveOK rf.size none s0.live = liveOK rf.size (prevL s0 j) (s0.live.drop j)) (fun j => s0.live.length - j) 0 ⟨by simp, rfl⟩ (wk_nil ?_) ?_
      · exact ⟨rfl, Tab.blw 0 t, rfl, blwL_map (Site.blw 0) _, rfl, rfl, rfl, rfl, rfl, Site.blw 0 s0, rfl, rfl, rfl, blwL_map (iav.blw 0) _, by simp [Fr.get], rfl, rfl, rfl, trivial⟩
      rintro j ⟨hj, hL⟩
      repeat' (first
        | ((with_reducible apply E_call (offset_ev _ _)); (· rfl); (· rfl); (· rfl))
        | with_reducible refine E_seq ?_ | with_reducible refine E_reg ?_ | with_reducible refine E_thn ?_ | with_reducible refine E_nil ?_
        | ((with_reducible apply E_mv); (· first | (conv => lhs; whnf) | rfl))
        | ((with_reducible apply E_gh); (· rfl)) | ((with_reducible apply E_gm); (· rfl)) | ((with_reducible apply E_gz); (· rfl)) | ((with_reducible apply E_gs); (· rfl); all_goals (intro h; (try rw [h]); (try simp only [decide_eq_true_eq, decide_eq_false_iff_not, beq_iff_eq, bne_iff_ne, beq_eq_false_iff_ne, bne_eq_false_iff_eq, ge_iff_le, gt_iff_lt, Bool.not_true, Bool.not_false] at h)))
        | ((with_reducible apply E_pt); (· rfl); (· first | (conv => lhs; whnf) | rfl))
        | ((with_reducible apply E_pf); (· rfl); (· first | (conv => lhs; whnf) | rfl))
        | ((with_reducible apply E_len); (· rfl))
        | ((with_reducible apply E_iad); (· rfl); (· rfl); (· rfl); (· rfl); (· omega); (intro y hy; (try rw [Int.toNat_natCast] at hy)))
        | ((with_reducible apply E_op0); (· rfl); (· first | (conv => lhs; whnf) | rfl))
        | ((with_reducible apply E_op); (· rfl); (· first | (conv => lhs; whnf) | rfl); (· first | (conv => lhs; whnf) | rfl))
        | ((with_reducible apply E_do); (· rfl); (· first | (conv => lhs; whnf) | rfl))
        | ((with_reducible apply E_fin); (· first | (conv => lhs; whnf) | rfl))
        | with_reducible refine E_skip ?_ | with_reducible refine E_block ?_ | with_reducible refine E_exit ?_ | with_reducible refine E_ret ?_ | with_reducible refine E_the ?_ | with_reducible refine E_thr ?_
        | with_reducible refine E_bln ?_ | with_reducible refine E_ble ?_ | ((with_reducible refine E_blo ?_ ?_); (· rfl)) | with_reducible refine E_blr ?_
        | ((with_reducible apply E_ct); (· rfl)) | ((with_reducible apply E_cf); (· rfl)) | ((with_reducible apply E_cs); (· rfl); all_goals (intro h; (try rw [h]); (try simp only [decide_eq_true_eq, decide_eq_false_iff_not, beq_iff_eq, bne_iff_ne, beq_eq_false_iff_ne, bne_eq_false_iff_eq, ge_iff_le, gt_iff_lt, Bool.not_true, Bool.not_false] at h))))
      · obtain rfl : y = rf := by rw [hrf] at hy; exact (Option.some.inj hy).symm
        rw [show IntKind.i64.wrap ((j : Int) - 1) = ((j - 1 : Nat) : Int) by rw [wrap_i64 (by omega)]; omega]
        repeat' (first
          | with_reducible refine E_seq ?_ | with_reducible refine E_reg ?_ | with_reducible refine E_thn ?_ | with_reducible refine E_nil ?_
          | ((with_reducible apply E_mv); (· first | (conv => lhs; whnf) | rfl))
          | ((with_reducible apply E_gh); (· rfl)) | ((with_reducible apply E_gm); (· rfl)) | ((with_reducible apply E_gz); (· rfl)) | ((with_reducible apply E_gs); (· rfl); all_goals (intro h; (try rw [h]); (try simp only [decide_eq_true_eq, decide_eq_false_iff_not, beq_iff_eq, bne_iff_ne, beq_eq_false_iff_ne, bne_eq_false_iff_eq, ge_iff_le, gt_iff_lt, Bool.not_true, Bool.not_false] at h)))
          | ((with_reducible apply E_pt); (· rfl); (· first | (conv => lhs; whnf) | rfl))
          | ((with_reducible apply E_pf); (· rfl); (· first | (conv => lhs; whnf) | rfl))
          | ((with_reducible apply E_len); (· rfl))
          | ((with_reducible apply E_iad); (· rfl); (· rfl); (· rfl); (· rfl); (· omega); (intro y hy; (try rw [Int.toNat_natCast] at hy)))
          | ((with_reducible apply E_op0); (· rfl); (· first | (conv => lhs; whnf) | rfl))
          | ((with_reducible apply E_op); (· rfl); (· first | (conv => lhs; whnf) | rfl); (· first | (conv => lhs; whnf) | rfl))
          | ((with_reducible apply E_do); (· rfl); (· first | (conv => lhs; whnf) | rfl))
          | ((with_reducible apply E_fin); (· first | (conv => lhs; whnf) | rfl))
          | with_reducible refine E_skip ?_ | with_reducible refine E_block ?_ | with_reducible refine E_exit ?_ | with_reducible refine E_ret ?_ | with_reducible refine E_the ?_ | with_reducible refine E_thr ?_
          | with_reducible refine E_bln ?_ | with_reducible refine E_ble ?_ | ((with_reducible refine E_blo ?_ ?_); (· rfl)) | with_reducible refine E_blr ?_
          | ((with_reducible apply E_ct); (· rfl)) | ((with_reducible apply E_cf); (· rfl)) | ((with_reducible apply E_cs); (· rfl); all_goals (intro h; (try rw [h]); (try simp only [decide_eq_true_eq, decide_eq_false_iff_not, beq_iff_eq, bne_iff_ne, beq_eq_false_iff_ne, bne_eq_false_iff_eq, ge_iff_le, gt_iff_lt, Bool.not_true, Bool.not_false] at h))))
        · have ho : s0.live[j]? = some _ := ‹s0.live[j]? = some _›
          have hp : prevL s0 j = some y := by unfold prevL; rw [if_neg (by omega)]; exact hy
          refine bad (hlive ?_)
          rw [hL, drop_cons ho, hp]; simp [liveOK]; intros; omega
        · have ho : s0.live[j]? = some _ := ‹s0.live[j]? = some _›
          have hp : prevL s0 j = some y := by unfold prevL; rw [if_neg (by omega)]; exact hy
          have hq : prevL s0 (j + 1) = s0.live[j]? := by unfold prevL; rw [if_neg (by omega)]; rfl
          refine ⟨j + 1, ⟨by omega, ?_⟩, by omega, wk_nil ⟨rfl, Tab.blw 0 t, rfl, blwL_map (Site.blw 0) _, rfl, rfl, rfl, rfl, rfl, Site.blw 0 s0, rfl, rfl, rfl, blwL_map (iav.blw 0) _, rfl, rfl, congrArg _ (by rw [wrap_i64 (by omega)]; omega), rfl, trivial⟩⟩
          rw [hL, drop_cons ho, hp, hq, ho]
          have hof := ‹(!offsetS _ _) = false›
          rw [Bool.not_eq_false'] at hof
          simp [liveOK, hof]; intros; omega
      · obtain rfl : y = rf := by rw [hrf] at hy; exact (Option.some.inj hy).symm
        have ho : s0.live[j]? = some _ := ‹s0.live[j]? = some _›
        have hp : prevL s0 j = none := by unfold prevL; rw [if_pos (by omega)]
        have hq : prevL s0 (j + 1) = s0.live[j]? := by unfold prevL; rw [if_neg (by omega)]; rfl
        refine ⟨j + 1, ⟨by omega, ?_⟩, by omega, wk_nil ⟨rfl, Tab.blw 0 t, rfl, blwL_map (Site.blw 0) _, rfl, rfl, rfl, rfl, rfl, Site.blw 0 s0, rfl, rfl, rfl, blwL_map (iav.blw 0) _, rfl, rfl, congrArg _ (by rw [wrap_i64 (by omega)]; omega), rfl, trivial⟩⟩
        rw [hL, drop_cons ho, hp, hq, ho]
        have hof := ‹(!offsetS _ _) = false›
        rw [Bool.not_eq_false'] at hof
        simp [liveOK, hof]
      · obtain rfl : y = rf := by rw [hrf] at hy; exact (Option.some.inj hy).symm
        have ho : s0.live[j]? = some _ := ‹s0.live[j]? = some _›
        refine bad (hlive ?_)
        rw [hL, drop_cons ho]
        simp at h
        simp [liveOK, h]
      · refine ⟨?_, wk_nil ⟨rfl, Tab.blw 0 t, rfl, blwL_map (Site.blw 0) _, rfl, rfl, rfl, rfl, trivial⟩⟩
        unfold siteOK
        rw [hf, decide_eq_true hb.1, hb.2, hsz, hL, List.drop_eq_nil_of_le (by omega)]; rfl
    have hq : prevP t (i + 1) = some s0.place := by unfold prevP; rw [if_neg (by omega)]; simp [hs0]
    repeat' (first
      | with_reducible refine E_seq ?_ | with_reducible refine E_reg ?_ | with_reducible refine E_thn ?_ | with_reducible refine E_nil ?_
      | ((with_reducible apply E_mv); (· first | (conv => lhs; whnf) | rfl))
      | ((with_reducible apply E_gh); (· rfl)) | ((with_reducible apply E_gm); (· rfl)) | ((with_reducible apply E_gz); (· rfl)) | ((with_reducible apply E_gs); (· rfl); all_goals (intro h; (try rw [h]); (try simp only [decide_eq_true_eq, decide_eq_false_iff_not, beq_iff_eq, bne_iff_ne, beq_eq_false_iff_ne, bne_eq_false_iff_eq, ge_iff_le, gt_iff_lt, Bool.not_true, Bool.not_false] at h)))
      | ((with_reducible apply E_pt); (· rfl); (· first | (conv => lhs; whnf) | rfl))
      | ((with_reducible apply E_pf); (· rfl); (· first | (conv => lhs; whnf) | rfl))
      | ((with_reducible apply E_len); (· rfl))
      | ((with_reducible apply E_iad); (· rfl); (· rfl); (· rfl); (· rfl); (· omega); (intro y hy; (try rw [Int.toNat_natCast] at hy)))
      | ((with_reducible apply E_op0); (· rfl); (· first | (conv => lhs; whnf) | rfl))
      | ((with_reducible apply E_op); (· rfl); (· first | (conv => lhs; whnf) | rfl); (· first | (conv => lhs; whnf) | rfl))
      | ((with_reducible apply E_do); (· rfl); (· first | (conv => lhs; whnf) | rfl))
      | ((with_reducible apply E_fin); (· first | (conv => lhs; whnf) | rfl))
      | with_reducible refine E_skip ?_ | with_reducible refine E_block ?_ | with_reducible refine E_exit ?_ | with_reducible refine E_ret ?_ | with_reducible refine E_the ?_ | with_reducible refine E_thr ?_
      | with_reducible refine E_bln ?_ | with_reducible refine E_ble ?_ | ((with_reducible refine E_blo ?_ ?_); (· rfl)) | with_reducible refine E_blr ?_
      | ((with_reducible apply E_ct); (· rfl)) | ((with_reducible apply E_cf); (· rfl)) | ((with_reducible apply E_cs); (· rfl); all_goals (intro h; (try rw [h]); (try simp only [decide_eq_true_eq, decide_eq_false_iff_not, beq_iff_eq, bne_iff_ne, beq_eq_false_iff_ne, bne_eq_false_iff_eq, ge_iff_le, gt_iff_lt, Bool.not_true, Bool.not_false] at h))))
    refine ⟨i + 1, ⟨by omega, ?_⟩, by omega, wk_nil ⟨rfl, Tab.blw 0 t, rfl, blwL_map (Site.blw 0) _, rfl, rfl, congrArg _ (by rw [wrap_i64 (by omega)]; omega), rfl, trivial⟩⟩
    rw [hS, drop_cons hs0, hq]; simp [sitesOK, hok]
  repeat' (first
    | with_reducible refine E_seq ?_ | with_reducible refine E_reg ?_ | with_reducible refine E_thn ?_ | with_reducible refine E_nil ?_
    | ((with_reducible apply E_mv); (· first | (conv => lhs; whnf) | rfl))
    | ((with_reducible apply E_gh); (· rfl)) | ((with_reducible apply E_gm); (· rfl)) | ((with_reducible apply E_gz); (· rfl)) | ((with_reducible apply E_gs); (· rfl); all_goals (intro h; (try rw [h]); (try simp only [decide_eq_true_eq, decide_eq_false_iff_not, beq_iff_eq, bne_iff_ne, beq_eq_false_iff_ne, bne_eq_false_iff_eq, ge_iff_le, gt_iff_lt, Bool.not_true, Bool.not_false] at h)))
    | ((with_reducible apply E_pt); (· rfl); (· first | (conv => lhs; whnf) | rfl))
    | ((with_reducible apply E_pf); (· rfl); (· first | (conv => lhs; whnf) | rfl))
    | ((with_reducible apply E_len); (· rfl))
    | ((with_reducible apply E_iad); (· rfl); (· rfl); (· rfl); (· rfl); (· omega); (intro y hy; (try rw [Int.toNat_natCast] at hy)))
    | ((with_reducible apply E_op0); (· rfl); (· first | (conv => lhs; whnf) | rfl))
    | ((with_reducible apply E_op); (· rfl); (· first | (conv => lhs; whnf) | rfl); (· first | (conv => lhs; whnf) | rfl))
    | ((with_reducible apply E_do); (· rfl); (· first | (conv => lhs; whnf) | rfl))
    | ((with_reducible apply E_fin); (· first | (conv => lhs; whnf) | rfl))
    | with_reducible refine E_skip ?_ | with_reducible refine E_block ?_ | with_reducible refine E_exit ?_ | with_reducible refine E_ret ?_ | with_reducible refine E_the ?_ | with_reducible refine E_thr ?_
    | with_reducible refine E_bln ?_ | with_reducible refine E_ble ?_ | ((with_reducible refine E_blo ?_ ?_); (· rfl)) | with_reducible refine E_blr ?_
    | ((with_reducible apply E_ct); (· rfl)) | ((with_reducible apply E_cf); (· rfl)) | ((with_reducible apply E_cs); (· rfl); all_goals (intro h; (try rw [h]); (try simp only [decide_eq_true_eq, decide_eq_false_iff_not, beq_iff_eq, bne_iff_ne, beq_eq_false_iff_ne, bne_eq_false_iff_eq, ge_iff_le, gt_iff_lt, Bool.not_true, Bool.not_false] at h))))
  have hok : tabOK t = true := by unfold tabOK; rw [decide_eq_true hlen, hrows, hsites]; rfl
  unfold checkS; rw [if_pos hok]
end Go.Proofs.Ytnmicfhdpnabcaa
