/- TablesHalves: the walk. -/
import Derived.Test.YtnmicfhdpnabcaaT5
namespace Go.Proofs.Ytnmicfhdpnabcaa
open Go Go.Ab
set_option maxRecDepth 20000
set_option linter.unusedVariables false
set_option linter.unusedSimpArgs false

def nOf (s : Int) : Int := IntKind.i64.wrap (1 + IntKind.i64.wrap ((IntKind.u64.wrap s).tmod 50))
theorem nOf_range (s : Int) : 1 ≤ nOf s ∧ nOf s ≤ 50 := by
  have h : 0 ≤ IntKind.u64.wrap s := by simp [IntKind.wrap, IntKind.bits, IntKind.signed]; omega
  have h2 : (IntKind.u64.wrap s).tmod 50 = IntKind.u64.wrap s % 50 := Int.tmod_eq_emod_of_nonneg h
  unfold nOf
  rw [h2, wrap_i64 (x := IntKind.u64.wrap s % 50) (by omega), wrap_i64 (by omega)]
  omega
def nx (a s : Int) : Int := IntKind.i64.wrap (a + nOf s)
def endAt : Int → List Int → Int
  | a, [] => a
  | a, s :: r => endAt (nx a s) r
def laid : Int → List Int → List Row
  | _, [] => []
  | a, s :: r => ⟨a, nx a s, 0, [], [], -1⟩ :: laid (nx a s) r
def raw (r : Row) : List AV := [.int .i64 r.start, .int .i64 r.stop, .int .i64 0, .nils, .nils, .int .i64 (-1)]
def heapN (rows : List Row) : List Ob := [.arr 0 [.ref 1 (rows.length - 1) 0 rows.length (some 6), .nils], .arr (rows.length - 1) (rows.flatMap raw)]
def heapR (rows : List Row) : List Ob :=
  match rows with
  | [] => [.arr 0 [.nils, .nils]]
  | r :: rs => heapN (r :: rs)
theorem heapR_eq {rows : List Row} (h : rows ≠ []) : heapR rows = heapN rows := by cases rows with
  | nil => exact (h rfl).elim
  | cons r rs => rfl

theorem endAt_app : ∀ (l : List Int) (a s : Int), endAt a (l ++ [s]) = nx (endAt a l) s
  | [], a, s => rfl
  | x :: l, a, s => endAt_app l _ s
theorem laid_app : ∀ (l : List Int) (a s : Int), laid a (l ++ [s]) = laid a l ++ [⟨endAt a l, nx (endAt a l) s, 0, [], [], -1⟩]
  | [], a, s => rfl
  | x :: l, a, s => by simp only [List.cons_append, laid, endAt, laid_app l]
theorem nx_eq {a s : Int} (h : 0 ≤ a ∧ a ≤ 1099511627776) : nx a s = a + nOf s := by
  have := nOf_range s
  unfold nx; rw [wrap_i64 (by omega)]
theorem laid_len : ∀ (l : List Int) (a : Int), (laid a l).length = l.length
  | [], a => rfl
  | x :: l, a => by simp [laid, laid_len l]
theorem endAt_range : ∀ (l : List Int) (a : Int), 0 ≤ a → a + 50 * l.length ≤ 1099511627776 → a + l.length ≤ endAt a l ∧ endAt a l ≤ a + 50 * l.length
  | [], a, _, _ => by simp [endAt]
  | x :: l, a, h0, h1 => by
    have h := nOf_range x
    simp only [List.length_cons] at h1
    have e := nx_eq (a := a) (s := x) (by omega)
    have := endAt_range l (nx a x) (by omega) (by omega)
    simp only [endAt, List.length_cons]; omega
theorem raws_len : ∀ (l : List Row), (l.flatMap raw).length = l.length * 6
  | [] => rfl
  | x :: l => by simp [raws_len l, raw]; omega

def plainR (r : Row) : Prop := r.size = 0 ∧ r.params = [] ∧ r.saves = [] ∧ r.resume = -1
theorem laid_plain : ∀ (l : List Int) (a : Int), ∀ r ∈ laid a l, plainR r
  | [], a, r, h => by simp [laid] at h
  | x :: l, a, r, h => by
    simp only [laid, List.mem_cons] at h
    rcases h with rfl | h
    · exact ⟨rfl, rfl, rfl, rfl⟩
    · exact laid_plain l _ r h
theorem chunks : ∀ (rows : List Row), elemsOf (some 6) rows.length (rows.flatMap raw) = rows.map fun r => AV.agg (raw r)
  | [] => rfl
  | r :: rs => by
    have := chunks rs
    simp only [elemsOf, List.length_cons, chunk, List.flatMap_cons, List.map_cons] at this ⊢
    exact congrArg (List.cons (AV.agg (raw r))) this
theorem raw_le {r : Row} (h : plainR r) : ∀ j (h3 : j < (AV.agg (raw r)).cells.length) (h4 : j < r.av.cells.length), AVle none (AV.agg (raw r)).cells[j] r.av.cells[j] := by
  obtain ⟨h1, h2, h3, h4⟩ := h
  intro j hj hj'
  match j, hj with
  | 0, _ => exact .refl _
  | 1, _ => exact .refl _
  | 2, _ => show AVle none (.int .i64 0) (.int .i64 r.size); rw [h1]; exact .refl _
  | 3, _ => show AVle none .nils (.sl false 1 (r.params.map kav)); rw [h2]; exact .nil
  | 4, _ => show AVle none .nils (.sl false 2 (r.saves.map Save.av)); rw [h3]; exact .nil
  | 5, _ => show AVle none (.int .i64 (-1)) (.int .i64 r.resume); rw [h4]; exact .refl _

theorem one_heap {a b : Nat} {x y x' y' : AV} (hx : AVle none x x') (hy : AVle none y y') : HpLe none (hp [.arr a [x, y]]) (hp [.arr a [x', y']]) := by
  intro o
  cases o with
  | zero =>
    refine .inl ⟨a, _, _, rfl, rfl, rfl, (fun _ _ => by intro e; cases e), fun j h h' => ?_⟩
    match j, h with
    | 0, _ => exact hx
    | 1, _ => exact hy
  | succ o => exact .inr (.inr (.inr ⟨rfl, rfl⟩))

/-! ### the plain law -/
theorem bs_at (c : Nat → Int) (p : Nat) : ∀ (d i j : Nat), j - i = d → i ≤ p → p ≤ j → (∀ k, i ≤ k → k < p → c k < 0) → (∀ k, p ≤ k → k < j → ¬ c k < 0) → bs c i j = p := by
  intro d
  induction d using Nat.strongRecOn with
  | _ d ih =>
    intro i j hd h1 h2 lo hi
    by_cases hlt : i < j
    · rw [bs_eq c i j hlt]
      by_cases hc : c ((i + j) / 2) < 0
      · rw [if_pos hc]
        have : (i + j) / 2 < p := by
          rcases Nat.lt_or_ge ((i + j) / 2) p with h | h
          · exact h
          · exact (hi _ h (by omega) hc).elim
        exact ih (j - ((i + j) / 2 + 1)) (by omega) _ _ rfl (by omega) h2 (fun k a b => lo k (by omega) b) hi
      · rw [if_neg hc]
        have : p ≤ (i + j) / 2 := by
          rcases Nat.lt_or_ge ((i + j) / 2) p with h | h
          · exact (hc (lo _ (by omega) h)).elim
          · exact h
        exact ih ((i + j) / 2 - i) (by omega) _ _ rfl h1 this lo (fun k a b => hi k a (by omega))
    · rw [bs, dif_neg hlt]; omega

theorem laid_get : ∀ (l : List Int) (a : Int) (i : Nat), i < l.length → (laid a l)[i]? = some ⟨endAt a (l.take i), endAt a (l.take (i + 1)), 0, [], [], -1⟩
  | [], a, i, h => by simp at h
  | x :: l, a, 0, _ => rfl
  | x :: l, a, i + 1, h => by
    simp only [laid, List.getElem?_cons_succ, List.take_succ_cons, endAt]
    exact laid_get l (nx a x) i (by simpa using h)

section
variable {l : List Int} (hl : l.length ≤ 16)
def eA (l : List Int) (i : Nat) : Int := endAt 2 (l.take i)
include hl in
theorem eA_range (i : Nat) (hi : i ≤ l.length) : 2 + i ≤ eA l i ∧ eA l i ≤ 2 + 50 * i := by
  have := endAt_range (l.take i) 2 (by omega) (by simp; omega)
  have e : (l.take i).length = i := by simp; omega
  rw [e] at this; exact this
include hl in
theorem eA_step (i : Nat) (hi : i < l.length) : eA l i < eA l (i + 1) := by
  have hy : l[i]? = some l[i] := List.getElem?_eq_getElem hi
  have h := eA_range hl i (by omega)
  have h2 := nOf_range l[i]
  unfold eA at h ⊢
  rw [take_succ' hy, endAt_app, nx_eq (by omega)]; omega
include hl in
theorem eA_mono : ∀ (d i : Nat), i + d ≤ l.length → eA l i + d ≤ eA l (i + d)
  | 0, i, _ => by simp
  | d + 1, i, h => by
    have := eA_mono d i (by omega)
    have := eA_step hl (i + d) (by omega)
    rw [← Nat.add_assoc]; omega
theorem cF_laid (x : Int) (k : Nat) (hk : k < l.length) : cF (laid 2 l) x k = cmpS (eA l k) x := by
  rw [cF_at (laid_get l 2 k hk)]; rfl
theorem cmp_lt {a x : Int} : cmpS a x < 0 ↔ a < x := by unfold cmpS; split <;> (try split) <;> omega
theorem cmp_eq {a x : Int} : cmpS a x = 0 ↔ a = x := by unfold cmpS; split <;> (try split) <;> omega
include hl in
theorem bs_laid (x : Int) (p : Nat) (hp : p ≤ l.length) (lo : p = 0 ∨ eA l (p - 1) < x) (hi : p = l.length ∨ x ≤ eA l p) : bs (cF (laid 2 l) x) 0 l.length = p := by
  refine bs_at _ p l.length 0 l.length rfl (by omega) hp (fun k _ hk => ?_) (fun k hk hk2 => ?_)
  · rw [cF_laid x k (by omega), cmp_lt]
    have := eA_mono hl (p - 1 - k) k (by omega)
    rw [show k + (p - 1 - k) = p - 1 by omega] at this
    omega
  · rw [cF_laid x k hk2, cmp_lt]
    have := eA_mono hl (k - p) p (by omega)
    rw [show p + (k - p) = k by omega] at this
    omega
include hl in
theorem func_in (x : Int) (w : Nat) (hw : w < l.length) (h1 : eA l w ≤ x) (h2 : x < eA l (w + 1)) : funcS (laid 2 l) x = ((w : Int), true) := by
  have hst : ((laid 2 l)[w]?.map Row.stop).getD 0 = eA l (w + 1) := by rw [laid_get l 2 w hw]; rfl
  unfold funcS
  rw [laid_len]
  by_cases he : x = eA l w
  · have hb := bs_laid hl x w (by omega) (by
      by_cases h : w = 0
      · exact .inl h
      · have := eA_step hl (w - 1) (by omega)
        rw [show w - 1 + 1 = w by omega] at this
        right; omega) (.inr (by omega))
    rw [hb]
    have hc : cF (laid 2 l) x w = 0 := by rw [cF_laid x w hw, cmp_eq]; exact he.symm
    simp only
    rw [show (if w < l.length ∧ cF (laid 2 l) x w = 0 then (w : Int) else (w : Int) - 1) = w from if_pos ⟨hw, hc⟩, Int.toNat_natCast, hst, if_neg (by omega)]
  · have hb := bs_laid hl x (w + 1) (by omega) (.inr (by simp; omega)) (by
      by_cases h : w + 1 = l.length
      · exact .inl h
      · exact .inr (by omega))
    rw [hb]
    simp only
    have hn : ¬ (w + 1 < l.length ∧ cF (laid 2 l) x (w + 1) = 0) := by
      rintro ⟨h3, h4⟩
      rw [cF_laid x _ h3, cmp_eq] at h4
      omega
    rw [show (if w + 1 < l.length ∧ cF (laid 2 l) x (w + 1) = 0 then ((w + 1 : Nat) : Int) else ((w + 1 : Nat) : Int) - 1) = w by rw [if_neg hn]; omega, Int.toNat_natCast, hst, if_neg (by omega)]
include hl in
theorem func_below : funcS (laid 2 l) 1 = (0, false) := by
  unfold funcS
  rw [laid_len]
  have h0 := eA_range hl 0 (by omega)
  rw [bs_laid hl 1 0 (by omega) (.inl rfl) (.inr (by omega))]
  simp only
  have hn : ¬ (0 < l.length ∧ cF (laid 2 l) 1 0 = 0) := by
    rintro ⟨h3, h4⟩
    rw [cF_laid 1 0 h3, cmp_eq] at h4
    omega
  rw [show (if 0 < l.length ∧ cF (laid 2 l) 1 0 = 0 then ((0 : Nat) : Int) else ((0 : Nat) : Int) - 1) = -1 by rw [if_neg hn]; rfl, if_pos (by left; omega)]
include hl in
theorem func_above : funcS (laid 2 l) (endAt 2 l) = (0, false) := by
  have he : endAt 2 l = eA l l.length := by unfold eA; rw [List.take_length]
  unfold funcS
  rw [laid_len, he]
  have hb := bs_laid hl (eA l l.length) l.length (by omega) (by
    by_cases h : l.length = 0
    · exact .inl h
    · have := eA_step hl (l.length - 1) (by omega)
      rw [show l.length - 1 + 1 = l.length by omega] at this
      exact .inr this) (.inl rfl)
  rw [hb]
  simp only
  rw [show (if l.length < l.length ∧ cF (laid 2 l) (eA l l.length) l.length = 0 then (l.length : Int) else (l.length : Int) - 1) = l.length - 1 from if_neg (by rintro ⟨h, _⟩; omega)]
  by_cases h : l.length = 0
  · rw [if_pos (by left; omega)]
  · rw [show ((l.length : Int) - 1).toNat = l.length - 1 by omega, laid_get l 2 (l.length - 1) (by omega)]
    rw [if_pos]
    right
    show endAt 2 (l.take (l.length - 1 + 1)) ≤ _
    rw [show l.length - 1 + 1 = l.length by omega]; exact Int.le_refl _
end

theorem frz_rows (rows : List Row) (x : Int) (hp0 : ∀ r ∈ rows, plainR r) : Wk [] [(3, .ptr 0 0 0), (4, .int .i64 x)] (heapR rows) [(3, .cptr (Tab.av ⟨rows, []⟩).cells 0), (4, .int .i64 x)] [] := by
  have hlast : Wk [] [(3, .ptr 0 0 0), (4, .int .i64 x)] [.arr 0 (Tab.av ⟨rows, []⟩).cells] [(3, .cptr (Tab.av ⟨rows, []⟩).cells 0), (4, .int .i64 x)] [] :=
    wk_frz (S1 := []) (ver := 0) (cs := (Tab.av ⟨rows, []⟩).cells) rfl (by simp) (Tab.blw 0 ⟨rows, []⟩) (by intro o v c h; simp at h) ⟨.inr ⟨0, rfl, rfl⟩, .inl ⟨rfl, rfl⟩, trivial⟩
  by_cases hne : rows = []
  · subst hne
    refine wk_trans (wk_le none (one_heap (b := 0) (x' := .sl false 6 []) (y' := .sl false 2 []) .nil .nil) (fun o v c e => by cases e) (fun t => .refl _)) hlast
  · rw [heapR_eq hne]
    have hraws : (rows.flatMap raw).all AV.one = true := by
      rw [List.all_eq_true]; intro v hv
      obtain ⟨r, _, hv⟩ := List.mem_flatMap.1 hv
      simp [raw] at hv
      rcases hv with rfl | rfl | rfl | rfl | rfl | rfl <;> rfl
    refine wk_trans (fr' := [(3, .ptr 0 0 0), (4, .int .i64 x)]) (S' := [.arr 0 [.sl false 6 (rows.map fun r => AV.agg (raw r)), .nils], .dead (rows.length - 1)]) (wk_le (some (1, rows.length - 1, rows.flatMap raw)) (fun o => ?_) (fun o v c e => ?_) (fun t => .refl _)) ?_
    · match o with
      | 0 =>
        refine .inl ⟨0, _, _, rfl, rfl, rfl, (fun _ _ => by intro e; cases e), fun j h h' => ?_⟩
        match j, h with
        | 0, _ =>
          have := AVle.ref (fz := some (1, rows.length - 1, rows.flatMap raw)) (o := 1) (ver := rows.length - 1) (n := rows.length) (e := some 6) (cs := rows.flatMap raw) rfl hraws (by rw [raws_len]; exact Nat.le_refl _)
          rw [chunks] at this
          exact this
        | 1, _ => exact .refl _
      | 1 => exact .inr (.inl ⟨_, _, rfl, rfl⟩)
      | o + 2 => exact .inr (.inr (.inr ⟨rfl, rfl⟩))
    · cases e; exact ⟨rfl, rfl⟩
    refine wk_trans (fr' := [(3, .ptr 0 0 0), (4, .int .i64 x)]) (S' := [.arr 0 [.sl false 6 (rows.map fun r => AV.agg (raw r)), .nils]]) (wk_trunc 1 (by simp) rfl (fun o v c ho e => ?_) (fun t => ?_)) ?_
    · have : o = 0 := by omega
      subst this
      cases e
      simp only [blwL, AV.blw, Bool.and_true]
      exact blwL_map (fun r => rfl) _
    · rw [get_cons, get_cons]
      split
      · exact .inr ⟨rfl, rfl⟩
      · split
        · exact .inr ⟨rfl, rfl⟩
        · exact .inl rfl
    refine wk_trans (wk_le none (one_heap (b := 0) (x' := .sl false 6 (rows.map Row.av)) (y' := .sl false 2 []) ?_ .nil) (fun o v c e => by cases e) (fun t => .refl _)) hlast
    refine .sl (by simp) (by simp) (fun i h1 h2 => ?_) (fun i h1 h2 j h3 h4 => ?_)
    · simp only [List.getElem_map]; rfl
    · simp only [List.getElem_map] at h3 h4 ⊢
      exact raw_le (hp0 _ (List.getElem_mem _)) j h3 h4

theorem rowsOK_laid : ∀ (l : List Int) (a b : Int), b ≤ a → 0 ≤ a → a + 50 * l.length ≤ 1048576 → rowsOK b (laid a l) = true
  | [], a, b, _, _, _ => rfl
  | x :: l, a, b, h0, h1, h2 => by
    have h := nOf_range x
    simp only [List.length_cons] at h2
    have e := nx_eq (a := a) (s := x) (by omega)
    simp only [laid, rowsOK]
    rw [rowsOK_laid l (nx a x) (nx a x) (by omega) (by omega) (by omega)]
    unfold rowS
    rw [decide_eq_true (p := rowHead _ _) (by unfold rowHead; simp; omega), decide_eq_true (p := rowBack _) (.inl rfl)]
    rfl

theorem halves_ev (sizes : List Int) (hs : sizes.length ≤ 1048576) : PureEv Try.prog 3 [.sl false 1 (sizes.map iav)] (.bool true) := by
  refine PureEv_of mixed fn3 (by simp) [3, 40] rfl ?_
  unfold fc3
  refine E_cut [(0, .sl false 1 (sizes.map iav))] [] True ?_ (fun _ => ?_)
  · repeat' (first
      | with_reducible refine E_seq ?_ | with_reducible refine E_reg ?_ | with_reducible refine E_thn ?_ | with_reducible refine E_nil ?_
      | ((with_reducible apply E_mv); (· first | (conv => lhs; whnf) | rfl))
      | ((with_reducible apply E_gh); (· rfl)) | ((with_reducible apply E_gm); (· rfl)) | ((with_reducible apply E_gz); (· rfl)) | ((with_reducible apply E_gs); (· rfl); all_goals (intro h; (try rw [h]); (try simp only [decide_eq_true_eq, decide_eq_false_iff_not, beq_iff_eq, bne_iff_ne, beq_eq_false_iff_ne, bne_eq_false_iff_eq, ge_iff_le, gt_iff_lt, Bool.not_true, Bool.not_false] at h)))
      | ((with_reducible apply E_pt); (· rfl); (· first | (conv => lhs; whnf) | rfl))
      | ((with_reducible apply E_pf); (· rfl); (· first | (conv => lhs; whnf) | rfl))
      | ((with_reducible apply E_len); (· rfl))
      | ((with_reducible apply E_iad); (· rfl); (· rfl); (· rfl); (· rfl); (· omega); (intro y hy; (try rw [Int.toNat_natCast] at hy)))
      | ((with_reducible apply E_op0); (· rfl); (· first | (conv => lhs; whnf) | rfl))
      | ((with_reducible apply E_op); (· rfl); (· first | (conv => lhs; whnf) | rfl); (· first | (conv => lhs; whnf) | rfl))
      | ((with_reducible apply E_do); (· rfl); (· first | (conv => lhs; whnf) | rfl))
      | ((with_reducible apply E_fin); (· first | (conv => lhs; whnf) | rfl))
      | with_reducible refine E_regp ?_ | ((with_reducible refine And.intro (a := okLog _ _) ?_ ?_); (· simp [okLog, nthL, okPair]))
      | with_reducible refine E_skip ?_ | with_reducible refine E_block ?_ | with_reducible refine E_exit ?_ | with_reducible refine E_ret ?_ | with_reducible refine E_the ?_ | with_reducible refine E_thr ?_
      | with_reducible refine E_bln ?_ | with_reducible refine E_ble ?_ | ((with_reducible refine E_blo ?_ ?_); (· rfl)) | with_reducible refine E_blr ?_
      | ((with_reducible apply E_ct); (· rfl)) | ((with_reducible apply E_cf); (· rfl)) | ((with_reducible apply E_cs); (· rfl); all_goals (intro h; (try rw [h]); (try simp only [decide_eq_true_eq, decide_eq_false_iff_not, beq_iff_eq, bne_iff_ne, beq_eq_false_iff_ne, bne_eq_false_iff_eq, ge_iff_le, gt_iff_lt, Bool.not_true, Bool.not_false] at h))))
    exact ⟨trivial, wk_nil ⟨rfl, blwL_map (iav.blw 0) _, trivial⟩⟩
  refine E_cut [(0, .sl false 1 (sizes.map iav))] [] True ?_ (fun _ => ?_)
  · repeat' (first
      | ((with_reducible apply E_call first_ev); (· rfl); (· rfl); (· rfl))
      | with_reducible refine E_seq ?_ | with_reducible refine E_reg ?_ | with_reducible refine E_thn ?_ | with_reducible refine E_nil ?_
      | ((with_reducible apply E_mv); (· first | (conv => lhs; whnf) | rfl))
      | ((with_reducible apply E_gh); (· rfl)) | ((with_reducible apply E_gm); (· rfl)) | ((with_reducible apply E_gz); (· rfl)) | ((with_reducible apply E_gs); (· rfl); all_goals (intro h; (try rw [h]); (try simp only [decide_eq_true_eq, decide_eq_false_iff_not, beq_iff_eq, bne_iff_ne, beq_eq_false_iff_ne, bne_eq_false_iff_eq, ge_iff_le, gt_iff_lt, Bool.not_true, Bool.not_false] at h)))
      | ((with_reducible apply E_pt); (· rfl); (· first | (conv => lhs; whnf) | rfl))
      | ((with_reducible apply E_pf); (· rfl); (· first | (conv => lhs; whnf) | rfl))
      | ((with_reducible apply E_len); (· rfl))
      | ((with_reducible apply E_iad); (· rfl); (· rfl); (· rfl); (· rfl); (· omega); (intro y hy; (try rw [Int.toNat_natCast] at hy)))
      | ((with_reducible apply E_op0); (· rfl); (· first | (conv => lhs; whnf) | rfl))
      | ((with_reducible apply E_op); (· rfl); (· first | (conv => lhs; whnf) | rfl); (· first | (conv => lhs; whnf) | rfl))
      | ((with_reducible apply E_do); (· rfl); (· first | (conv => lhs; whnf) | rfl))
      | ((with_reducible apply E_fin); (· first | (conv => lhs; whnf) | rfl))
      | with_reducible refine E_regp ?_ | ((with_reducible refine And.intro (a := okLog _ _) ?_ ?_); (· simp [okLog, nthL, okPair]))
      | with_reducible refine E_skip ?_ | with_reducible refine E_block ?_ | with_reducible refine E_exit ?_ | with_reducible refine E_ret ?_ | with_reducible refine E_the ?_ | with_reducible refine E_thr ?_
      | with_reducible refine E_bln ?_ | with_reducible refine E_ble ?_ | ((with_reducible refine E_blo ?_ ?_); (· rfl)) | with_reducible refine E_blr ?_
      | ((with_reducible apply E_ct); (· rfl)) | ((with_reducible apply E_cf); (· rfl)) | ((with_reducible apply E_cs); (· rfl); all_goals (intro h; (try rw [h]); (try simp only [decide_eq_true_eq, decide_eq_false_iff_not, beq_iff_eq, bne_iff_ne, beq_eq_false_iff_ne, bne_eq_false_iff_eq, ge_iff_le, gt_iff_lt, Bool.not_true, Bool.not_false] at h))))
    exact ⟨trivial, wk_nil ⟨rfl, blwL_map (iav.blw 0) _, trivial⟩⟩
  refine E_cut [(0, .sl false 1 (sizes.map iav)), (3, .ptr 0 0 0)] (heapR []) True ?_ (fun _ => ?_)
  · repeat' (first
      | with_reducible refine E_seq ?_ | with_reducible refine E_reg ?_ | with_reducible refine E_thn ?_ | with_reducible refine E_nil ?_
      | ((with_reducible apply E_mv); (· first | (conv => lhs; whnf) | rfl))
      | ((with_reducible apply E_gh); (· rfl)) | ((with_reducible apply E_gm); (· rfl)) | ((with_reducible apply E_gz); (· rfl)) | ((with_reducible apply E_gs); (· rfl); all_goals (intro h; (try rw [h]); (try simp only [decide_eq_true_eq, decide_eq_false_iff_not, beq_iff_eq, bne_iff_ne, beq_eq_false_iff_ne, bne_eq_false_iff_eq, ge_iff_le, gt_iff_lt, Bool.not_true, Bool.not_false] at h)))
      | ((with_reducible apply E_pt); (· rfl); (· first | (conv => lhs; whnf) | rfl))
      | ((with_reducible apply E_pf); (· rfl); (· first | (conv => lhs; whnf) | rfl))
      | ((with_reducible apply E_len); (· rfl))
      | ((with_reducible apply E_iad); (· rfl); (· rfl); (· rfl); (· rfl); (· omega); (intro y hy; (try rw [Int.toNat_natCast] at hy)))
      | ((with_reducible apply E_op0); (· rfl); (· first | (conv => lhs; whnf) | rfl))
      | ((with_reducible apply E_op); (· rfl); (· first | (conv => lhs; whnf) | rfl); (· first | (conv => lhs; whnf) | rfl))
      | ((with_reducible apply E_do); (· rfl); (· first | (conv => lhs; whnf) | rfl))
      | ((with_reducible apply E_fin); (· first | (conv => lhs; whnf) | rfl))
      | with_reducible refine E_regp ?_ | ((with_reducible refine And.intro (a := okLog _ _) ?_ ?_); (· simp [okLog, nthL, okPair]))
      | with_reducible refine E_skip ?_ | with_reducible refine E_block ?_ | with_reducible refine E_exit ?_ | with_reducible refine E_ret ?_ | with_reducible refine E_the ?_ | with_reducible refine E_thr ?_
      | with_reducible refine E_bln ?_ | with_reducible refine E_ble ?_ | ((with_reducible refine E_blo ?_ ?_); (· rfl)) | with_reducible refine E_blr ?_
      | ((with_reducible apply E_ct); (· rfl)) | ((with_reducible apply E_cf); (· rfl)) | ((with_reducible apply E_cs); (· rfl); all_goals (intro h; (try rw [h]); (try simp only [decide_eq_true_eq, decide_eq_false_iff_not, beq_iff_eq, bne_iff_ne, beq_eq_false_iff_ne, bne_eq_false_iff_eq, ge_iff_le, gt_iff_lt, Bool.not_true, Bool.not_false] at h))))
    exact ⟨trivial, wk_sub ⟨.inl rfl, .inl rfl, trivial⟩⟩
  refine E_cut [(0, .sl false 1 (sizes.map iav)), (3, .ptr 0 0 0), (4, .int .i64 2)] (heapR []) True ?_ (fun _ => ?_)
  · repeat' (first
      | with_reducible refine E_seq ?_ | with_reducible refine E_reg ?_ | with_reducible refine E_thn ?_ | with_reducible refine E_nil ?_
      | ((with_reducible apply E_mv); (· first | (conv => lhs; whnf) | rfl))
      | ((with_reducible apply E_gh); (· rfl)) | ((with_reducible apply E_gm); (· rfl)) | ((with_reducible apply E_gz); (· rfl)) | ((with_reducible apply E_gs); (· rfl); all_goals (intro h; (try rw [h]); (try simp only [decide_eq_true_eq, decide_eq_false_iff_not, beq_iff_eq, bne_iff_ne, beq_eq_false_iff_ne, bne_eq_false_iff_eq, ge_iff_le, gt_iff_lt, Bool.not_true, Bool.not_false] at h)))
      | ((with_reducible apply E_pt); (· rfl); (· first | (conv => lhs; whnf) | rfl))
      | ((with_reducible apply E_pf); (· rfl); (· first | (conv => lhs; whnf) | rfl))
      | ((with_reducible apply E_len); (· rfl))
      | ((with_reducible apply E_iad); (· rfl); (· rfl); (· rfl); (· rfl); (· omega); (intro y hy; (try rw [Int.toNat_natCast] at hy)))
      | ((with_reducible apply E_op0); (· rfl); (· first | (conv => lhs; whnf) | rfl))
      | ((with_reducible apply E_op); (· rfl); (· first | (conv => lhs; whnf) | rfl); (· first | (conv => lhs; whnf) | rfl))
      | ((with_reducible apply E_do); (· rfl); (· first | (conv => lhs; whnf) | rfl))
      | ((with_reducible apply E_fin); (· first | (conv => lhs; whnf) | rfl))
      | with_reducible refine E_regp ?_ | ((with_reducible refine And.intro (a := okLog _ _) ?_ ?_); (· simp [okLog, nthL, okPair]))
      | with_reducible refine E_skip ?_ | with_reducible refine E_block ?_ | with_reducible refine E_exit ?_ | with_reducible refine E_ret ?_ | with_reducible refine E_the ?_ | with_reducible refine E_thr ?_
      | with_reducible refine E_bln ?_ | with_reducible refine E_ble ?_ | ((with_reducible refine E_blo ?_ ?_); (· rfl)) | with_reducible refine E_blr ?_
      | ((with_reducible apply E_ct); (· rfl)) | ((with_reducible apply E_cf); (· rfl)) | ((with_reducible apply E_cs); (· rfl); all_goals (intro h; (try rw [h]); (try simp only [decide_eq_true_eq, decide_eq_false_iff_not, beq_iff_eq, bne_iff_ne, beq_eq_false_iff_ne, bne_eq_false_iff_eq, ge_iff_le, gt_iff_lt, Bool.not_true, Bool.not_false] at h))))
    exact ⟨trivial, wk_sub ⟨.inl rfl, .inl rfl, .inl rfl, trivial⟩⟩
  have h16 : (sizes.take 16).length ≤ 16 := by simp; omega
  refine E_cut [(3, .cptr (Tab.av ⟨laid 2 (sizes.take 16), []⟩).cells 0), (4, .int .i64 (endAt 2 (sizes.take 16)))] [] True ?_ (fun _ => ?_)
  · repeat' (first
      | with_reducible refine E_seq ?_ | with_reducible refine E_reg ?_ | with_reducible refine E_thn ?_ | with_reducible refine E_nil ?_
      | ((with_reducible apply E_mv); (· first | (conv => lhs; whnf) | rfl))
      | ((with_reducible apply E_gh); (· rfl)) | ((with_reducible apply E_gm); (· rfl)) | ((with_reducible apply E_gz); (· rfl)) | ((with_reducible apply E_gs); (· rfl); all_goals (intro h; (try rw [h]); (try simp only [decide_eq_true_eq, decide_eq_false_iff_not, beq_iff_eq, bne_iff_ne, beq_eq_false_iff_ne, bne_eq_false_iff_eq, ge_iff_le, gt_iff_lt, Bool.not_true, Bool.not_false] at h)))
      | ((with_reducible apply E_pt); (· rfl); (· first | (conv => lhs; whnf) | rfl))
      | ((with_reducible apply E_pf); (· rfl); (· first | (conv => lhs; whnf) | rfl))
      | ((with_reducible apply E_len); (· rfl))
      | ((with_reducible apply E_iad); (· rfl); (· rfl); (· rfl); (· rfl); (· omega); (intro y hy; (try rw [Int.toNat_natCast] at hy)))
      | ((with_reducible apply E_op0); (· rfl); (· first | (conv => lhs; whnf) | rfl))
      | ((with_reducible apply E_op); (· rfl); (· first | (conv => lhs; whnf) | rfl); (· first | (conv => lhs; whnf) | rfl))
      | ((with_reducible apply E_do); (· rfl); (· first | (conv => lhs; whnf) | rfl))
      | ((with_reducible apply E_fin); (· first | (conv => lhs; whnf) | rfl))
      | with_reducible refine E_regp ?_ | ((with_reducible refine And.intro (a := okLog _ _) ?_ ?_); (· simp [okLog, nthL, okPair]))
      | with_reducible refine E_skip ?_ | with_reducible refine E_block ?_ | with_reducible refine E_exit ?_ | with_reducible refine E_ret ?_ | with_reducible refine E_the ?_ | with_reducible refine E_thr ?_
      | with_reducible refine E_bln ?_ | with_reducible refine E_ble ?_ | ((with_reducible refine E_blo ?_ ?_); (· rfl)) | with_reducible refine E_blr ?_
      | ((with_reducible apply E_ct); (· rfl)) | ((with_reducible apply E_cf); (· rfl)) | ((with_reducible apply E_cs); (· rfl); all_goals (intro h; (try rw [h]); (try simp only [decide_eq_true_eq, decide_eq_false_iff_not, beq_iff_eq, bne_iff_ne, beq_eq_false_iff_ne, bne_eq_false_iff_eq, ge_iff_le, gt_iff_lt, Bool.not_true, Bool.not_false] at h))))
    refine E_loop (ι := Nat) (fun i => [(3, .ptr 0 0 0), (4, .int .i64 (endAt 2 (sizes.take i))), (18, .sl false 1 (sizes.map iav)), (19, .int .i64 sizes.length), (20, .int .i64 i)]) (fun i => heapR (laid 2 (sizes.take i))) (fun i => i ≤ sizes.length ∧ i ≤ 16) (fun i => sizes.length - i) 0 ⟨by omega, by omega⟩ (wk_sub ?_) ?_
    · exact ⟨.inl rfl, .inl rfl, .inl rfl, .inl (by simp [Fr.get]), .inl rfl, trivial⟩
    rintro i ⟨hi, hi2⟩
    have htl : (sizes.take i).length = i := by simp; omega
    cases i with
    | zero =>
      simp only [List.take_zero, laid, endAt]
      repeat' (first
        | with_reducible refine E_seq ?_ | with_reducible refine E_reg ?_ | with_reducible refine E_thn ?_ | with_reducible refine E_nil ?_
        | ((with_reducible apply E_mv); (· first | (conv => lhs; whnf) | rfl))
        | ((with_reducible apply E_gh); (· rfl)) | ((with_reducible apply E_gm); (· rfl)) | ((with_reducible apply E_gz); (· rfl)) | ((with_reducible apply E_gs); (· rfl); all_goals (intro h; (try rw [h]); (try simp only [decide_eq_true_eq, decide_eq_false_iff_not, beq_iff_eq, bne_iff_ne, beq_eq_false_iff_ne, bne_eq_false_iff_eq, ge_iff_le, gt_iff_lt, Bool.not_true, Bool.not_false] at h)))
        | ((with_reducible apply E_pt); (· rfl); (· first | (conv => lhs; whnf) | rfl))
        | ((with_reducible apply E_pf); (· rfl); (· first | (conv => lhs; whnf) | rfl))
        | ((with_reducible apply E_len); (· rfl))
        | ((with_reducible apply E_iad); (· rfl); (· rfl); (· rfl); (· rfl); (· omega); (intro y hy; (try rw [Int.toNat_natCast] at hy)))
        | ((with_reducible apply E_op0); (· rfl); (· first | (conv => lhs; whnf) | rfl))
        | ((with_reducible apply E_op); (· rfl); (· first | (conv => lhs; whnf) | rfl); (· first | (conv => lhs; whnf) | rfl))
        | ((with_reducible apply E_do); (· rfl); (· first | (conv => lhs; whnf) | rfl))
        | ((with_reducible apply E_fin); (· first | (conv => lhs; whnf) | rfl))
        | with_reducible refine E_regp ?_ | ((with_reducible refine And.intro (a := okLog _ _) ?_ ?_); (· simp [okLog, nthL, okPair]))
        | with_reducible refine E_skip ?_ | with_reducible refine E_block ?_ | with_reducible refine E_exit ?_ | with_reducible refine E_ret ?_ | with_reducible refine E_the ?_ | with_reducible refine E_thr ?_
        | with_reducible refine E_bln ?_ | with_reducible refine E_ble ?_ | ((with_reducible refine E_blo ?_ ?_); (· rfl)) | with_reducible refine E_blr ?_
        | ((with_reducible apply E_ct); (· rfl)) | ((with_reducible apply E_cf); (· rfl)) | ((with_reducible apply E_cs); (· rfl); all_goals (intro h; (try rw [h]); (try simp only [decide_eq_true_eq, decide_eq_false_iff_not, beq_iff_eq, bne_iff_ne, beq_eq_false_iff_ne, bne_eq_false_iff_eq, ge_iff_le, gt_iff_lt, Bool.not_true, Bool.not_false] at h))))
      · have e : sizes.take 1 = [y] := by rw [take_succ' hy]; rfl
        refine ⟨1, ⟨by omega, by omega⟩, by omega, ?_⟩
        rw [e]
        refine wk_sub' rfl ?_
        exact ⟨.inl rfl, .inl rfl, .inl rfl, .inl rfl, .inl rfl, trivial⟩
      · have e : sizes.take 16 = [] := by
          have : sizes = [] := List.eq_nil_of_length_eq_zero (by omega)
          rw [this]; rfl
        rw [e]
        refine ⟨trivial, wk_trans (wk_sub' (fr' := [(3, .ptr 0 0 0), (4, .int .i64 (endAt 2 []))]) (S' := heapR (laid 2 [])) rfl ?_) (frz_rows _ _ (laid_plain _ _))⟩
        exact ⟨.inl rfl, .inl rfl, trivial⟩
    | succ i =>
      have e1 : ∀ y, sizes[i + 1]? = some y → endAt 2 (sizes.take (i + 1 + 1)) = nx (endAt 2 (sizes.take (i + 1))) y := fun y hy => by rw [take_succ' hy, endAt_app]
      have e2 : ∀ y, sizes[i + 1]? = some y → laid 2 (sizes.take (i + 1 + 1)) = laid 2 (sizes.take (i + 1)) ++ [⟨endAt 2 (sizes.take (i + 1)), nx (endAt 2 (sizes.take (i + 1))) y, 0, [], [], -1⟩] := fun y hy => by rw [take_succ' hy, laid_app]
      have e3 : sizes.length ≤ i + 1 ∨ 16 ≤ i + 1 → sizes.take 16 = sizes.take (i + 1) := fun h => by
        rcases h with h | h
        · rw [List.take_of_length_le (by omega), List.take_of_length_le h]
        · rw [show i + 1 = 16 by omega]
      have hll := laid_len (sizes.take (i + 1)) 2
      rw [htl] at hll
      generalize hrr : laid 2 (sizes.take (i + 1)) = rows at e2 hll ⊢
      generalize hee : endAt 2 (sizes.take (i + 1)) = ea at e1 e2 ⊢
      have hne : rows ≠ [] := by intro h; rw [h] at hll; simp at hll
      rw [heapR_eq hne]
      repeat' (first
        | ((with_reducible apply E_app (n := 1)); (· rfl); (· rfl); (· rfl); (· rfl); (· omega))
        | with_reducible refine E_seq ?_ | with_reducible refine E_reg ?_ | with_reducible refine E_thn ?_ | with_reducible refine E_nil ?_
        | ((with_reducible apply E_mv); (· first | (conv => lhs; whnf) | rfl))
        | ((with_reducible apply E_gh); (· rfl)) | ((with_reducible apply E_gm); (· rfl)) | ((with_reducible apply E_gz); (· rfl)) | ((with_reducible apply E_gs); (· rfl); all_goals (intro h; (try rw [h]); (try simp only [decide_eq_true_eq, decide_eq_false_iff_not, beq_iff_eq, bne_iff_ne, beq_eq_false_iff_ne, bne_eq_false_iff_eq, ge_iff_le, gt_iff_lt, Bool.not_true, Bool.not_false] at h)))
        | ((with_reducible apply E_pt); (· rfl); (· first | (conv => lhs; whnf) | rfl))
        | ((with_reducible apply E_pf); (· rfl); (· first | (conv => lhs; whnf) | rfl))
        | ((with_reducible apply E_len); (· rfl))
        | ((with_reducible apply E_iad); (· rfl); (· rfl); (· rfl); (· rfl); (· omega); (intro y hy; (try rw [Int.toNat_natCast] at hy)))
        | ((with_reducible apply E_op0); (· rfl); (· first | (conv => lhs; whnf) | rfl))
        | ((with_reducible apply E_op); (· rfl); (· first | (conv => lhs; whnf) | rfl); (· first | (conv => lhs; whnf) | rfl))
        | ((with_reducible apply E_do); (· rfl); (· first | (conv => lhs; whnf) | rfl))
        | ((with_reducible apply E_fin); (· first | (conv => lhs; whnf) | rfl))
        | with_reducible refine E_regp ?_ | ((with_reducible refine And.intro (a := okLog _ _) ?_ ?_); (· simp [okLog, nthL, okPair]))
        | with_reducible refine E_skip ?_ | with_reducible refine E_block ?_ | with_reducible refine E_exit ?_ | with_reducible refine E_ret ?_ | with_reducible refine E_the ?_ | with_reducible refine E_thr ?_
        | with_reducible refine E_bln ?_ | with_reducible refine E_ble ?_ | ((with_reducible refine E_blo ?_ ?_); (· rfl)) | with_reducible refine E_blr ?_
        | ((with_reducible apply E_ct); (· rfl)) | ((with_reducible apply E_cf); (· rfl)) | ((with_reducible apply E_cs); (· rfl); all_goals (intro h; (try rw [h]); (try simp only [decide_eq_true_eq, decide_eq_false_iff_not, beq_iff_eq, bne_iff_ne, beq_eq_false_iff_ne, bne_eq_false_iff_eq, ge_iff_le, gt_iff_lt, Bool.not_true, Bool.not_false] at h))))
      · rw [e3 (Or.inr (by omega)), hrr, hee]
        refine ⟨trivial, wk_trans (wk_sub' (fr' := [(3, .ptr 0 0 0), (4, .int .i64 ea)]) (S' := heapN rows) rfl ?_) (heapR_eq hne ▸ frz_rows rows ea (hrr ▸ laid_plain _ _))⟩
        exact ⟨.inl rfl, .inl rfl, trivial⟩
      · refine ⟨i + 1 + 1, ⟨by omega, by omega⟩, by omega, ?_⟩
        rw [e1 y hy, e2 y hy, heapR_eq (by simp)]
        refine wk_sub' ?_ ?_
        · show [Ob.arr 0 [.ref 1 (rows.length - 1 + 1) 0 (rows.length + 1) (some 6), .nils], .arr (rows.length - 1 + 1) ((rows.flatMap raw).take (rows.length * 6) ++ raw ⟨ea, nx ea y, 0, [], [], -1⟩)] = _
          rw [List.take_of_length_le (by rw [raws_len]; omega)]
          unfold heapN
          rw [List.length_append, List.flatMap_append, show rows.length - 1 + 1 = rows.length by omega]
          rfl
        · exact ⟨.inl rfl, .inl rfl, .inl rfl, .inl rfl, .inl (congrArg _ (by rw [wrap_i64 (by omega)]; omega)), trivial⟩
      · rw [e3 (Or.inl (by omega)), hrr, hee]
        refine ⟨trivial, wk_trans (wk_sub' (fr' := [(3, .ptr 0 0 0), (4, .int .i64 ea)]) (S' := heapN rows) rfl ?_) (heapR_eq hne ▸ frz_rows rows ea (hrr ▸ laid_plain _ _))⟩
        exact ⟨.inl rfl, .inl rfl, trivial⟩
  generalize sizes.take 16 = l at h16 ⊢
  have hn : (laid 2 l).length = l.length := laid_len l 2
  have hok : tabOK ⟨laid 2 l, []⟩ = true := by
    unfold tabOK
    rw [rowsOK_laid l 2 0 (by omega) (by omega) (by omega), decide_eq_true (by simp only [hn, List.length_nil]; omega)]; rfl
  have hsm : Tab.small ⟨laid 2 l, []⟩ := ⟨by simp only [hn]; omega, by simp, fun r hr => by rw [(laid_plain l 2 r hr).2.1]; simp, fun r hr => by rw [(laid_plain l 2 r hr).2.2.1]; simp, fun s hs => by simp at hs⟩
  have chk := check_ev ⟨laid 2 l, []⟩ hsm
  have hcs : checkS ⟨laid 2 l, []⟩ = 0 := by unfold checkS; rw [if_pos hok]
  rw [hcs] at chk
  have hfn := fun x => func_ev ⟨laid 2 l, []⟩ x hsm.funcs
  have f1 := hfn 1
  have fA := hfn (endAt 2 l)
  simp only at f1 fA hfn
  rw [func_below h16] at f1
  rw [func_above h16] at fA
  unfold pairAV at f1 fA
  have hfin : ∀ (x : Int) (w : Nat), w < l.length → eA l w ≤ x → x < eA l (w + 1) → PureEv Try.prog 10 [Tab.av ⟨laid 2 l, []⟩, .int .i64 x] (.tup [.int .i64 w, .bool true]) := fun x w a b c => by
    have := hfn x
    rw [func_in h16 x w a b c] at this
    exact this
  have hrow : ∀ (w : Nat) (y : Row), (laid 2 l)[w]? = some y → y.stop = eA l (w + 1) := fun w y h => by
    have hw : w < l.length := by
      rw [← hn]; exact (List.getElem?_eq_some_iff.1 h).1
    rw [laid_get l 2 w hw] at h
    cases h; rfl
  have hat : endAt 2 l = eA l l.length := by unfold eA; rw [List.take_length]
  have hmono := eA_mono h16
  have hstep := eA_step h16
  have hend := eA_range h16 l.length (Nat.le_refl _)
  have hz : eA l 0 = 2 := rfl
  generalize endAt 2 l = at_ at hat fA ⊢
  generalize ht : (⟨laid 2 l, []⟩ : Tab) = t at *
  have htf : t.funcs = laid 2 l := by rw [← ht]
  have hnt : t.funcs.length = l.length := by rw [htf, hn]
  refine E_cut [(3, .cptr t.av.cells 0), (4, .int .i64 at_)] [] True ?_ (fun _ => ?_)
  · repeat' (first
      | ((with_reducible apply E_call chk); (· rfl); (· simp [blwL, AV.blw, Tab.blw]); (· rfl))
      | with_reducible refine E_seq ?_ | with_reducible refine E_reg ?_ | with_reducible refine E_thn ?_ | with_reducible refine E_nil ?_
      | ((with_reducible apply E_mv); (· first | (conv => lhs; whnf) | rfl))
      | ((with_reducible apply E_gh); (· rfl)) | ((with_reducible apply E_gm); (· rfl)) | ((with_reducible apply E_gz); (· rfl)) | ((with_reducible apply E_gs); (· rfl); all_goals (intro h; (try rw [h]); (try simp only [decide_eq_true_eq, decide_eq_false_iff_not, beq_iff_eq, bne_iff_ne, beq_eq_false_iff_ne, bne_eq_false_iff_eq, ge_iff_le, gt_iff_lt, Bool.not_true, Bool.not_false] at h)))
      | ((with_reducible apply E_pt); (· rfl); (· first | (conv => lhs; whnf) | rfl))
      | ((with_reducible apply E_pf); (· rfl); (· first | (conv => lhs; whnf) | rfl))
      | ((with_reducible apply E_len); (· rfl))
      | ((with_reducible apply E_iad); (· rfl); (· rfl); (· rfl); (· rfl); (· omega); (intro y hy; (try rw [Int.toNat_natCast] at hy)))
      | ((with_reducible apply E_op0); (· rfl); (· first | (conv => lhs; whnf) | rfl))
      | ((with_reducible apply E_op); (· rfl); (· first | (conv => lhs; whnf) | rfl); (· first | (conv => lhs; whnf) | rfl))
      | ((with_reducible apply E_do); (· rfl); (· first | (conv => lhs; whnf) | rfl))
      | ((with_reducible apply E_fin); (· first | (conv => lhs; whnf) | rfl))
      | with_reducible refine E_regp ?_ | ((with_reducible refine And.intro (a := okLog _ _) ?_ ?_); (· simp [okLog, nthL, okPair]))
      | with_reducible refine E_skip ?_ | with_reducible refine E_block ?_ | with_reducible refine E_exit ?_ | with_reducible refine E_ret ?_ | with_reducible refine E_the ?_ | with_reducible refine E_thr ?_
      | with_reducible refine E_bln ?_ | with_reducible refine E_ble ?_ | ((with_reducible refine E_blo ?_ ?_); (· rfl)) | with_reducible refine E_blr ?_
      | ((with_reducible apply E_ct); (· rfl)) | ((with_reducible apply E_cf); (· rfl)) | ((with_reducible apply E_cs); (· rfl); all_goals (intro h; (try rw [h]); (try simp only [decide_eq_true_eq, decide_eq_false_iff_not, beq_iff_eq, bne_iff_ne, beq_eq_false_iff_ne, bne_eq_false_iff_eq, ge_iff_le, gt_iff_lt, Bool.not_true, Bool.not_false] at h))))
    exact ⟨trivial, wk_nil ⟨rfl, Tab.blw 0 t, rfl, rfl, trivial⟩⟩
  refine E_cut [(3, .cptr t.av.cells 0), (4, .int .i64 at_), (8, .int .i64 0)] [] True ?_ (fun _ => ?_)
  · repeat' (first
      | with_reducible refine E_seq ?_ | with_reducible refine E_reg ?_ | with_reducible refine E_thn ?_ | with_reducible refine E_nil ?_
      | ((with_reducible apply E_mv); (· first | (conv => lhs; whnf) | rfl))
      | ((with_reducible apply E_gh); (· rfl)) | ((with_reducible apply E_gm); (· rfl)) | ((with_reducible apply E_gz); (· rfl)) | ((with_reducible apply E_gs); (· rfl); all_goals (intro h; (try rw [h]); (try simp only [decide_eq_true_eq, decide_eq_false_iff_not, beq_iff_eq, bne_iff_ne, beq_eq_false_iff_ne, bne_eq_false_iff_eq, ge_iff_le, gt_iff_lt, Bool.not_true, Bool.not_false] at h)))
      | ((with_reducible apply E_pt); (· rfl); (· first | (conv => lhs; whnf) | rfl))
      | ((with_reducible apply E_pf); (· rfl); (· first | (conv => lhs; whnf) | rfl))
      | ((with_reducible apply E_len); (· rfl))
      | ((with_reducible apply E_iad); (· rfl); (· rfl); (· rfl); (· rfl); (· omega); (intro y hy; (try rw [Int.toNat_natCast] at hy)))
      | ((with_reducible apply E_op0); (· rfl); (· first | (conv => lhs; whnf) | rfl))
      | ((with_reducible apply E_op); (· rfl); (· first | (conv => lhs; whnf) | rfl); (· first | (conv => lhs; whnf) | rfl))
      | ((with_reducible apply E_do); (· rfl); (· first | (conv => lhs; whnf) | rfl))
      | ((with_reducible apply E_fin); (· first | (conv => lhs; whnf) | rfl))
      | with_reducible refine E_regp ?_ | ((with_reducible refine And.intro (a := okLog _ _) ?_ ?_); (· simp [okLog, nthL, okPair]))
      | with_reducible refine E_skip ?_ | with_reducible refine E_block ?_ | with_reducible refine E_exit ?_ | with_reducible refine E_ret ?_ | with_reducible refine E_the ?_ | with_reducible refine E_thr ?_
      | with_reducible refine E_bln ?_ | with_reducible refine E_ble ?_ | ((with_reducible refine E_blo ?_ ?_); (· rfl)) | with_reducible refine E_blr ?_
      | ((with_reducible apply E_ct); (· rfl)) | ((with_reducible apply E_cf); (· rfl)) | ((with_reducible apply E_cs); (· rfl); all_goals (intro h; (try rw [h]); (try simp only [decide_eq_true_eq, decide_eq_false_iff_not, beq_iff_eq, bne_iff_ne, beq_eq_false_iff_ne, bne_eq_false_iff_eq, ge_iff_le, gt_iff_lt, Bool.not_true, Bool.not_false] at h))))
    exact ⟨trivial, wk_nil ⟨rfl, Tab.blw 0 t, rfl, rfl, rfl, rfl, trivial⟩⟩
  refine E_cut [(3, .cptr t.av.cells 0), (4, .int .i64 at_)] [] True ?_ (fun _ => ?_)
  · repeat' (first
      | with_reducible refine E_seq ?_ | with_reducible refine E_reg ?_ | with_reducible refine E_thn ?_ | with_reducible refine E_nil ?_
      | ((with_reducible apply E_mv); (· first | (conv => lhs; whnf) | rfl))
      | ((with_reducible apply E_gh); (· rfl)) | ((with_reducible apply E_gm); (· rfl)) | ((with_reducible apply E_gz); (· rfl)) | ((with_reducible apply E_gs); (· rfl); all_goals (intro h; (try rw [h]); (try simp only [decide_eq_true_eq, decide_eq_false_iff_not, beq_iff_eq, bne_iff_ne, beq_eq_false_iff_ne, bne_eq_false_iff_eq, ge_iff_le, gt_iff_lt, Bool.not_true, Bool.not_false] at h)))
      | ((with_reducible apply E_pt); (· rfl); (· first | (conv => lhs; whnf) | rfl))
      | ((with_reducible apply E_pf); (· rfl); (· first | (conv => lhs; whnf) | rfl))
      | ((with_reducible apply E_len); (· rfl))
      | ((with_reducible apply E_iad); (· rfl); (· rfl); (· rfl); (· rfl); (· omega); (intro y hy; (try rw [Int.toNat_natCast] at hy)))
      | ((with_reducible apply E_op0); (· rfl); (· first | (conv => lhs; whnf) | rfl))
      | ((with_reducible apply E_op); (· rfl); (· first | (conv => lhs; whnf) | rfl); (· first | (conv => lhs; whnf) | rfl))
      | ((with_reducible apply E_do); (· rfl); (· first | (conv => lhs; whnf) | rfl))
      | ((with_reducible apply E_fin); (· first | (conv => lhs; whnf) | rfl))
      | with_reducible refine E_regp ?_ | ((with_reducible refine And.intro (a := okLog _ _) ?_ ?_); (· simp [okLog, nthL, okPair]))
      | with_reducible refine E_skip ?_ | with_reducible refine E_block ?_ | with_reducible refine E_exit ?_ | with_reducible refine E_ret ?_ | with_reducible refine E_the ?_ | with_reducible refine E_thr ?_
      | with_reducible refine E_bln ?_ | with_reducible refine E_ble ?_ | ((with_reducible refine E_blo ?_ ?_); (· rfl)) | with_reducible refine E_blr ?_
      | ((with_reducible apply E_ct); (· rfl)) | ((with_reducible apply E_cf); (· rfl)) | ((with_reducible apply E_cs); (· rfl); all_goals (intro h; (try rw [h]); (try simp only [decide_eq_true_eq, decide_eq_false_iff_not, beq_iff_eq, bne_iff_ne, beq_eq_false_iff_ne, bne_eq_false_iff_eq, ge_iff_le, gt_iff_lt, Bool.not_true, Bool.not_false] at h))))
    refine E_loop (ι := Nat × Nat) (fun i => [(3, .cptr t.av.cells 0), (4, .int .i64 at_), (8, .int .i64 i.2), (9, .int .i64 i.1)]) (fun _ => []) (fun i => (i.1 : Int) ≤ at_ ∧ ((i.1 : Int) < at_ → i.2 < l.length ∧ eA l i.2 ≤ i.1 ∧ (i.1 : Int) ≤ eA l (i.2 + 1))) (fun i => at_.toNat - i.1) (2, 0) ⟨by simp only; omega, fun h => ?_⟩ (wk_nil ?_) ?_
    · simp only at h ⊢
      have h0 : 0 < l.length := by
        rcases Nat.eq_zero_or_pos l.length with h' | h'
        · rw [h'] at hat; omega
        · exact h'
      have e : eA l 0 < eA l (0 + 1) := hstep 0 h0
      refine ⟨h0, by omega, ?_⟩
      show ((2 : Nat) : Int) ≤ eA l (0 + 1)
      omega
    · exact ⟨rfl, Tab.blw 0 t, rfl, rfl, rfl, rfl, rfl, rfl, trivial⟩
    rintro ⟨k, w⟩ ⟨hk, hkw⟩
    simp only at hk hkw ⊢
    repeat' (first
      | with_reducible refine E_seq ?_ | with_reducible refine E_reg ?_ | with_reducible refine E_thn ?_ | with_reducible refine E_nil ?_
      | ((with_reducible apply E_mv); (· first | (conv => lhs; whnf) | rfl))
      | ((with_reducible apply E_gh); (· rfl)) | ((with_reducible apply E_gm); (· rfl)) | ((with_reducible apply E_gz); (· rfl)) | ((with_reducible apply E_gs); (· rfl); all_goals (intro h; (try rw [h]); (try simp only [decide_eq_true_eq, decide_eq_false_iff_not, beq_iff_eq, bne_iff_ne, beq_eq_false_iff_ne, bne_eq_false_iff_eq, ge_iff_le, gt_iff_lt, Bool.not_true, Bool.not_false] at h)))
      | ((with_reducible apply E_pt); (· rfl); (· first | (conv => lhs; whnf) | rfl))
      | ((with_reducible apply E_pf); (· rfl); (· first | (conv => lhs; whnf) | rfl))
      | ((with_reducible apply E_len); (· rfl))
      | ((with_reducible apply E_iad); (· rfl); (· rfl); (· rfl); (· rfl); (· omega); (intro y hy; (try rw [Int.toNat_natCast] at hy)))
      | ((with_reducible apply E_op0); (· rfl); (· first | (conv => lhs; whnf) | rfl))
      | ((with_reducible apply E_op); (· rfl); (· first | (conv => lhs; whnf) | rfl); (· first | (conv => lhs; whnf) | rfl))
      | ((with_reducible apply E_do); (· rfl); (· first | (conv => lhs; whnf) | rfl))
      | ((with_reducible apply E_fin); (· first | (conv => lhs; whnf) | rfl))
      | with_reducible refine E_regp ?_ | ((with_reducible refine And.intro (a := okLog _ _) ?_ ?_); (· simp [okLog, nthL, okPair]))
      | with_reducible refine E_skip ?_ | with_reducible refine E_block ?_ | with_reducible refine E_exit ?_ | with_reducible refine E_ret ?_ | with_reducible refine E_the ?_ | with_reducible refine E_thr ?_
      | with_reducible refine E_bln ?_ | with_reducible refine E_ble ?_ | ((with_reducible refine E_blo ?_ ?_); (· rfl)) | with_reducible refine E_blr ?_
      | ((with_reducible apply E_ct); (· rfl)) | ((with_reducible apply E_cf); (· rfl)) | ((with_reducible apply E_cs); (· rfl); all_goals (intro h; (try rw [h]); (try simp only [decide_eq_true_eq, decide_eq_false_iff_not, beq_iff_eq, bne_iff_ne, beq_eq_false_iff_ne, bne_eq_false_iff_eq, ge_iff_le, gt_iff_lt, Bool.not_true, Bool.not_false] at h))))
    · have hkat : (k : Int) < at_ := h
      refine E_loop (ι := Nat) (fun v => [(3, .cptr t.av.cells 0), (4, .int .i64 at_), (8, .int .i64 v), (9, .int .i64 k)]) (fun _ => []) (fun v => v < l.length ∧ eA l v ≤ k ∧ (k : Int) ≤ eA l (v + 1)) (fun v => l.length - v) w (hkw h) (wk_nil ?_) ?_
      · exact ⟨rfl, Tab.blw 0 t, rfl, rfl, rfl, rfl, rfl, rfl, trivial⟩
      rintro v ⟨hv1, hv2, hv3⟩
      repeat' (first
        | with_reducible refine E_seq ?_ | with_reducible refine E_reg ?_ | with_reducible refine E_thn ?_ | with_reducible refine E_nil ?_
        | ((with_reducible apply E_mv); (· first | (conv => lhs; whnf) | rfl))
        | ((with_reducible apply E_gh); (· rfl)) | ((with_reducible apply E_gm); (· rfl)) | ((with_reducible apply E_gz); (· rfl)) | ((with_reducible apply E_gs); (· rfl); all_goals (intro h; (try rw [h]); (try simp only [decide_eq_true_eq, decide_eq_false_iff_not, beq_iff_eq, bne_iff_ne, beq_eq_false_iff_ne, bne_eq_false_iff_eq, ge_iff_le, gt_iff_lt, Bool.not_true, Bool.not_false] at h)))
        | ((with_reducible apply E_pt); (· rfl); (· first | (conv => lhs; whnf) | rfl))
        | ((with_reducible apply E_pf); (· rfl); (· first | (conv => lhs; whnf) | rfl))
        | ((with_reducible apply E_len); (· rfl))
        | ((with_reducible apply E_iad); (· rfl); (· rfl); (· rfl); (· rfl); (· omega); (intro y hy; (try rw [Int.toNat_natCast] at hy)))
        | ((with_reducible apply E_op0); (· rfl); (· first | (conv => lhs; whnf) | rfl))
        | ((with_reducible apply E_op); (· rfl); (· first | (conv => lhs; whnf) | rfl); (· first | (conv => lhs; whnf) | rfl))
        | ((with_reducible apply E_do); (· rfl); (· first | (conv => lhs; whnf) | rfl))
        | ((with_reducible apply E_fin); (· first | (conv => lhs; whnf) | rfl))
        | with_reducible refine E_regp ?_ | ((with_reducible refine And.intro (a := okLog _ _) ?_ ?_); (· simp [okLog, nthL, okPair]))
        | with_reducible refine E_skip ?_ | with_reducible refine E_block ?_ | with_reducible refine E_exit ?_ | with_reducible refine E_ret ?_ | with_reducible refine E_the ?_ | with_reducible refine E_thr ?_
        | with_reducible refine E_bln ?_ | with_reducible refine E_ble ?_ | ((with_reducible refine E_blo ?_ ?_); (· rfl)) | with_reducible refine E_blr ?_
        | ((with_reducible apply E_ct); (· rfl)) | ((with_reducible apply E_cf); (· rfl)) | ((with_reducible apply E_cs); (· rfl); all_goals (intro h; (try rw [h]); (try simp only [decide_eq_true_eq, decide_eq_false_iff_not, beq_iff_eq, bne_iff_ne, beq_eq_false_iff_ne, bne_eq_false_iff_eq, ge_iff_le, gt_iff_lt, Bool.not_true, Bool.not_false] at h))))
      · have hy2 := hrow v y (htf ▸ hy)
        have hv4 : v + 1 < l.length := by
          rcases Nat.lt_or_ge (v + 1) l.length with h' | h'
          · exact h'
          · have e : v + 1 = l.length := by omega
            rw [e] at hv3 hy2; omega
        have := hstep (v + 1) hv4
        refine ⟨v + 1, ⟨hv4, by omega, by omega⟩, by omega, wk_nil ⟨rfl, Tab.blw 0 t, rfl, rfl, congrArg _ (by rw [wrap_i64 (by omega)]; omega), rfl, rfl, rfl, trivial⟩⟩
      · have hy2 := hrow v y (htf ▸ hy)
        have hc := hfin k v hv1 hv2 (by omega)
        repeat' (first
          | ((with_reducible apply E_call hc); (· rfl); (· simp [blwL, AV.blw, Tab.blw]); (· rfl))
          | with_reducible refine E_seq ?_ | with_reducible refine E_reg ?_ | with_reducible refine E_thn ?_ | with_reducible refine E_nil ?_
          | ((with_reducible apply E_mv); (· first | (conv => lhs; whnf) | rfl))
          | ((with_reducible apply E_gh); (· rfl)) | ((with_reducible apply E_gm); (· rfl)) | ((with_reducible apply E_gz); (· rfl)) | ((with_reducible apply E_gs); (· rfl); all_goals (intro h; (try rw [h]); (try simp only [decide_eq_true_eq, decide_eq_false_iff_not, beq_iff_eq, bne_iff_ne, beq_eq_false_iff_ne, bne_eq_false_iff_eq, ge_iff_le, gt_iff_lt, Bool.not_true, Bool.not_false] at h)))
          | ((with_reducible apply E_pt); (· rfl); (· first | (conv => lhs; whnf) | rfl))
          | ((with_reducible apply E_pf); (· rfl); (· first | (conv => lhs; whnf) | rfl))
          | ((with_reducible apply E_len); (· rfl))
          | ((with_reducible apply E_iad); (· rfl); (· rfl); (· rfl); (· rfl); (· omega); (intro y hy; (try rw [Int.toNat_natCast] at hy)))
          | ((with_reducible apply E_op0); (· rfl); (· first | (conv => lhs; whnf) | rfl))
          | ((with_reducible apply E_op); (· rfl); (· first | (conv => lhs; whnf) | rfl); (· first | (conv => lhs; whnf) | rfl))
          | ((with_reducible apply E_do); (· rfl); (· first | (conv => lhs; whnf) | rfl))
          | ((with_reducible apply E_fin); (· first | (conv => lhs; whnf) | rfl))
          | with_reducible refine E_regp ?_ | ((with_reducible refine And.intro (a := okLog _ _) ?_ ?_); (· simp [okLog, nthL, okPair]))
          | with_reducible refine E_skip ?_ | with_reducible refine E_block ?_ | with_reducible refine E_exit ?_ | with_reducible refine E_ret ?_ | with_reducible refine E_the ?_ | with_reducible refine E_thr ?_
          | with_reducible refine E_bln ?_ | with_reducible refine E_ble ?_ | ((with_reducible refine E_blo ?_ ?_); (· rfl)) | with_reducible refine E_blr ?_
          | ((with_reducible apply E_ct); (· rfl)) | ((with_reducible apply E_cf); (· rfl)) | ((with_reducible apply E_cs); (· rfl); all_goals (intro h; (try rw [h]); (try simp only [decide_eq_true_eq, decide_eq_false_iff_not, beq_iff_eq, bne_iff_ne, beq_eq_false_iff_ne, bne_eq_false_iff_eq, ge_iff_le, gt_iff_lt, Bool.not_true, Bool.not_false] at h))))
        · refine ⟨(k + 1, v), ⟨by simp only; omega, fun h => ⟨hv1, by simp only; omega, by simp only; omega⟩⟩, by simp only; omega, wk_nil ⟨rfl, Tab.blw 0 t, rfl, rfl, rfl, rfl, congrArg _ (by rw [wrap_i64 (by omega)]; simp only; omega), rfl, trivial⟩⟩
        · exact absurd rfl h
    · exact ⟨trivial, wk_nil ⟨rfl, Tab.blw 0 t, rfl, rfl, trivial⟩⟩
  repeat' (first
    | ((with_reducible apply E_call f1); (· rfl); (· simp [blwL, AV.blw, Tab.blw]); (· rfl))
    | ((with_reducible apply E_call fA); (· rfl); (· simp [blwL, AV.blw, Tab.blw]); (· rfl))
    | with_reducible refine E_seq ?_ | with_reducible refine E_reg ?_ | with_reducible refine E_thn ?_ | with_reducible refine E_nil ?_
    | ((with_reducible apply E_mv); (· first | (conv => lhs; whnf) | rfl))
    | ((with_reducible apply E_gh); (· rfl)) | ((with_reducible apply E_gm); (· rfl)) | ((with_reducible apply E_gz); (· rfl)) | ((with_reducible apply E_gs); (· rfl); all_goals (intro h; (try rw [h]); (try simp only [decide_eq_true_eq, decide_eq_false_iff_not, beq_iff_eq, bne_iff_ne, beq_eq_false_iff_ne, bne_eq_false_iff_eq, ge_iff_le, gt_iff_lt, Bool.not_true, Bool.not_false] at h)))
    | ((with_reducible apply E_pt); (· rfl); (· first | (conv => lhs; whnf) | rfl))
    | ((with_reducible apply E_pf); (· rfl); (· first | (conv => lhs; whnf) | rfl))
    | ((with_reducible apply E_len); (· rfl))
    | ((with_reducible apply E_iad); (· rfl); (· rfl); (· rfl); (· rfl); (· omega); (intro y hy; (try rw [Int.toNat_natCast] at hy)))
    | ((with_reducible apply E_op0); (· rfl); (· first | (conv => lhs; whnf) | rfl))
    | ((with_reducible apply E_op); (· rfl); (· first | (conv => lhs; whnf) | rfl); (· first | (conv => lhs; whnf) | rfl))
    | ((with_reducible apply E_do); (· rfl); (· first | (conv => lhs; whnf) | rfl))
    | ((with_reducible apply E_fin); (· first | (conv => lhs; whnf) | rfl))
    | with_reducible refine E_regp ?_ | ((with_reducible refine And.intro (a := okLog _ _) ?_ ?_); (· simp [okLog, nthL, okPair]))
    | with_reducible refine E_skip ?_ | with_reducible refine E_block ?_ | with_reducible refine E_exit ?_ | with_reducible refine E_ret ?_ | with_reducible refine E_the ?_ | with_reducible refine E_thr ?_
    | with_reducible refine E_bln ?_ | with_reducible refine E_ble ?_ | ((with_reducible refine E_blo ?_ ?_); (· rfl)) | with_reducible refine E_blr ?_
    | ((with_reducible apply E_ct); (· rfl)) | ((with_reducible apply E_cf); (· rfl)) | ((with_reducible apply E_cs); (· rfl); all_goals (intro h; (try rw [h]); (try simp only [decide_eq_true_eq, decide_eq_false_iff_not, beq_iff_eq, bne_iff_ne, beq_eq_false_iff_ne, bne_eq_false_iff_eq, ge_iff_le, gt_iff_lt, Bool.not_true, Bool.not_false] at h))))
  rfl
end Go.Proofs.Ytnmicfhdpnabcaa
