/- Contract of Encode. -/
import Derived.Test.YtnmicfhdpnabcaaT3
namespace Go.Proofs.Ytnmicfhdpnabcaa
open Go Go.Ab
set_option maxRecDepth 20000
set_option linter.unusedVariables false
set_option linter.unusedSimpArgs false

theorem number_one (ver : Nat) (bs : List Int) (v : Int) (hb : bs.length ≤ 1099511627776) :
    Ev Try.prog 29 [.ref 0 ver 0 bs.length none, .int .i64 v] (hp [.arr ver (bs.map bav)]) (.ref 0 (ver + 1) 0 (bs ++ bytes4 v).length none) (hp [.arr (ver + 1) ((bs ++ bytes4 v).map bav)]) :=
  number_ref (S := [.arr ver (bs.map bav)]) (o := 0) v rfl hb
theorem number_first (v : Int) : Ev Try.prog 29 [.nils, .int .i64 v] (hp []) (.ref 0 0 0 (bytes4 v).length none) (hp [.arr 0 ((bytes4 v).map bav)]) := number_nil [] v

theorem bytes4_len (v : Int) : (bytes4 v).length = 4 := rfl
theorem bavs_blw (n : Nat) (l : List Int) : blwL n (l.map bav) = true := blwL_map (bav.blw n) l

def head5 (r : Row) : List Int := [r.start, r.stop, r.size, IntKind.i64.wrap (r.resume + 1), (r.params.length : Int)]
def savesB (l : List Save) : List Int := l.flatMap fun s => bytes4 s.reg ++ bytes4 s.off
def rowB (r : Row) : List Int := (head5 r).flatMap bytes4 ++ r.params.flatMap (fun k => bytes4 (IntKind.i64.wrap k)) ++ bytes4 r.saves.length ++ savesB r.saves
def siteB (s : Site) : List Int := bytes4 s.place ++ bytes4 s.live.length ++ s.live.flatMap bytes4
def tabB (t : Tab) : List Int := bytes4 t.funcs.length ++ t.funcs.flatMap rowB ++ bytes4 t.sites.length ++ t.sites.flatMap siteB
def encS (t : Tab) : AV := if tabOK t = true then .tup [.sl false 1 ((tabB t).map bav), .int .i64 0] else .tup [.nils, .int .i64 190]

theorem take_succ' {α : Type} {l : List α} {i : Nat} {y : α} (h : l[i]? = some y) : l.take (i + 1) = l.take i ++ [y] := by
  rw [List.take_add_one, h]; rfl

theorem encS_blw (t : Tab) : (encS t).blw 0 = true := by
  unfold encS; split
  · simp [AV.blw, blwL, bavs_blw]
  · rfl

theorem flat_le {α : Type} {g : α → List Int} {c : Nat} : ∀ {l : List α}, (∀ x ∈ l, (g x).length ≤ c) → (l.flatMap g).length ≤ c * l.length
  | [], _ => by simp
  | x :: r, h => by
    have h1 := h x (by simp)
    have h2 := flat_le (l := r) (fun y hy => h y (by simp [hy]))
    simp only [List.flatMap_cons, List.length_append, List.length_cons, Nat.mul_add, Nat.mul_one]; omega

/-- The bytes so far: object 0. -/
def acc (b : List Int) : AV := .ref 0 (b.length / 4 - 1) 0 b.length none
def heapB (b : List Int) : List Ob := [.arr (b.length / 4 - 1) (b.map bav)]
theorem number_acc (b : List Int) (v : Int) (h : 4 ≤ b.length ∧ b.length ≤ 1099511627776) : Ev Try.prog 29 [acc b, .int .i64 v] (hp (heapB b)) (acc (b ++ bytes4 v)) (hp (heapB (b ++ bytes4 v))) := by
  have := number_one (b.length / 4 - 1) b v h.2
  have e : b.length / 4 - 1 + 1 = (b ++ bytes4 v).length / 4 - 1 := by rw [List.length_append, bytes4_len]; omega
  unfold acc heapB
  rw [← e]; exact this
theorem wk_sub' {S0 S S' : List Ob} {fr fr' : Fr} (e : S = S') (h : subF fr fr') : Wk S0 fr S fr' S' := by subst e; exact wk_sub h
theorem wk_out {fr : Fr} {b : List Int} (h2 : Fr.get fr 2 = acc b) (h3 : Fr.get fr 3 = .int .i64 0) : Wk [] fr (heapB b) [(2, .sl false 1 (b.map bav)), (3, .int .i64 0)] [] := by
  have hone : (b.map bav).all AV.one = true := by simp [bav, AV.one]
  have hle := AVle.ref (fz := some (0, b.length / 4 - 1, b.map bav)) (o := 0) (ver := b.length / 4 - 1) (n := b.length) (e := none) (cs := b.map bav) rfl hone (by simp [szOf])
  have ht : elemsOf none b.length (b.map bav) = b.map bav := by simp only [elemsOf]; exact List.take_of_length_le (by simp)
  rw [ht] at hle
  refine wk_trans (fr' := [(2, .sl false 1 (b.map bav)), (3, .int .i64 0)]) (S' := [.dead (b.length / 4 - 1)]) (wk_le (some (0, b.length / 4 - 1, b.map bav)) (fun o => ?_) (fun o v c e => ?_) (leF_get ⟨?_, ?_, trivial⟩)) (wk_nil ⟨rfl, bavs_blw 0 b, rfl, rfl, trivial⟩)
  · cases o with
    | zero => exact .inr (.inl ⟨_, _, rfl, rfl⟩)
    | succ o => exact .inr (.inr (.inr ⟨rfl, rfl⟩))
  · cases e; exact ⟨rfl, rfl⟩
  · rw [h2]; exact hle
  · rw [h3]; exact .refl _
theorem number_new (v : Int) : Ev Try.prog 29 [.nils, .int .i64 v] (hp []) (acc (bytes4 v)) (hp (heapB (bytes4 v))) := by
  have := number_first v
  unfold acc heapB
  rw [bytes4_len] at this ⊢
  exact this
theorem heapB_blw (b : List Int) : ∀ o v c, o < (heapB b).length → hp (heapB b) o = .arr v c → blwL (heapB b).length c = true := by
  intro o v c ho h
  have : o = 0 := by simp [heapB] at ho; exact ho
  subst this
  cases h
  exact bavs_blw _ _

theorem PureEv_fz {P : Program} {f n : Nat} {ts : List Nat} {fc : FC} (hm : P.follows .mixedOrders = true) (hfn : Fn2 P f n ts fc) {args : List AV} (hn : args.length ≤ n) {r : AV} (ow : List Nat)
    (h : VT P [] ow fc (initFr 0 args) [] (fun e fr S => isRet e ∧ ∃ fr2, Wk [] fr S fr2 [] ∧ retAV ts (Fr.get fr2) = r)) : PureEv P f args r := by
  have := Ev_of (S := []) (S' := []) hm hfn hn ow h
  rw [hp_nil] at this
  exact this

theorem encode_ev (t : Tab) (ht : t.small) : PureEv Try.prog 15 [t.av] (encS t) := by
  have hl1 : (t.funcs.map Row.av).length = t.funcs.length := List.length_map ..
  have hl2 : (t.sites.map Site.av).length = t.sites.length := List.length_map ..
  refine PureEv_fz mixed fn15 (by simp) [6, 12, 14] ?_
  unfold fc15
  refine E_cut [(1, .cptr t.av.cells 0)] [] True ?_ (fun _ => ?_)
  · repeat' (first
      | with_reducible refine E_seq ?_ | with_reducible refine E_reg ?_ | with_reducible refine E_thn ?_ | with_reducible refine E_nil ?_
      | ((with_reducible apply E_mv); (· first | (conv => lhs; whnf) | rfl))
      | ((with_reducible apply E_gh); (· rfl)) | ((with_reducible apply E_gm); (· rfl)) | ((with_reducible apply E_gz); (· rfl)) | ((with_reducible apply E_gs); (· rfl); all_goals (intro h; (try rw [h]); (try simp only [decide_eq_true_eq, decide_eq_false_iff_not, beq_iff_eq, bne_iff_ne, beq_eq_false_iff_ne, bne_eq_false_iff_eq, ge_iff_le, gt_iff_lt, Bool.not_true, Bool.not_false] at h)))
      | ((with_reducible apply E_pt); (· rfl); (· first | (conv => lhs; whnf) | rfl))
      | ((with_reducible apply E_pf); (· rfl); (· first | (conv => lhs; whnf) | rfl))
      | ((with_reducible apply E_len); (· rfl))
      | ((with_reducible apply E_iad); (· rfl); (· rfl); (· rfl); (· rfl); (· omega); (intro y hy; (try rw [Int.toNat_natCast] at hy)))
      | ((with_reducible apply E_op0); (· rfl); (· first | (conv => lhs; whnf) | rfl))
      | ((with_reducible apply E_op); (· rfl); (· first | (conv => lhs; whnf) | rfl); (· first | (conv => lhs; whnf) | rfl))
      | ((with_reducible apply E_do); (· rfl); (· first | (conv => lhs; whnf) | rfl))
      | ((with_reducible apply E_fin); (· first | (conv => lhs; whnf) | rfl))
      | with_reducible refine E_regp ?_ | ((with_reducible refine And.intro (a := okLog _ _) ?_ ?_); (· simp [okLog, nthL, okPair]))
      | with_reducible refine E_skip ?_ | with_reducible refine E_block ?_ | with_reducible refine E_exit ?_ | with_reducible refine E_ret ?_ | with_reducible refine E_the ?_ | with_reducible refine E_thr ?_
      | with_reducible refine E_bln ?_ | with_reducible refine E_ble ?_ | ((with_reducible refine E_blo ?_ ?_); (· rfl)) | with_reducible refine E_blr ?_
      | ((with_reducible apply E_ct); (· rfl)) | ((with_reducible apply E_cf); (· rfl)) | ((with_reducible apply E_cs); (· rfl); all_goals (intro h; (try rw [h]); (try simp only [decide_eq_true_eq, decide_eq_false_iff_not, beq_iff_eq, bne_iff_ne, beq_eq_false_iff_ne, bne_eq_false_iff_eq, ge_iff_le, gt_iff_lt, Bool.not_true, Bool.not_false] at h))))
    exact ⟨trivial, wk_nil ⟨rfl, Tab.blw 0 t, trivial⟩⟩
  refine E_cut [(1, .cptr t.av.cells 0)] [] (tabOK t = true) ?_ (fun hok => ?_)
  · repeat' (first
      | ((with_reducible apply E_call (check_ev t ht)); (· rfl); (· simp [blwL, AV.blw, Tab.blw]); (· rfl))
      | with_reducible refine E_seq ?_ | with_reducible refine E_reg ?_ | with_reducible refine E_thn ?_ | with_reducible refine E_nil ?_
      | ((with_reducible apply E_mv); (· first | (conv => lhs; whnf) | rfl))
      | ((with_reducible apply E_gh); (· rfl)) | ((with_reducible apply E_gm); (· rfl)) | ((with_reducible apply E_gz); (· rfl)) | ((with_reducible apply E_gs); (· rfl); all_goals (intro h; (try rw [h]); (try simp only [decide_eq_true_eq, decide_eq_false_iff_not, beq_iff_eq, bne_iff_ne, beq_eq_false_iff_ne, bne_eq_false_iff_eq, ge_iff_le, gt_iff_lt, Bool.not_true, Bool.not_false] at h)))
      | ((with_reducible apply E_pt); (· rfl); (· first | (conv => lhs; whnf) | rfl))
      | ((with_reducible apply E_pf); (· rfl); (· first | (conv => lhs; whnf) | rfl))
      | ((with_reducible apply E_len); (· rfl))
      | ((with_reducible apply E_iad); (· rfl); (· rfl); (· rfl); (· rfl); (· omega); (intro y hy; (try rw [Int.toNat_natCast] at hy)))
      | ((with_reducible apply E_op0); (· rfl); (· first | (conv => lhs; whnf) | rfl))
      | ((with_reducible apply E_op); (· rfl); (· first | (conv => lhs; whnf) | rfl); (· first | (conv => lhs; whnf) | rfl))
      | ((with_reducible apply E_do); (· rfl); (· first | (conv => lhs; whnf) | rfl))
      | ((with_reducible apply E_fin); (· first | (conv => lhs; whnf) | rfl))
      | with_reducible refine E_regp ?_ | ((with_reducible refine And.intro (a := okLog _ _) ?_ ?_); (· simp [okLog, nthL, okPair]))
      | with_reducible refine E_skip ?_ | with_reducible refine E_block ?_ | with_reducible refine E_exit ?_ | with_reducible refine E_ret ?_ | with_reducible refine E_the ?_ | with_reducible refine E_thr ?_
      | with_reducible refine E_bln ?_ | with_reducible refine E_ble ?_ | ((with_reducible refine E_blo ?_ ?_); (· rfl)) | with_reducible refine E_blr ?_
      | ((with_reducible apply E_ct); (· rfl)) | ((with_reducible apply E_cf); (· rfl)) | ((with_reducible apply E_cs); (· rfl); all_goals (intro h; (try rw [h]); (try simp only [decide_eq_true_eq, decide_eq_false_iff_not, beq_iff_eq, bne_iff_ne, beq_eq_false_iff_ne, bne_eq_false_iff_eq, ge_iff_le, gt_iff_lt, Bool.not_true, Bool.not_false] at h))))
    · have hno : tabOK t = false := by
        cases hh : tabOK t with
        | false => rfl
        | true => unfold checkS at h; rw [hh] at h; simp at h
      refine ⟨trivial, [(2, .nils), (3, .int .i64 190)], wk_nil ⟨rfl, rfl, rfl, rfl, trivial⟩, ?_⟩
      unfold encS; rw [hno]; rfl
    · refine ⟨?_, wk_nil ⟨rfl, Tab.blw 0 t, trivial⟩⟩
      cases hh : tabOK t with
      | true => rfl
      | false => unfold checkS at h; rw [hh] at h; simp at h
  have hlen : t.funcs.length ≤ 16 ∧ t.sites.length ≤ 65536 := by
    unfold tabOK at hok; simp at hok; omega
  refine E_cut [(1, .cptr t.av.cells 0), (4, acc (bytes4 t.funcs.length))] (heapB (bytes4 t.funcs.length)) True ?_ (fun _ => ?_)
  · repeat' (first
      | ((with_reducible apply E_callE (number_new _)); (· rfl))
      | with_reducible refine E_seq ?_ | with_reducible refine E_reg ?_ | with_reducible refine E_thn ?_ | with_reducible refine E_nil ?_
      | ((with_reducible apply E_mv); (· first | (conv => lhs; whnf) | rfl))
      | ((with_reducible apply E_gh); (· rfl)) | ((with_reducible apply E_gm); (· rfl)) | ((with_reducible apply E_gz); (· rfl)) | ((with_reducible apply E_gs); (· rfl); all_goals (intro h; (try rw [h]); (try simp only [decide_eq_true_eq, decide_eq_false_iff_not, beq_iff_eq, bne_iff_ne, beq_eq_false_iff_ne, bne_eq_false_iff_eq, ge_iff_le, gt_iff_lt, Bool.not_true, Bool.not_false] at h)))
      | ((with_reducible apply E_pt); (· rfl); (· first | (conv => lhs; whnf) | rfl))
      | ((with_reducible apply E_pf); (· rfl); (· first | (conv => lhs; whnf) | rfl))
      | ((with_reducible apply E_len); (· rfl))
      | ((with_reducible apply E_iad); (· rfl); (· rfl); (· rfl); (· rfl); (· omega); (intro y hy; (try rw [Int.toNat_natCast] at hy)))
      | ((with_reducible apply E_op0); (· rfl); (· first | (conv => lhs; whnf) | rfl))
      | ((with_reducible apply E_op); (· rfl); (· first | (conv => lhs; whnf) | rfl); (· first | (conv => lhs; whnf) | rfl))
      | ((with_reducible apply E_do); (· rfl); (· first | (conv => lhs; whnf) | rfl))
      | ((with_reducible apply E_fin); (· first | (conv => lhs; whnf) | rfl))
      | with_reducible refine E_regp ?_ | ((with_reducible refine And.intro (a := okLog _ _) ?_ ?_); (· simp [okLog, nthL, okPair]))
      | with_reducible refine E_skip ?_ | with_reducible refine E_block ?_ | with_reducible refine E_exit ?_ | with_reducible refine E_ret ?_ | with_reducible refine E_the ?_ | with_reducible refine E_thr ?_
      | with_reducible refine E_bln ?_ | with_reducible refine E_ble ?_ | ((with_reducible refine E_blo ?_ ?_); (· rfl)) | with_reducible refine E_blr ?_
      | ((with_reducible apply E_ct); (· rfl)) | ((with_reducible apply E_cf); (· rfl)) | ((with_reducible apply E_cs); (· rfl); all_goals (intro h; (try rw [h]); (try simp only [decide_eq_true_eq, decide_eq_false_iff_not, beq_iff_eq, bne_iff_ne, beq_eq_false_iff_ne, bne_eq_false_iff_eq, ge_iff_le, gt_iff_lt, Bool.not_true, Bool.not_false] at h))))
    refine ⟨trivial, wk_sub ?_⟩
    exact ⟨.inl rfl, .inl rfl, trivial⟩
  have hR : ∀ r ∈ t.funcs, (rowB r).length ≤ 16777216 := fun r hr => by
    have h1 := ht.params r hr
    have h2 := ht.saves r hr
    have h3 := flat_le (l := r.params) (g := fun k => bytes4 (IntKind.i64.wrap k)) (c := 4) (fun _ _ => Nat.le_refl _)
    have h4 := flat_le (l := r.saves) (g := fun s => bytes4 s.reg ++ bytes4 s.off) (c := 8) (fun _ _ => Nat.le_refl _)
    have h5 : ((head5 r).flatMap bytes4).length = 20 := rfl
    unfold rowB savesB
    simp only [List.length_append, h5, bytes4_len]
    omega
  have hb0 : ∀ i, i ≤ t.funcs.length → 4 ≤ (bytes4 t.funcs.length ++ (t.funcs.take i).flatMap rowB).length ∧ (bytes4 t.funcs.length ++ (t.funcs.take i).flatMap rowB).length ≤ 4 + 16777216 * 16 := fun i hi => by
    have := flat_le (l := t.funcs.take i) (g := rowB) (c := 16777216) (fun x hx => hR x (List.mem_of_mem_take hx))
    have h2 : (t.funcs.take i).length ≤ 16 := by simp; omega
    rw [List.length_append, bytes4_len]
    omega
  refine E_cut [(1, .cptr t.av.cells 0), (4, acc (bytes4 t.funcs.length ++ t.funcs.flatMap rowB))] (heapB (bytes4 t.funcs.length ++ t.funcs.flatMap rowB)) True ?_ (fun _ => ?_)
  · repeat' (first
      | with_reducible refine E_seq ?_ | with_reducible refine E_reg ?_ | with_reducible refine E_thn ?_ | with_reducible refine E_nil ?_
      | ((with_reducible apply E_mv); (· first | (conv => lhs; whnf) | rfl))
      | ((with_reducible apply E_gh); (· rfl)) | ((with_reducible apply E_gm); (· rfl)) | ((with_reducible apply E_gz); (· rfl)) | ((with_reducible apply E_gs); (· rfl); all_goals (intro h; (try rw [h]); (try simp only [decide_eq_true_eq, decide_eq_false_iff_not, beq_iff_eq, bne_iff_ne, beq_eq_false_iff_ne, bne_eq_false_iff_eq, ge_iff_le, gt_iff_lt, Bool.not_true, Bool.not_false] at h)))
      | ((with_reducible apply E_pt); (· rfl); (· first | (conv => lhs; whnf) | rfl))
      | ((with_reducible apply E_pf); (· rfl); (· first | (conv => lhs; whnf) | rfl))
      | ((with_reducible apply E_len); (· rfl))
      | ((with_reducible apply E_iad); (· rfl); (· rfl); (· rfl); (· rfl); (· omega); (intro y hy; (try rw [Int.toNat_natCast] at hy)))
      | ((with_reducible apply E_op0); (· rfl); (· first | (conv => lhs; whnf) | rfl))
      | ((with_reducible apply E_op); (· rfl); (· first | (conv => lhs; whnf) | rfl); (· first | (conv => lhs; whnf) | rfl))
      | ((with_reducible apply E_do); (· rfl); (· first | (conv => lhs; whnf) | rfl))
      | ((with_reducible apply E_fin); (· first | (conv => lhs; whnf) | rfl))
      | with_reducible refine E_regp ?_ | ((with_reducible refine And.intro (a := okLog _ _) ?_ ?_); (· simp [okLog, nthL, okPair]))
      | with_reducible refine E_skip ?_ | with_reducible refine E_block ?_ | with_reducible refine E_exit ?_ | with_reducible refine E_ret ?_ | with_reducible refine E_the ?_ | with_reducible refine E_thr ?_
      | with_reducible refine E_bln ?_ | with_reducible refine E_ble ?_ | ((with_reducible refine E_blo ?_ ?_); (· rfl)) | with_reducible refine E_blr ?_
      | ((with_reducible apply E_ct); (· rfl)) | ((with_reducible apply E_cf); (· rfl)) | ((with_reducible apply E_cs); (· rfl); all_goals (intro h; (try rw [h]); (try simp only [decide_eq_true_eq, decide_eq_false_iff_not, beq_iff_eq, bne_iff_ne, beq_eq_false_iff_ne, bne_eq_false_iff_eq, ge_iff_le, gt_iff_lt, Bool.not_true, Bool.not_false] at h))))
    refine E_loop (ι := Nat) (fun i => [(1, .cptr t.av.cells 0), (25, .sl false 6 (t.funcs.map Row.av)), (26, .int .i64 t.funcs.length), (27, .int .i64 i), (4, acc (bytes4 t.funcs.length ++ (t.funcs.take i).flatMap rowB))]) (fun i => heapB (bytes4 t.funcs.length ++ (t.funcs.take i).flatMap rowB)) (fun i => i ≤ t.funcs.length) (fun i => t.funcs.length - i) 0 (by omega) (wk_sub ?_) ?_
    · exact ⟨.inl rfl, .inl rfl, .inl rfl, .inl rfl, .inl rfl, trivial⟩
    intro i hi
    generalize hbb : bytes4 t.funcs.length ++ (t.funcs.take i).flatMap rowB = b
    have hbl := hb0 i hi
    rw [hbb] at hbl
    refine E_cut [(1, .cptr t.av.cells 0), (25, .sl false 6 (t.funcs.map Row.av)), (26, .int .i64 t.funcs.length), (27, .int .i64 i), (4, acc b), (28, .bool (decide ((i : Int) < t.funcs.length)))] (heapB b) True ?_ (fun _ => ?_)
    · repeat' (first
        | with_reducible refine E_seq ?_ | with_reducible refine E_reg ?_ | with_reducible refine E_thn ?_ | with_reducible refine E_nil ?_
        | ((with_reducible apply E_mv); (· first | (conv => lhs; whnf) | rfl))
        | ((with_reducible apply E_gh); (· rfl)) | ((with_reducible apply E_gm); (· rfl)) | ((with_reducible apply E_gz); (· rfl)) | ((with_reducible apply E_gs); (· rfl); all_goals (intro h; (try rw [h]); (try simp only [decide_eq_true_eq, decide_eq_false_iff_not, beq_iff_eq, bne_iff_ne, beq_eq_false_iff_ne, bne_eq_false_iff_eq, ge_iff_le, gt_iff_lt, Bool.not_true, Bool.not_false] at h)))
        | ((with_reducible apply E_pt); (· rfl); (· first | (conv => lhs; whnf) | rfl))
        | ((with_reducible apply E_pf); (· rfl); (· first | (conv => lhs; whnf) | rfl))
        | ((with_reducible apply E_len); (· rfl))
        | ((with_reducible apply E_iad); (· rfl); (· rfl); (· rfl); (· rfl); (· omega); (intro y hy; (try rw [Int.toNat_natCast] at hy)))
        | ((with_reducible apply E_op0); (· rfl); (· first | (conv => lhs; whnf) | rfl))
        | ((with_reducible apply E_op); (· rfl); (· first | (conv => lhs; whnf) | rfl); (· first | (conv => lhs; whnf) | rfl))
        | ((with_reducible apply E_do); (· rfl); (· first | (conv => lhs; whnf) | rfl))
        | ((with_reducible apply E_fin); (· first | (conv => lhs; whnf) | rfl))
        | with_reducible refine E_regp ?_ | ((with_reducible refine And.intro (a := okLog _ _) ?_ ?_); (· simp [okLog, nthL, okPair]))
        | with_reducible refine E_skip ?_ | with_reducible refine E_block ?_ | with_reducible refine E_exit ?_ | with_reducible refine E_ret ?_ | with_reducible refine E_the ?_ | with_reducible refine E_thr ?_
        | with_reducible refine E_bln ?_ | with_reducible refine E_ble ?_ | ((with_reducible refine E_blo ?_ ?_); (· rfl)) | with_reducible refine E_blr ?_
        | ((with_reducible apply E_ct); (· rfl)) | ((with_reducible apply E_cf); (· rfl)) | ((with_reducible apply E_cs); (· rfl); all_goals (intro h; (try rw [h]); (try simp only [decide_eq_true_eq, decide_eq_false_iff_not, beq_iff_eq, bne_iff_ne, beq_eq_false_iff_ne, bne_eq_false_iff_eq, ge_iff_le, gt_iff_lt, Bool.not_true, Bool.not_false] at h))))
      refine ⟨trivial, wk_sub ?_⟩
      exact ⟨.inl rfl, .inl rfl, .inl rfl, .inl rfl, .inl rfl, .inl rfl, trivial⟩
    refine E_cut [(1, .cptr t.av.cells 0), (25, .sl false 6 (t.funcs.map Row.av)), (26, .int .i64 t.funcs.length), (27, .int .i64 i), (4, acc b)] (heapB b) (i < t.funcs.length) ?_ (fun hlt => ?_)
    · repeat' (first
        | with_reducible refine E_seq ?_ | with_reducible refine E_reg ?_ | with_reducible refine E_thn ?_ | with_reducible refine E_nil ?_
        | ((with_reducible apply E_mv); (· first | (conv => lhs; whnf) | rfl))
        | ((with_reducible apply E_gh); (· rfl)) | ((with_reducible apply E_gm); (· rfl)) | ((with_reducible apply E_gz); (· rfl)) | ((with_reducible apply E_gs); (· rfl); all_goals (intro h; (try rw [h]); (try simp only [decide_eq_true_eq, decide_eq_false_iff_not, beq_iff_eq, bne_iff_ne, beq_eq_false_iff_ne, bne_eq_false_iff_eq, ge_iff_le, gt_iff_lt, Bool.not_true, Bool.not_false] at h)))
        | ((with_reducible apply E_pt); (· rfl); (· first | (conv => lhs; whnf) | rfl))
        | ((with_reducible apply E_pf); (· rfl); (· first | (conv => lhs; whnf) | rfl))
        | ((with_reducible apply E_len); (· rfl))
        | ((with_reducible apply E_iad); (· rfl); (· rfl); (· rfl); (· rfl); (· omega); (intro y hy; (try rw [Int.toNat_natCast] at hy)))
        | ((with_reducible apply E_op0); (· rfl); (· first | (conv => lhs; whnf) | rfl))
        | ((with_reducible apply E_op); (· rfl); (· first | (conv => lhs; whnf) | rfl); (· first | (conv => lhs; whnf) | rfl))
        | ((with_reducible apply E_do); (· rfl); (· first | (conv => lhs; whnf) | rfl))
        | ((with_reducible apply E_fin); (· first | (conv => lhs; whnf) | rfl))
        | with_reducible refine E_regp ?_ | ((with_reducible refine And.intro (a := okLog _ _) ?_ ?_); (· simp [okLog, nthL, okPair]))
        | with_reducible refine E_skip ?_ | with_reducible refine E_block ?_ | with_reducible refine E_exit ?_ | with_reducible refine E_ret ?_ | with_reducible refine E_the ?_ | with_reducible refine E_thr ?_
        | with_reducible refine E_bln ?_ | with_reducible refine E_ble ?_ | ((with_reducible refine E_blo ?_ ?_); (· rfl)) | with_reducible refine E_blr ?_
        | ((with_reducible apply E_ct); (· rfl)) | ((with_reducible apply E_cf); (· rfl)) | ((with_reducible apply E_cs); (· rfl); all_goals (intro h; (try rw [h]); (try simp only [decide_eq_true_eq, decide_eq_false_iff_not, beq_iff_eq, bne_iff_ne, beq_eq_false_iff_ne, bne_eq_false_iff_eq, ge_iff_le, gt_iff_lt, Bool.not_true, Bool.not_false] at h))))
      · refine ⟨by omega, wk_sub ?_⟩
        exact ⟨.inl rfl, .inl rfl, .inl rfl, .inl rfl, .inl rfl, trivial⟩
      · have e : t.funcs.take i = t.funcs := List.take_of_length_le (by omega)
        rw [e] at hbb
        rw [hbb]
        refine ⟨trivial, wk_sub ?_⟩
        exact ⟨.inl rfl, .inl rfl, trivial⟩
    obtain ⟨r0, hr0⟩ : ∃ r0, t.funcs[i]? = some r0 := ⟨_, List.getElem?_eq_getElem hlt⟩
    refine E_cut [(1, .cptr t.av.cells 0), (25, .sl false 6 (t.funcs.map Row.av)), (26, .int .i64 t.funcs.length), (27, .int .i64 i), (4, acc (b ++ rowB r0))] (heapB (b ++ rowB r0)) True ?_ (fun _ => ?_)
    · with_reducible refine E_block ?_
      refine E_cut [(1, .cptr t.av.cells 0), (25, .sl false 6 (t.funcs.map Row.av)), (26, .int .i64 t.funcs.length), (27, .int .i64 i), (4, acc b), (6, .cptr r0.av.cells 0)] (heapB b) True ?_ (fun _ => ?_)
      · repeat' (first
          | with_reducible refine E_seq ?_ | with_reducible refine E_reg ?_ | with_reducible refine E_thn ?_ | with_reducible refine E_nil ?_
          | ((with_reducible apply E_mv); (· first | (conv => lhs; whnf) | rfl))
          | ((with_reducible apply E_gh); (· rfl)) | ((with_reducible apply E_gm); (· rfl)) | ((with_reducible apply E_gz); (· rfl)) | ((with_reducible apply E_gs); (· rfl); all_goals (intro h; (try rw [h]); (try simp only [decide_eq_true_eq, decide_eq_false_iff_not, beq_iff_eq, bne_iff_ne, beq_eq_false_iff_ne, bne_eq_false_iff_eq, ge_iff_le, gt_iff_lt, Bool.not_true, Bool.not_false] at h)))
          | ((with_reducible apply E_pt); (· rfl); (· first | (conv => lhs; whnf) | rfl))
          | ((with_reducible apply E_pf); (· rfl); (· first | (conv => lhs; whnf) | rfl))
          | ((with_reducible apply E_len); (· rfl))
          | ((with_reducible apply E_iad); (· rfl); (· rfl); (· rfl); (· rfl); (· omega); (intro y hy; (try rw [Int.toNat_natCast] at hy)))
          | ((with_reducible apply E_op0); (· rfl); (· first | (conv => lhs; whnf) | rfl))
          | ((with_reducible apply E_op); (· rfl); (· first | (conv => lhs; whnf) | rfl); (· first | (conv => lhs; whnf) | rfl))
          | ((with_reducible apply E_do); (· rfl); (· first | (conv => lhs; whnf) | rfl))
          | ((with_reducible apply E_fin); (· first | (conv => lhs; whnf) | rfl))
          | with_reducible refine E_regp ?_ | ((with_reducible refine And.intro (a := okLog _ _) ?_ ?_); (· simp [okLog, nthL, okPair]))
          | with_reducible refine E_skip ?_ | with_reducible refine E_block ?_ | with_reducible refine E_exit ?_ | with_reducible refine E_ret ?_ | with_reducible refine E_the ?_ | with_reducible refine E_thr ?_
          | with_reducible refine E_bln ?_ | with_reducible refine E_ble ?_ | ((with_reducible refine E_blo ?_ ?_); (· rfl)) | with_reducible refine E_blr ?_
          | ((with_reducible apply E_ct); (· rfl)) | ((with_reducible apply E_cf); (· rfl)) | ((with_reducible apply E_cs); (· rfl); all_goals (intro h; (try rw [h]); (try simp only [decide_eq_true_eq, decide_eq_false_iff_not, beq_iff_eq, bne_iff_ne, beq_eq_false_iff_ne, bne_eq_false_iff_eq, ge_iff_le, gt_iff_lt, Bool.not_true, Bool.not_false] at h))))
        obtain rfl : y = r0 := by rw [hr0] at hy; exact (Option.some.inj hy).symm
        refine ⟨trivial, wk_frz (S1 := heapB b) (ver := 0) (cs := y.av.cells) rfl (by simp) (Row.blw _ y) (heapB_blw b) ?_⟩
        exact ⟨.inl ⟨rfl, Tab.blw _ t⟩, .inl ⟨rfl, blwL_map (Row.blw _) _⟩, .inl ⟨rfl, rfl⟩, .inl ⟨rfl, rfl⟩, .inl ⟨rfl, rfl⟩, .inr ⟨0, rfl, rfl⟩, trivial⟩
      have hb1 : b.length ≤ 4 + 16777216 * 16 := hbl.2
      have h5l : (head5 r0).length = 5 := rfl
      have hpm := ht.params r0 (List.mem_of_getElem? hr0)
      have hsm := ht.saves r0 (List.mem_of_getElem? hr0)
      have l1 : (b ++ (head5 r0).flatMap bytes4).length = b.length + 20 := by rw [List.length_append]; rfl
      have l2 : ((b ++ (head5 r0).flatMap bytes4) ++ r0.params.flatMap (fun k => bytes4 (IntKind.i64.wrap k))).length ≤ b.length + 20 + 4 * r0.params.length := by
        have := flat_le (l := r0.params) (g := (fun k => bytes4 (IntKind.i64.wrap k))) (c := 4) (fun _ _ => Nat.le_refl _)
        rw [List.length_append]; omega
      have l2' : b.length + 20 ≤ ((b ++ (head5 r0).flatMap bytes4) ++ r0.params.flatMap (fun k => bytes4 (IntKind.i64.wrap k))).length := by rw [List.length_append]; omega
      have l3 : (((b ++ (head5 r0).flatMap bytes4) ++ r0.params.flatMap (fun k => bytes4 (IntKind.i64.wrap k))) ++ bytes4 r0.saves.length).length = ((b ++ (head5 r0).flatMap bytes4) ++ r0.params.flatMap (fun k => bytes4 (IntKind.i64.wrap k))).length + 4 := by rw [List.length_append, bytes4_len]
      generalize hB1 : (b ++ (head5 r0).flatMap bytes4) = B1 at l1 l2 l2' l3
      refine E_cut [(1, .cptr t.av.cells 0), (25, .sl false 6 (t.funcs.map Row.av)), (26, .int .i64 t.funcs.length), (27, .int .i64 i), (6, .cptr r0.av.cells 0), (4, acc B1)] (heapB B1) True ?_ (fun _ => ?_)
      · rw [← hB1]
        repeat' (first
          | with_reducible refine E_seq ?_ | with_reducible refine E_reg ?_ | with_reducible refine E_thn ?_ | with_reducible refine E_nil ?_
          | ((with_reducible apply E_mv); (· first | (conv => lhs; whnf) | rfl))
          | ((with_reducible apply E_gh); (· rfl)) | ((with_reducible apply E_gm); (· rfl)) | ((with_reducible apply E_gz); (· rfl)) | ((with_reducible apply E_gs); (· rfl); all_goals (intro h; (try rw [h]); (try simp only [decide_eq_true_eq, decide_eq_false_iff_not, beq_iff_eq, bne_iff_ne, beq_eq_false_iff_ne, bne_eq_false_iff_eq, ge_iff_le, gt_iff_lt, Bool.not_true, Bool.not_false] at h)))
          | ((with_reducible apply E_pt); (· rfl); (· first | (conv => lhs; whnf) | rfl))
          | ((with_reducible apply E_pf); (· rfl); (· first | (conv => lhs; whnf) | rfl))
          | ((with_reducible apply E_len); (· rfl))
          | ((with_reducible apply E_iad); (· rfl); (· rfl); (· rfl); (· rfl); (· omega); (intro y hy; (try rw [Int.toNat_natCast] at hy)))
          | ((with_reducible apply E_op0); (· rfl); (· first | (conv => lhs; whnf) | rfl))
          | ((with_reducible apply E_op); (· rfl); (· first | (conv => lhs; whnf) | rfl); (· first | (conv => lhs; whnf) | rfl))
          | ((with_reducible apply E_do); (· rfl); (· first | (conv => lhs; whnf) | rfl))
          | ((with_reducible apply E_fin); (· first | (conv => lhs; whnf) | rfl))
          | with_reducible refine E_regp ?_ | ((with_reducible refine And.intro (a := okLog _ _) ?_ ?_); (· simp [okLog, nthL, okPair]))
          | with_reducible refine E_skip ?_ | with_reducible refine E_block ?_ | with_reducible refine E_exit ?_ | with_reducible refine E_ret ?_ | with_reducible refine E_the ?_ | with_reducible refine E_thr ?_
          | with_reducible refine E_bln ?_ | with_reducible refine E_ble ?_ | ((with_reducible refine E_blo ?_ ?_); (· rfl)) | with_reducible refine E_blr ?_
          | ((with_reducible apply E_ct); (· rfl)) | ((with_reducible apply E_cf); (· rfl)) | ((with_reducible apply E_cs); (· rfl); all_goals (intro h; (try rw [h]); (try simp only [decide_eq_true_eq, decide_eq_false_iff_not, beq_iff_eq, bne_iff_ne, beq_eq_false_iff_ne, bne_eq_false_iff_eq, ge_iff_le, gt_iff_lt, Bool.not_true, Bool.not_false] at h))))
        have hlf : (head5 r0).length ≤ 5 := Nat.le_refl _
        refine E_loop (ι := Nat) (fun (j : Nat) => [(1, .cptr t.av.cells 0), (25, .sl false 6 (t.funcs.map Row.av)), (26, .int .i64 t.funcs.length), (27, .int .i64 i), (6, .cptr r0.av.cells 0), (43, .sl true 1 ((head5 r0).map iav)), (44, .int .i64 5), (45, .int .i64 j), (4, acc (b ++ ((head5 r0).take j).flatMap bytes4))]) (fun j => heapB (b ++ ((head5 r0).take j).flatMap bytes4)) (fun j => j ≤ (head5 r0).length) (fun j => (head5 r0).length - j) 0 (by omega) (wk_sub' (by simp) ?_) ?_
        · exact ⟨.inl rfl, .inl rfl, .inl rfl, .inl rfl, .inl rfl, .inl rfl, .inl rfl, .inl rfl, .inl (by simp [Fr.get]), trivial⟩
        intro j hj
        have hfl := flat_le (l := (head5 r0).take j) (g := bytes4) (c := 4) (fun _ _ => by first | exact Nat.le_refl _ | simp [bytes4_len])
        have htk : ((head5 r0).take j).length ≤ (head5 r0).length := by simp; omega
        have hacc : 4 ≤ (b ++ ((head5 r0).take j).flatMap bytes4).length ∧ (b ++ ((head5 r0).take j).flatMap bytes4).length ≤ 1099511627776 := by rw [List.length_append]; omega
        have hacc2 : ∀ v, 4 ≤ ((b ++ ((head5 r0).take j).flatMap bytes4) ++ bytes4 v).length ∧ ((b ++ ((head5 r0).take j).flatMap bytes4) ++ bytes4 v).length ≤ 1099511627776 := fun v => by rw [List.length_append, List.length_append, bytes4_len]; omega
        have hlc : (head5 r0).length ≤ (head5 r0).length := Nat.le_refl _
        repeat' (first
          | ((with_reducible apply E_callE (number_acc _ _ hacc)); (· rfl))
          | with_reducible refine E_seq ?_ | with_reducible refine E_reg ?_ | with_reducible refine E_thn ?_ | with_reducible refine E_nil ?_
          | ((with_reducible apply E_mv); (· first | (conv => lhs; whnf) | rfl))
          | ((with_reducible apply E_gh); (· rfl)) | ((with_reducible apply E_gm); (· rfl)) | ((with_reducible apply E_gz); (· rfl)) | ((with_reducible apply E_gs); (· rfl); all_goals (intro h; (try rw [h]); (try simp only [decide_eq_true_eq, decide_eq_false_iff_not, beq_iff_eq, bne_iff_ne, beq_eq_false_iff_ne, bne_eq_false_iff_eq, ge_iff_le, gt_iff_lt, Bool.not_true, Bool.not_false] at h)))
          | ((with_reducible apply E_pt); (· rfl); (· first | (conv => lhs; whnf) | rfl))
          | ((with_reducible apply E_pf); (· rfl); (· first | (conv => lhs; whnf) | rfl))
          | ((with_reducible apply E_len); (· rfl))
          | ((with_reducible apply E_iad); (· rfl); (· rfl); (· rfl); (· rfl); (· omega); (intro y hy; (try rw [Int.toNat_natCast] at hy)))
          | ((with_reducible apply E_op0); (· rfl); (· first | (conv => lhs; whnf) | rfl))
          | ((with_reducible apply E_op); (· rfl); (· first | (conv => lhs; whnf) | rfl); (· first | (conv => lhs; whnf) | rfl))
          | ((with_reducible apply E_do); (· rfl); (· first | (conv => lhs; whnf) | rfl))
          | ((with_reducible apply E_fin); (· first | (conv => lhs; whnf) | rfl))
          | with_reducible refine E_regp ?_ | ((with_reducible refine And.intro (a := okLog _ _) ?_ ?_); (· simp [okLog, nthL, okPair]))
          | with_reducible refine E_skip ?_ | with_reducible refine E_block ?_ | with_reducible refine E_exit ?_ | with_reducible refine E_ret ?_ | with_reducible refine E_the ?_ | with_reducible refine E_thr ?_
          | with_reducible refine E_bln ?_ | with_reducible refine E_ble ?_ | ((with_reducible refine E_blo ?_ ?_); (· rfl)) | with_reducible refine E_blr ?_
          | ((with_reducible apply E_ct); (· rfl)) | ((with_reducible apply E_cf); (· rfl)) | ((with_reducible apply E_cs); (· rfl); all_goals (intro h; (try rw [h]); (try simp only [decide_eq_true_eq, decide_eq_false_iff_not, beq_iff_eq, bne_iff_ne, beq_eq_false_iff_ne, bne_eq_false_iff_eq, ge_iff_le, gt_iff_lt, Bool.not_true, Bool.not_false] at h))))
        · have e : (b ++ ((head5 r0).take (j + 1)).flatMap bytes4) = (b ++ ((head5 r0).take j).flatMap bytes4) ++ bytes4 y := by rw [take_succ' hy]; simp
          refine ⟨j + 1, by omega, by omega, ?_⟩
          rw [e]
          refine wk_sub ?_
          exact ⟨.inl rfl, .inl rfl, .inl rfl, .inl rfl, .inl rfl, .inl rfl, .inl rfl, .inl (congrArg _ (by rw [wrap_i64 (by omega)]; omega)), .inl rfl, trivial⟩
        · have e : (head5 r0).take j = (head5 r0) := List.take_of_length_le (by omega)
          rw [e]
          refine ⟨trivial, wk_sub ?_⟩
          exact ⟨.inl rfl, .inl rfl, .inl rfl, .inl rfl, .inl rfl, .inl rfl, trivial⟩

      refine E_cut [(1, .cptr t.av.cells 0), (25, .sl false 6 (t.funcs.map Row.av)), (26, .int .i64 t.funcs.length), (27, .int .i64 i), (6, .cptr r0.av.cells 0), (4, acc (B1 ++ r0.params.flatMap (fun k => bytes4 (IntKind.i64.wrap k))))] (heapB (B1 ++ r0.params.flatMap (fun k => bytes4 (IntKind.i64.wrap k)))) True ?_ (fun _ => ?_)
      · repeat' (first
          | with_reducible refine E_seq ?_ | with_reducible refine E_reg ?_ | with_reducible refine E_thn ?_ | with_reducible refine E_nil ?_
          | ((with_reducible apply E_mv); (· first | (conv => lhs; whnf) | rfl))
          | ((with_reducible apply E_gh); (· rfl)) | ((with_reducible apply E_gm); (· rfl)) | ((with_reducible apply E_gz); (· rfl)) | ((with_reducible apply E_gs); (· rfl); all_goals (intro h; (try rw [h]); (try simp only [decide_eq_true_eq, decide_eq_false_iff_not, beq_iff_eq, bne_iff_ne, beq_eq_false_iff_ne, bne_eq_false_iff_eq, ge_iff_le, gt_iff_lt, Bool.not_true, Bool.not_false] at h)))
          | ((with_reducible apply E_pt); (· rfl); (· first | (conv => lhs; whnf) | rfl))
          | ((with_reducible apply E_pf); (· rfl); (· first | (conv => lhs; whnf) | rfl))
          | ((with_reducible apply E_len); (· rfl))
          | ((with_reducible apply E_iad); (· rfl); (· rfl); (· rfl); (· rfl); (· omega); (intro y hy; (try rw [Int.toNat_natCast] at hy)))
          | ((with_reducible apply E_op0); (· rfl); (· first | (conv => lhs; whnf) | rfl))
          | ((with_reducible apply E_op); (· rfl); (· first | (conv => lhs; whnf) | rfl); (· first | (conv => lhs; whnf) | rfl))
          | ((with_reducible apply E_do); (· rfl); (· first | (conv => lhs; whnf) | rfl))
          | ((with_reducible apply E_fin); (· first | (conv => lhs; whnf) | rfl))
          | with_reducible refine E_regp ?_ | ((with_reducible refine And.intro (a := okLog _ _) ?_ ?_); (· simp [okLog, nthL, okPair]))
          | with_reducible refine E_skip ?_ | with_reducible refine E_block ?_ | with_reducible refine E_exit ?_ | with_reducible refine E_ret ?_ | with_reducible refine E_the ?_ | with_reducible refine E_thr ?_
          | with_reducible refine E_bln ?_ | with_reducible refine E_ble ?_ | ((with_reducible refine E_blo ?_ ?_); (· rfl)) | with_reducible refine E_blr ?_
          | ((with_reducible apply E_ct); (· rfl)) | ((with_reducible apply E_cf); (· rfl)) | ((with_reducible apply E_cs); (· rfl); all_goals (intro h; (try rw [h]); (try simp only [decide_eq_true_eq, decide_eq_false_iff_not, beq_iff_eq, bne_iff_ne, beq_eq_false_iff_ne, bne_eq_false_iff_eq, ge_iff_le, gt_iff_lt, Bool.not_true, Bool.not_false] at h))))
        have hlf : r0.params.length ≤ 1048576 := hpm
        refine E_loop (ι := Nat) (fun (j : Nat) => [(1, .cptr t.av.cells 0), (25, .sl false 6 (t.funcs.map Row.av)), (26, .int .i64 t.funcs.length), (27, .int .i64 i), (6, .cptr r0.av.cells 0), (54, .sl false 1 (r0.params.map kav)), (55, .int .i64 r0.params.length), (56, .int .i64 j), (4, acc (B1 ++ (r0.params.take j).flatMap (fun k => bytes4 (IntKind.i64.wrap k))))]) (fun j => heapB (B1 ++ (r0.params.take j).flatMap (fun k => bytes4 (IntKind.i64.wrap k)))) (fun j => j ≤ r0.params.length) (fun j => r0.params.length - j) 0 (by omega) (wk_sub' (by simp) ?_) ?_
        · exact ⟨.inl rfl, .inl rfl, .inl rfl, .inl rfl, .inl rfl, .inl rfl, .inl rfl, .inl rfl, .inl (by simp [Fr.get]), trivial⟩
        intro j hj
        have hfl := flat_le (l := r0.params.take j) (g := (fun k => bytes4 (IntKind.i64.wrap k))) (c := 4) (fun _ _ => by first | exact Nat.le_refl _ | simp [bytes4_len])
        have htk : (r0.params.take j).length ≤ r0.params.length := by simp; omega
        have hacc : 4 ≤ (B1 ++ (r0.params.take j).flatMap (fun k => bytes4 (IntKind.i64.wrap k))).length ∧ (B1 ++ (r0.params.take j).flatMap (fun k => bytes4 (IntKind.i64.wrap k))).length ≤ 1099511627776 := by rw [List.length_append]; omega
        have hacc2 : ∀ v, 4 ≤ ((B1 ++ (r0.params.take j).flatMap (fun k => bytes4 (IntKind.i64.wrap k))) ++ bytes4 v).length ∧ ((B1 ++ (r0.params.take j).flatMap (fun k => bytes4 (IntKind.i64.wrap k))) ++ bytes4 v).length ≤ 1099511627776 := fun v => by rw [List.length_append, List.length_append, bytes4_len]; omega
        have hlc : r0.params.length ≤ r0.params.length := Nat.le_refl _
        repeat' (first
          | ((with_reducible apply E_callE (number_acc _ _ hacc)); (· rfl))
          | with_reducible refine E_seq ?_ | with_reducible refine E_reg ?_ | with_reducible refine E_thn ?_ | with_reducible refine E_nil ?_
          | ((with_reducible apply E_mv); (· first | (conv => lhs; whnf) | rfl))
          | ((with_reducible apply E_gh); (· rfl)) | ((with_reducible apply E_gm); (· rfl)) | ((with_reducible apply E_gz); (· rfl)) | ((with_reducible apply E_gs); (· rfl); all_goals (intro h; (try rw [h]); (try simp only [decide_eq_true_eq, decide_eq_false_iff_not, beq_iff_eq, bne_iff_ne, beq_eq_false_iff_ne, bne_eq_false_iff_eq, ge_iff_le, gt_iff_lt, Bool.not_true, Bool.not_false] at h)))
          | ((with_reducible apply E_pt); (· rfl); (· first | (conv => lhs; whnf) | rfl))
          | ((with_reducible apply E_pf); (· rfl); (· first | (conv => lhs; whnf) | rfl))
          | ((with_reducible apply E_len); (· rfl))
          | ((with_reducible apply E_iad); (· rfl); (· rfl); (· rfl); (· rfl); (· omega); (intro y hy; (try rw [Int.toNat_natCast] at hy)))
          | ((with_reducible apply E_op0); (· rfl); (· first | (conv => lhs; whnf) | rfl))
          | ((with_reducible apply E_op); (· rfl); (· first | (conv => lhs; whnf) | rfl); (· first | (conv => lhs; whnf) | rfl))
          | ((with_reducible apply E_do); (· rfl); (· first | (conv => lhs; whnf) | rfl))
          | ((with_reducible apply E_fin); (· first | (conv => lhs; whnf) | rfl))
          | with_reducible refine E_regp ?_ | ((with_reducible refine And.intro (a := okLog _ _) ?_ ?_); (· simp [okLog, nthL, okPair]))
          | with_reducible refine E_skip ?_ | with_reducible refine E_block ?_ | with_reducible refine E_exit ?_ | with_reducible refine E_ret ?_ | with_reducible refine E_the ?_ | with_reducible refine E_thr ?_
          | with_reducible refine E_bln ?_ | with_reducible refine E_ble ?_ | ((with_reducible refine E_blo ?_ ?_); (· rfl)) | with_reducible refine E_blr ?_
          | ((with_reducible apply E_ct); (· rfl)) | ((with_reducible apply E_cf); (· rfl)) | ((with_reducible apply E_cs); (· rfl); all_goals (intro h; (try rw [h]); (try simp only [decide_eq_true_eq, decide_eq_false_iff_not, beq_iff_eq, bne_iff_ne, beq_eq_false_iff_ne, bne_eq_false_iff_eq, ge_iff_le, gt_iff_lt, Bool.not_true, Bool.not_false] at h))))
        · have e : (B1 ++ (r0.params.take (j + 1)).flatMap (fun k => bytes4 (IntKind.i64.wrap k))) = (B1 ++ (r0.params.take j).flatMap (fun k => bytes4 (IntKind.i64.wrap k))) ++ (fun k => bytes4 (IntKind.i64.wrap k)) y := by rw [take_succ' hy]; simp
          refine ⟨j + 1, by omega, by omega, ?_⟩
          rw [e]
          refine wk_sub ?_
          exact ⟨.inl rfl, .inl rfl, .inl rfl, .inl rfl, .inl rfl, .inl rfl, .inl rfl, .inl (congrArg _ (by rw [wrap_i64 (by omega)]; omega)), .inl rfl, trivial⟩
        · have e : r0.params.take j = r0.params := List.take_of_length_le (by omega)
          rw [e]
          refine ⟨trivial, wk_sub ?_⟩
          exact ⟨.inl rfl, .inl rfl, .inl rfl, .inl rfl, .inl rfl, .inl rfl, trivial⟩

      generalize hB2 : B1 ++ r0.params.flatMap (fun k => bytes4 (IntKind.i64.wrap k)) = B2 at l2 l2' l3
      have hacc : 4 ≤ B2.length ∧ B2.length ≤ 1099511627776 := by omega
      refine E_cut [(1, .cptr t.av.cells 0), (25, .sl false 6 (t.funcs.map Row.av)), (26, .int .i64 t.funcs.length), (27, .int .i64 i), (6, .cptr r0.av.cells 0), (4, acc (B2 ++ bytes4 r0.saves.length))] (heapB (B2 ++ bytes4 r0.saves.length)) True ?_ (fun _ => ?_)
      · repeat' (first
          | ((with_reducible apply E_callE (number_acc _ _ hacc)); (· rfl))
          | with_reducible refine E_seq ?_ | with_reducible refine E_reg ?_ | with_reducible refine E_thn ?_ | with_reducible refine E_nil ?_
          | ((with_reducible apply E_mv); (· first | (conv => lhs; whnf) | rfl))
          | ((with_reducible apply E_gh); (· rfl)) | ((with_reducible apply E_gm); (· rfl)) | ((with_reducible apply E_gz); (· rfl)) | ((with_reducible apply E_gs); (· rfl); all_goals (intro h; (try rw [h]); (try simp only [decide_eq_true_eq, decide_eq_false_iff_not, beq_iff_eq, bne_iff_ne, beq_eq_false_iff_ne, bne_eq_false_iff_eq, ge_iff_le, gt_iff_lt, Bool.not_true, Bool.not_false] at h)))
          | ((with_reducible apply E_pt); (· rfl); (· first | (conv => lhs; whnf) | rfl))
          | ((with_reducible apply E_pf); (· rfl); (· first | (conv => lhs; whnf) | rfl))
          | ((with_reducible apply E_len); (· rfl))
          | ((with_reducible apply E_iad); (· rfl); (· rfl); (· rfl); (· rfl); (· omega); (intro y hy; (try rw [Int.toNat_natCast] at hy)))
          | ((with_reducible apply E_op0); (· rfl); (· first | (conv => lhs; whnf) | rfl))
          | ((with_reducible apply E_op); (· rfl); (· first | (conv => lhs; whnf) | rfl); (· first | (conv => lhs; whnf) | rfl))
          | ((with_reducible apply E_do); (· rfl); (· first | (conv => lhs; whnf) | rfl))
          | ((with_reducible apply E_fin); (· first | (conv => lhs; whnf) | rfl))
          | with_reducible refine E_regp ?_ | ((with_reducible refine And.intro (a := okLog _ _) ?_ ?_); (· simp [okLog, nthL, okPair]))
          | with_reducible refine E_skip ?_ | with_reducible refine E_block ?_ | with_reducible refine E_exit ?_ | with_reducible refine E_ret ?_ | with_reducible refine E_the ?_ | with_reducible refine E_thr ?_
          | with_reducible refine E_bln ?_ | with_reducible refine E_ble ?_ | ((with_reducible refine E_blo ?_ ?_); (· rfl)) | with_reducible refine E_blr ?_
          | ((with_reducible apply E_ct); (· rfl)) | ((with_reducible apply E_cf); (· rfl)) | ((with_reducible apply E_cs); (· rfl); all_goals (intro h; (try rw [h]); (try simp only [decide_eq_true_eq, decide_eq_false_iff_not, beq_iff_eq, bne_iff_ne, beq_eq_false_iff_ne, bne_eq_false_iff_eq, ge_iff_le, gt_iff_lt, Bool.not_true, Bool.not_false] at h))))
        refine ⟨trivial, wk_sub ?_⟩
        exact ⟨.inl rfl, .inl rfl, .inl rfl, .inl rfl, .inl rfl, .inl rfl, trivial⟩
      generalize hB3 : B2 ++ bytes4 r0.saves.length = B3 at l3
      have hfin : b ++ rowB r0 = B3 ++ r0.saves.flatMap (fun s => bytes4 s.reg ++ bytes4 s.off) := by rw [← hB3, ← hB2, ← hB1]; simp [rowB, savesB]
      rw [hfin]
      repeat' (first
        | with_reducible refine E_seq ?_ | with_reducible refine E_reg ?_ | with_reducible refine E_thn ?_ | with_reducible refine E_nil ?_
        | ((with_reducible apply E_mv); (· first | (conv => lhs; whnf) | rfl))
        | ((with_reducible apply E_gh); (· rfl)) | ((with_reducible apply E_gm); (· rfl)) | ((with_reducible apply E_gz); (· rfl)) | ((with_reducible apply E_gs); (· rfl); all_goals (intro h; (try rw [h]); (try simp only [decide_eq_true_eq, decide_eq_false_iff_not, beq_iff_eq, bne_iff_ne, beq_eq_false_iff_ne, bne_eq_false_iff_eq, ge_iff_le, gt_iff_lt, Bool.not_true, Bool.not_false] at h)))
        | ((with_reducible apply E_pt); (· rfl); (· first | (conv => lhs; whnf) | rfl))
        | ((with_reducible apply E_pf); (· rfl); (· first | (conv => lhs; whnf) | rfl))
        | ((with_reducible apply E_len); (· rfl))
        | ((with_reducible apply E_iad); (· rfl); (· rfl); (· rfl); (· rfl); (· omega); (intro y hy; (try rw [Int.toNat_natCast] at hy)))
        | ((with_reducible apply E_op0); (· rfl); (· first | (conv => lhs; whnf) | rfl))
        | ((with_reducible apply E_op); (· rfl); (· first | (conv => lhs; whnf) | rfl); (· first | (conv => lhs; whnf) | rfl))
        | ((with_reducible apply E_do); (· rfl); (· first | (conv => lhs; whnf) | rfl))
        | ((with_reducible apply E_fin); (· first | (conv => lhs; whnf) | rfl))
        | with_reducible refine E_regp ?_ | ((with_reducible refine And.intro (a := okLog _ _) ?_ ?_); (· simp [okLog, nthL, okPair]))
        | with_reducible refine E_skip ?_ | with_reducible refine E_block ?_ | with_reducible refine E_exit ?_ | with_reducible refine E_ret ?_ | with_reducible refine E_the ?_ | with_reducible refine E_thr ?_
        | with_reducible refine E_bln ?_ | with_reducible refine E_ble ?_ | ((with_reducible refine E_blo ?_ ?_); (· rfl)) | with_reducible refine E_blr ?_
        | ((with_reducible apply E_ct); (· rfl)) | ((with_reducible apply E_cf); (· rfl)) | ((with_reducible apply E_cs); (· rfl); all_goals (intro h; (try rw [h]); (try simp only [decide_eq_true_eq, decide_eq_false_iff_not, beq_iff_eq, bne_iff_ne, beq_eq_false_iff_ne, bne_eq_false_iff_eq, ge_iff_le, gt_iff_lt, Bool.not_true, Bool.not_false] at h))))
      have hlf : r0.saves.length ≤ 1048576 := hsm
      refine E_loop (ι := Nat) (fun (j : Nat) => [(1, .cptr t.av.cells 0), (25, .sl false 6 (t.funcs.map Row.av)), (26, .int .i64 t.funcs.length), (27, .int .i64 i), (6, .cptr r0.av.cells 0), (71, .sl false 2 (r0.saves.map Save.av)), (72, .int .i64 r0.saves.length), (73, .int .i64 j), (4, acc (B3 ++ (r0.saves.take j).flatMap (fun s => bytes4 s.reg ++ bytes4 s.off)))]) (fun j => heapB (B3 ++ (r0.saves.take j).flatMap (fun s => bytes4 s.reg ++ bytes4 s.off))) (fun j => j ≤ r0.saves.length) (fun j => r0.saves.length - j) 0 (by omega) (wk_sub' (by simp) ?_) ?_
      · exact ⟨.inl rfl, .inl rfl, .inl rfl, .inl rfl, .inl rfl, .inl rfl, .inl rfl, .inl rfl, .inl (by simp [Fr.get]), trivial⟩
      intro j hj
      have hfl := flat_le (l := r0.saves.take j) (g := (fun s => bytes4 s.reg ++ bytes4 s.off)) (c := 8) (fun x hx => by first | exact Nat.le_refl _ | (simp [bytes4_len]; done) | exact hSB x (List.mem_of_mem_take hx))
      have htk : (r0.saves.take j).length ≤ r0.saves.length := by simp; omega
      have e1 : ∀ y, r0.saves[j]? = some y → (B3 ++ (r0.saves.take (j + 1)).flatMap (fun s => bytes4 s.reg ++ bytes4 s.off)) = (B3 ++ (r0.saves.take j).flatMap (fun s => bytes4 s.reg ++ bytes4 s.off)) ++ (fun s => bytes4 s.reg ++ bytes4 s.off) y := fun y hy => by rw [take_succ' hy]; simp
      have e2 : r0.saves.length ≤ j → (B3 ++ (r0.saves.take j).flatMap (fun s => bytes4 s.reg ++ bytes4 s.off)) = B3 ++ r0.saves.flatMap (fun s => bytes4 s.reg ++ bytes4 s.off) := fun h => by rw [List.take_of_length_le h]
      have hcl : (B3 ++ (r0.saves.take j).flatMap (fun s => bytes4 s.reg ++ bytes4 s.off)).length = B3.length + ((r0.saves.take j).flatMap (fun s => bytes4 s.reg ++ bytes4 s.off)).length := List.length_append
      generalize (B3 ++ (r0.saves.take j).flatMap (fun s => bytes4 s.reg ++ bytes4 s.off)) = C at e1 e2 hcl ⊢
      have hacc : 4 ≤ C.length ∧ C.length ≤ 1099511627776 := by omega
      have hacc2 : ∀ v, 4 ≤ (C ++ bytes4 v).length ∧ (C ++ bytes4 v).length ≤ 1099511627776 := fun v => by rw [List.length_append, bytes4_len]; omega
      refine E_cut [(1, .cptr t.av.cells 0), (25, .sl false 6 (t.funcs.map Row.av)), (26, .int .i64 t.funcs.length), (27, .int .i64 i), (6, .cptr r0.av.cells 0), (71, .sl false 2 (r0.saves.map Save.av)), (72, .int .i64 r0.saves.length), (73, .int .i64 j), (4, acc C), (74, .bool (decide ((j : Int) < r0.saves.length)))] (heapB C) True ?_ (fun _ => ?_)
      · repeat' (first
          | with_reducible refine E_seq ?_ | with_reducible refine E_reg ?_ | with_reducible refine E_thn ?_ | with_reducible refine E_nil ?_
          | ((with_reducible apply E_mv); (· first | (conv => lhs; whnf) | rfl))
          | ((with_reducible apply E_gh); (· rfl)) | ((with_reducible apply E_gm); (· rfl)) | ((with_reducible apply E_gz); (· rfl)) | ((with_reducible apply E_gs); (· rfl); all_goals (intro h; (try rw [h]); (try simp only [decide_eq_true_eq, decide_eq_false_iff_not, beq_iff_eq, bne_iff_ne, beq_eq_false_iff_ne, bne_eq_false_iff_eq, ge_iff_le, gt_iff_lt, Bool.not_true, Bool.not_false] at h)))
          | ((with_reducible apply E_pt); (· rfl); (· first | (conv => lhs; whnf) | rfl))
          | ((with_reducible apply E_pf); (· rfl); (· first | (conv => lhs; whnf) | rfl))
          | ((with_reducible apply E_len); (· rfl))
          | ((with_reducible apply E_iad); (· rfl); (· rfl); (· rfl); (· rfl); (· omega); (intro y hy; (try rw [Int.toNat_natCast] at hy)))
          | ((with_reducible apply E_op0); (· rfl); (· first | (conv => lhs; whnf) | rfl))
          | ((with_reducible apply E_op); (· rfl); (· first | (conv => lhs; whnf) | rfl); (· first | (conv => lhs; whnf) | rfl))
          | ((with_reducible apply E_do); (· rfl); (· first | (conv => lhs; whnf) | rfl))
          | ((with_reducible apply E_fin); (· first | (conv => lhs; whnf) | rfl))
          | with_reducible refine E_regp ?_ | ((with_reducible refine And.intro (a := okLog _ _) ?_ ?_); (· simp [okLog, nthL, okPair]))
          | with_reducible refine E_skip ?_ | with_reducible refine E_block ?_ | with_reducible refine E_exit ?_ | with_reducible refine E_ret ?_ | with_reducible refine E_the ?_ | with_reducible refine E_thr ?_
          | with_reducible refine E_bln ?_ | with_reducible refine E_ble ?_ | ((with_reducible refine E_blo ?_ ?_); (· rfl)) | with_reducible refine E_blr ?_
          | ((with_reducible apply E_ct); (· rfl)) | ((with_reducible apply E_cf); (· rfl)) | ((with_reducible apply E_cs); (· rfl); all_goals (intro h; (try rw [h]); (try simp only [decide_eq_true_eq, decide_eq_false_iff_not, beq_iff_eq, bne_iff_ne, beq_eq_false_iff_ne, bne_eq_false_iff_eq, ge_iff_le, gt_iff_lt, Bool.not_true, Bool.not_false] at h))))
        refine ⟨trivial, wk_sub ?_⟩
        exact ⟨.inl rfl, .inl rfl, .inl rfl, .inl rfl, .inl rfl, .inl rfl, .inl rfl, .inl rfl, .inl rfl, .inl rfl, trivial⟩
      refine E_cut [(1, .cptr t.av.cells 0), (25, .sl false 6 (t.funcs.map Row.av)), (26, .int .i64 t.funcs.length), (27, .int .i64 i), (6, .cptr r0.av.cells 0), (71, .sl false 2 (r0.saves.map Save.av)), (72, .int .i64 r0.saves.length), (73, .int .i64 j), (4, acc C)] (heapB C) (j < r0.saves.length) ?_ (fun hlt => ?_)
      · repeat' (first
          | with_reducible refine E_seq ?_ | with_reducible refine E_reg ?_ | with_reducible refine E_thn ?_ | with_reducible refine E_nil ?_
          | ((with_reducible apply E_mv); (· first | (conv => lhs; whnf) | rfl))
          | ((with_reducible apply E_gh); (· rfl)) | ((with_reducible apply E_gm); (· rfl)) | ((with_reducible apply E_gz); (· rfl)) | ((with_reducible apply E_gs); (· rfl); all_goals (intro h; (try rw [h]); (try simp only [decide_eq_true_eq, decide_eq_false_iff_not, beq_iff_eq, bne_iff_ne, beq_eq_false_iff_ne, bne_eq_false_iff_eq, ge_iff_le, gt_iff_lt, Bool.not_true, Bool.not_false] at h)))
          | ((with_reducible apply E_pt); (· rfl); (· first | (conv => lhs; whnf) | rfl))
          | ((with_reducible apply E_pf); (· rfl); (· first | (conv => lhs; whnf) | rfl))
          | ((with_reducible apply E_len); (· rfl))
          | ((with_reducible apply E_iad); (· rfl); (· rfl); (· rfl); (· rfl); (· omega); (intro y hy; (try rw [Int.toNat_natCast] at hy)))
          | ((with_reducible apply E_op0); (· rfl); (· first | (conv => lhs; whnf) | rfl))
          | ((with_reducible apply E_op); (· rfl); (· first | (conv => lhs; whnf) | rfl); (· first | (conv => lhs; whnf) | rfl))
          | ((with_reducible apply E_do); (· rfl); (· first | (conv => lhs; whnf) | rfl))
          | ((with_reducible apply E_fin); (· first | (conv => lhs; whnf) | rfl))
          | with_reducible refine E_regp ?_ | ((with_reducible refine And.intro (a := okLog _ _) ?_ ?_); (· simp [okLog, nthL, okPair]))
          | with_reducible refine E_skip ?_ | with_reducible refine E_block ?_ | with_reducible refine E_exit ?_ | with_reducible refine E_ret ?_ | with_reducible refine E_the ?_ | with_reducible refine E_thr ?_
          | with_reducible refine E_bln ?_ | with_reducible refine E_ble ?_ | ((with_reducible refine E_blo ?_ ?_); (· rfl)) | with_reducible refine E_blr ?_
          | ((with_reducible apply E_ct); (· rfl)) | ((with_reducible apply E_cf); (· rfl)) | ((with_reducible apply E_cs); (· rfl); all_goals (intro h; (try rw [h]); (try simp only [decide_eq_true_eq, decide_eq_false_iff_not, beq_iff_eq, bne_iff_ne, beq_eq_false_iff_ne, bne_eq_false_iff_eq, ge_iff_le, gt_iff_lt, Bool.not_true, Bool.not_false] at h))))
        · refine ⟨by omega, wk_sub ?_⟩
          exact ⟨.inl rfl, .inl rfl, .inl rfl, .inl rfl, .inl rfl, .inl rfl, .inl rfl, .inl rfl, .inl rfl, trivial⟩
        · rw [← e2 (by omega)]
          refine ⟨trivial, wk_sub ?_⟩
          exact ⟨.inl rfl, .inl rfl, .inl rfl, .inl rfl, .inl rfl, trivial⟩
      obtain ⟨s0, hs0⟩ : ∃ s0, r0.saves[j]? = some s0 := ⟨_, List.getElem?_eq_getElem hlt⟩
      refine E_cut [(1, .cptr t.av.cells 0), (25, .sl false 6 (t.funcs.map Row.av)), (26, .int .i64 t.funcs.length), (27, .int .i64 i), (6, .cptr r0.av.cells 0), (71, .sl false 2 (r0.saves.map Save.av)), (72, .int .i64 r0.saves.length), (73, .int .i64 j), (4, acc (C ++ (fun s => bytes4 s.reg ++ bytes4 s.off) s0))] (heapB (C ++ (fun s => bytes4 s.reg ++ bytes4 s.off) s0)) True ?_ (fun _ => ?_)
      · with_reducible refine E_block ?_
        refine E_cut [(1, .cptr t.av.cells 0), (25, .sl false 6 (t.funcs.map Row.av)), (26, .int .i64 t.funcs.length), (27, .int .i64 i), (6, .cptr r0.av.cells 0), (71, .sl false 2 (r0.saves.map Save.av)), (72, .int .i64 r0.saves.length), (73, .int .i64 j), (4, acc C), (12, .cptr s0.av.cells 0)] (heapB C) True ?_ (fun _ => ?_)
        · repeat' (first
            | with_reducible refine E_seq ?_ | with_reducible refine E_reg ?_ | with_reducible refine E_thn ?_ | with_reducible refine E_nil ?_
            | ((with_reducible apply E_mv); (· first | (conv => lhs; whnf) | rfl))
            | ((with_reducible apply E_gh); (· rfl)) | ((with_reducible apply E_gm); (· rfl)) | ((with_reducible apply E_gz); (· rfl)) | ((with_reducible apply E_gs); (· rfl); all_goals (intro h; (try rw [h]); (try simp only [decide_eq_true_eq, decide_eq_false_iff_not, beq_iff_eq, bne_iff_ne, beq_eq_false_iff_ne, bne_eq_false_iff_eq, ge_iff_le, gt_iff_lt, Bool.not_true, Bool.not_false] at h)))
            | ((with_reducible apply E_pt); (· rfl); (· first | (conv => lhs; whnf) | rfl))
            | ((with_reducible apply E_pf); (· rfl); (· first | (conv => lhs; whnf) | rfl))
            | ((with_reducible apply E_len); (· rfl))
            | ((with_reducible apply E_iad); (· rfl); (· rfl); (· rfl); (· rfl); (· omega); (intro y hy; (try rw [Int.toNat_natCast] at hy)))
            | ((with_reducible apply E_op0); (· rfl); (· first | (conv => lhs; whnf) | rfl))
            | ((with_reducible apply E_op); (· rfl); (· first | (conv => lhs; whnf) | rfl); (· first | (conv => lhs; whnf) | rfl))
            | ((with_reducible apply E_do); (· rfl); (· first | (conv => lhs; whnf) | rfl))
            | ((with_reducible apply E_fin); (· first | (conv => lhs; whnf) | rfl))
            | with_reducible refine E_regp ?_ | ((with_reducible refine And.intro (a := okLog _ _) ?_ ?_); (· simp [okLog, nthL, okPair]))
            | with_reducible refine E_skip ?_ | with_reducible refine E_block ?_ | with_reducible refine E_exit ?_ | with_reducible refine E_ret ?_ | with_reducible refine E_the ?_ | with_reducible refine E_thr ?_
            | with_reducible refine E_bln ?_ | with_reducible refine E_ble ?_ | ((with_reducible refine E_blo ?_ ?_); (· rfl)) | with_reducible refine E_blr ?_
            | ((with_reducible apply E_ct); (· rfl)) | ((with_reducible apply E_cf); (· rfl)) | ((with_reducible apply E_cs); (· rfl); all_goals (intro h; (try rw [h]); (try simp only [decide_eq_true_eq, decide_eq_false_iff_not, beq_iff_eq, bne_iff_ne, beq_eq_false_iff_ne, bne_eq_false_iff_eq, ge_iff_le, gt_iff_lt, Bool.not_true, Bool.not_false] at h))))
          obtain rfl : y = s0 := by rw [hs0] at hy; exact (Option.some.inj hy).symm
          refine ⟨trivial, wk_frz (S1 := heapB C) (ver := 0) (cs := y.av.cells) rfl (by simp) (Save.blw _ y) (heapB_blw C) ?_⟩
          exact ⟨.inl ⟨rfl, Tab.blw _ t⟩, .inl ⟨rfl, blwL_map (Row.blw _) _⟩, .inl ⟨rfl, rfl⟩, .inl ⟨rfl, rfl⟩, .inl ⟨rfl, Row.blw _ r0⟩, .inl ⟨rfl, blwL_map (Save.blw _) _⟩, .inl ⟨rfl, rfl⟩, .inl ⟨rfl, rfl⟩, .inl ⟨rfl, rfl⟩, .inr ⟨0, rfl, rfl⟩, trivial⟩
        repeat' (first
          | ((with_reducible apply E_callE (number_acc _ _ hacc)); (· rfl))
          | ((with_reducible apply E_callE (number_acc _ _ (hacc2 _))); (· rfl))
          | with_reducible refine E_seq ?_ | with_reducible refine E_reg ?_ | with_reducible refine E_thn ?_ | with_reducible refine E_nil ?_
          | ((with_reducible apply E_mv); (· first | (conv => lhs; whnf) | rfl))
          | ((with_reducible apply E_gh); (· rfl)) | ((with_reducible apply E_gm); (· rfl)) | ((with_reducible apply E_gz); (· rfl)) | ((with_reducible apply E_gs); (· rfl); all_goals (intro h; (try rw [h]); (try simp only [decide_eq_true_eq, decide_eq_false_iff_not, beq_iff_eq, bne_iff_ne, beq_eq_false_iff_ne, bne_eq_false_iff_eq, ge_iff_le, gt_iff_lt, Bool.not_true, Bool.not_false] at h)))
          | ((with_reducible apply E_pt); (· rfl); (· first | (conv => lhs; whnf) | rfl))
          | ((with_reducible apply E_pf); (· rfl); (· first | (conv => lhs; whnf) | rfl))
          | ((with_reducible apply E_len); (· rfl))
          | ((with_reducible apply E_iad); (· rfl); (· rfl); (· rfl); (· rfl); (· omega); (intro y hy; (try rw [Int.toNat_natCast] at hy)))
          | ((with_reducible apply E_op0); (· rfl); (· first | (conv => lhs; whnf) | rfl))
          | ((with_reducible apply E_op); (· rfl); (· first | (conv => lhs; whnf) | rfl); (· first | (conv => lhs; whnf) | rfl))
          | ((with_reducible apply E_do); (· rfl); (· first | (conv => lhs; whnf) | rfl))
          | ((with_reducible apply E_fin); (· first | (conv => lhs; whnf) | rfl))
          | with_reducible refine E_regp ?_ | ((with_reducible refine And.intro (a := okLog _ _) ?_ ?_); (· simp [okLog, nthL, okPair]))
          | with_reducible refine E_skip ?_ | with_reducible refine E_block ?_ | with_reducible refine E_exit ?_ | with_reducible refine E_ret ?_ | with_reducible refine E_the ?_ | with_reducible refine E_thr ?_
          | with_reducible refine E_bln ?_ | with_reducible refine E_ble ?_ | ((with_reducible refine E_blo ?_ ?_); (· rfl)) | with_reducible refine E_blr ?_
          | ((with_reducible apply E_ct); (· rfl)) | ((with_reducible apply E_cf); (· rfl)) | ((with_reducible apply E_cs); (· rfl); all_goals (intro h; (try rw [h]); (try simp only [decide_eq_true_eq, decide_eq_false_iff_not, beq_iff_eq, bne_iff_ne, beq_eq_false_iff_ne, bne_eq_false_iff_eq, ge_iff_le, gt_iff_lt, Bool.not_true, Bool.not_false] at h))))
        refine ⟨trivial, ?_⟩
        rw [← List.append_assoc]
        refine wk_sub ?_
        exact ⟨.inl rfl, .inl rfl, .inl rfl, .inl rfl, .inl rfl, .inl rfl, .inl rfl, .inl rfl, .inl rfl, trivial⟩
      repeat' (first
        | with_reducible refine E_seq ?_ | with_reducible refine E_reg ?_ | with_reducible refine E_thn ?_ | with_reducible refine E_nil ?_
        | ((with_reducible apply E_mv); (· first | (conv => lhs; whnf) | rfl))
        | ((with_reducible apply E_gh); (· rfl)) | ((with_reducible apply E_gm); (· rfl)) | ((with_reducible apply E_gz); (· rfl)) | ((with_reducible apply E_gs); (· rfl); all_goals (intro h; (try rw [h]); (try simp only [decide_eq_true_eq, decide_eq_false_iff_not, beq_iff_eq, bne_iff_ne, beq_eq_false_iff_ne, bne_eq_false_iff_eq, ge_iff_le, gt_iff_lt, Bool.not_true, Bool.not_false] at h)))
        | ((with_reducible apply E_pt); (· rfl); (· first | (conv => lhs; whnf) | rfl))
        | ((with_reducible apply E_pf); (· rfl); (· first | (conv => lhs; whnf) | rfl))
        | ((with_reducible apply E_len); (· rfl))
        | ((with_reducible apply E_iad); (· rfl); (· rfl); (· rfl); (· rfl); (· omega); (intro y hy; (try rw [Int.toNat_natCast] at hy)))
        | ((with_reducible apply E_op0); (· rfl); (· first | (conv => lhs; whnf) | rfl))
        | ((with_reducible apply E_op); (· rfl); (· first | (conv => lhs; whnf) | rfl); (· first | (conv => lhs; whnf) | rfl))
        | ((with_reducible apply E_do); (· rfl); (· first | (conv => lhs; whnf) | rfl))
        | ((with_reducible apply E_fin); (· first | (conv => lhs; whnf) | rfl))
        | with_reducible refine E_regp ?_ | ((with_reducible refine And.intro (a := okLog _ _) ?_ ?_); (· simp [okLog, nthL, okPair]))
        | with_reducible refine E_skip ?_ | with_reducible refine E_block ?_ | with_reducible refine E_exit ?_ | with_reducible refine E_ret ?_ | with_reducible refine E_the ?_ | with_reducible refine E_thr ?_
        | with_reducible refine E_bln ?_ | with_reducible refine E_ble ?_ | ((with_reducible refine E_blo ?_ ?_); (· rfl)) | with_reducible refine E_blr ?_
        | ((with_reducible apply E_ct); (· rfl)) | ((with_reducible apply E_cf); (· rfl)) | ((with_reducible apply E_cs); (· rfl); all_goals (intro h; (try rw [h]); (try simp only [decide_eq_true_eq, decide_eq_false_iff_not, beq_iff_eq, bne_iff_ne, beq_eq_false_iff_ne, bne_eq_false_iff_eq, ge_iff_le, gt_iff_lt, Bool.not_true, Bool.not_false] at h))))
      refine ⟨j + 1, by omega, by omega, ?_⟩
      rw [e1 s0 hs0]
      refine wk_sub ?_
      exact ⟨.inl rfl, .inl rfl, .inl rfl, .inl rfl, .inl rfl, .inl rfl, .inl rfl, .inl (congrArg _ (by rw [wrap_i64 (by omega)]; omega)), .inl rfl, trivial⟩

    have e : bytes4 t.funcs.length ++ (t.funcs.take (i + 1)).flatMap rowB = b ++ rowB r0 := by rw [← hbb, take_succ' hr0]; simp
    repeat' (first
      | with_reducible refine E_seq ?_ | with_reducible refine E_reg ?_ | with_reducible refine E_thn ?_ | with_reducible refine E_nil ?_
      | ((with_reducible apply E_mv); (· first | (conv => lhs; whnf) | rfl))
      | ((with_reducible apply E_gh); (· rfl)) | ((with_reducible apply E_gm); (· rfl)) | ((with_reducible apply E_gz); (· rfl)) | ((with_reducible apply E_gs); (· rfl); all_goals (intro h; (try rw [h]); (try simp only [decide_eq_true_eq, decide_eq_false_iff_not, beq_iff_eq, bne_iff_ne, beq_eq_false_iff_ne, bne_eq_false_iff_eq, ge_iff_le, gt_iff_lt, Bool.not_true, Bool.not_false] at h)))
      | ((with_reducible apply E_pt); (· rfl); (· first | (conv => lhs; whnf) | rfl))
      | ((with_reducible apply E_pf); (· rfl); (· first | (conv => lhs; whnf) | rfl))
      | ((with_reducible apply E_len); (· rfl))
      | ((with_reducible apply E_iad); (· rfl); (· rfl); (· rfl); (· rfl); (· omega); (intro y hy; (try rw [Int.toNat_natCast] at hy)))
      | ((with_reducible apply E_op0); (· rfl); (· first | (conv => lhs; whnf) | rfl))
      | ((with_reducible apply E_op); (· rfl); (· first | (conv => lhs; whnf) | rfl); (· first | (conv => lhs; whnf) | rfl))
      | ((with_reducible apply E_do); (· rfl); (· first | (conv => lhs; whnf) | rfl))
      | ((with_reducible apply E_fin); (· first | (conv => lhs; whnf) | rfl))
      | with_reducible refine E_regp ?_ | ((with_reducible refine And.intro (a := okLog _ _) ?_ ?_); (· simp [okLog, nthL, okPair]))
      | with_reducible refine E_skip ?_ | with_reducible refine E_block ?_ | with_reducible refine E_exit ?_ | with_reducible refine E_ret ?_ | with_reducible refine E_the ?_ | with_reducible refine E_thr ?_
      | with_reducible refine E_bln ?_ | with_reducible refine E_ble ?_ | ((with_reducible refine E_blo ?_ ?_); (· rfl)) | with_reducible refine E_blr ?_
      | ((with_reducible apply E_ct); (· rfl)) | ((with_reducible apply E_cf); (· rfl)) | ((with_reducible apply E_cs); (· rfl); all_goals (intro h; (try rw [h]); (try simp only [decide_eq_true_eq, decide_eq_false_iff_not, beq_iff_eq, bne_iff_ne, beq_eq_false_iff_ne, bne_eq_false_iff_eq, ge_iff_le, gt_iff_lt, Bool.not_true, Bool.not_false] at h))))
    refine ⟨i + 1, by omega, by omega, ?_⟩
    rw [e]
    refine wk_sub ?_
    exact ⟨.inl rfl, .inl rfl, .inl rfl, .inl (congrArg _ (by rw [wrap_i64 (by omega)]; omega)), .inl rfl, trivial⟩
  have hA := hb0 t.funcs.length (Nat.le_refl _)
  rw [List.take_of_length_le (Nat.le_refl _)] at hA
  have htb : tabB t = bytes4 t.funcs.length ++ t.funcs.flatMap rowB ++ bytes4 t.sites.length ++ t.sites.flatMap siteB := rfl
  generalize bytes4 t.funcs.length ++ t.funcs.flatMap rowB = A at hA htb ⊢
  have hSB : ∀ s ∈ t.sites, (siteB s).length ≤ 8388608 := fun s hs => by
    have h1 := ht.live s hs
    have h3 := flat_le (l := s.live) (g := bytes4) (c := 4) (fun _ _ => Nat.le_refl _)
    unfold siteB
    simp only [List.length_append, bytes4_len]
    omega
  have hacc : 4 ≤ A.length ∧ A.length ≤ 1099511627776 := by omega
  refine E_cut [(1, .cptr t.av.cells 0), (4, acc (A ++ bytes4 t.sites.length))] (heapB (A ++ bytes4 t.sites.length)) True ?_ (fun _ => ?_)
  · repeat' (first
      | ((with_reducible apply E_callE (number_acc _ _ hacc)); (· rfl))
      | with_reducible refine E_seq ?_ | with_reducible refine E_reg ?_ | with_reducible refine E_thn ?_ | with_reducible refine E_nil ?_
      | ((with_reducible apply E_mv); (· first | (conv => lhs; whnf) | rfl))
      | ((with_reducible apply E_gh); (· rfl)) | ((with_reducible apply E_gm); (· rfl)) | ((with_reducible apply E_gz); (· rfl)) | ((with_reducible apply E_gs); (· rfl); all_goals (intro h; (try rw [h]); (try simp only [decide_eq_true_eq, decide_eq_false_iff_not, beq_iff_eq, bne_iff_ne, beq_eq_false_iff_ne, bne_eq_false_iff_eq, ge_iff_le, gt_iff_lt, Bool.not_true, Bool.not_false] at h)))
      | ((with_reducible apply E_pt); (· rfl); (· first | (conv => lhs; whnf) | rfl))
      | ((with_reducible apply E_pf); (· rfl); (· first | (conv => lhs; whnf) | rfl))
      | ((with_reducible apply E_len); (· rfl))
      | ((with_reducible apply E_iad); (· rfl); (· rfl); (· rfl); (· rfl); (· omega); (intro y hy; (try rw [Int.toNat_natCast] at hy)))
      | ((with_reducible apply E_op0); (· rfl); (· first | (conv => lhs; whnf) | rfl))
      | ((with_reducible apply E_op); (· rfl); (· first | (conv => lhs; whnf) | rfl); (· first | (conv => lhs; whnf) | rfl))
      | ((with_reducible apply E_do); (· rfl); (· first | (conv => lhs; whnf) | rfl))
      | ((with_reducible apply E_fin); (· first | (conv => lhs; whnf) | rfl))
      | with_reducible refine E_regp ?_ | ((with_reducible refine And.intro (a := okLog _ _) ?_ ?_); (· simp [okLog, nthL, okPair]))
      | with_reducible refine E_skip ?_ | with_reducible refine E_block ?_ | with_reducible refine E_exit ?_ | with_reducible refine E_ret ?_ | with_reducible refine E_the ?_ | with_reducible refine E_thr ?_
      | with_reducible refine E_bln ?_ | with_reducible refine E_ble ?_ | ((with_reducible refine E_blo ?_ ?_); (· rfl)) | with_reducible refine E_blr ?_
      | ((with_reducible apply E_ct); (· rfl)) | ((with_reducible apply E_cf); (· rfl)) | ((with_reducible apply E_cs); (· rfl); all_goals (intro h; (try rw [h]); (try simp only [decide_eq_true_eq, decide_eq_false_iff_not, beq_iff_eq, bne_iff_ne, beq_eq_false_iff_ne, bne_eq_false_iff_eq, ge_iff_le, gt_iff_lt, Bool.not_true, Bool.not_false] at h))))
    refine ⟨trivial, wk_sub ?_⟩
    exact ⟨.inl rfl, .inl rfl, trivial⟩
  have hA2 : (A ++ bytes4 t.sites.length).length = A.length + 4 := by rw [List.length_append, bytes4_len]
  generalize A ++ bytes4 t.sites.length = A2 at htb hA2 ⊢
  refine E_cut [(4, acc (A2 ++ t.sites.flatMap siteB))] (heapB (A2 ++ t.sites.flatMap siteB)) True ?_ (fun _ => ?_)
  · repeat' (first
      | with_reducible refine E_seq ?_ | with_reducible refine E_reg ?_ | with_reducible refine E_thn ?_ | with_reducible refine E_nil ?_
      | ((with_reducible apply E_mv); (· first | (conv => lhs; whnf) | rfl))
      | ((with_reducible apply E_gh); (· rfl)) | ((with_reducible apply E_gm); (· rfl)) | ((with_reducible apply E_gz); (· rfl)) | ((with_reducible apply E_gs); (· rfl); all_goals (intro h; (try rw [h]); (try simp only [decide_eq_true_eq, decide_eq_false_iff_not, beq_iff_eq, bne_iff_ne, beq_eq_false_iff_ne, bne_eq_false_iff_eq, ge_iff_le, gt_iff_lt, Bool.not_true, Bool.not_false] at h)))
      | ((with_reducible apply E_pt); (· rfl); (· first | (conv => lhs; whnf) | rfl))
      | ((with_reducible apply E_pf); (· rfl); (· first | (conv => lhs; whnf) | rfl))
      | ((with_reducible apply E_len); (· rfl))
      | ((with_reducible apply E_iad); (· rfl); (· rfl); (· rfl); (· rfl); (· omega); (intro y hy; (try rw [Int.toNat_natCast] at hy)))
      | ((with_reducible apply E_op0); (· rfl); (· first | (conv => lhs; whnf) | rfl))
      | ((with_reducible apply E_op); (· rfl); (· first | (conv => lhs; whnf) | rfl); (· first | (conv => lhs; whnf) | rfl))
      | ((with_reducible apply E_do); (· rfl); (· first | (conv => lhs; whnf) | rfl))
      | ((with_reducible apply E_fin); (· first | (conv => lhs; whnf) | rfl))
      | with_reducible refine E_regp ?_ | ((with_reducible refine And.intro (a := okLog _ _) ?_ ?_); (· simp [okLog, nthL, okPair]))
      | with_reducible refine E_skip ?_ | with_reducible refine E_block ?_ | with_reducible refine E_exit ?_ | with_reducible refine E_ret ?_ | with_reducible refine E_the ?_ | with_reducible refine E_thr ?_
      | with_reducible refine E_bln ?_ | with_reducible refine E_ble ?_ | ((with_reducible refine E_blo ?_ ?_); (· rfl)) | with_reducible refine E_blr ?_
      | ((with_reducible apply E_ct); (· rfl)) | ((with_reducible apply E_cf); (· rfl)) | ((with_reducible apply E_cs); (· rfl); all_goals (intro h; (try rw [h]); (try simp only [decide_eq_true_eq, decide_eq_false_iff_not, beq_iff_eq, bne_iff_ne, beq_eq_false_iff_ne, bne_eq_false_iff_eq, ge_iff_le, gt_iff_lt, Bool.not_true, Bool.not_false] at h))))
    have hlf : t.sites.length ≤ 65536 := hlen.2
    refine E_loop (ι := Nat) (fun (j : Nat) => [(1, .cptr t.av.cells 0), (92, .sl false 2 (t.sites.map Site.av)), (93, .int .i64 t.sites.length), (94, .int .i64 j), (4, acc (A2 ++ (t.sites.take j).flatMap siteB))]) (fun j => heapB (A2 ++ (t.sites.take j).flatMap siteB)) (fun j => j ≤ t.sites.length) (fun j => t.sites.length - j) 0 (by omega) (wk_sub' (by simp) ?_) ?_
    · exact ⟨.inl rfl, .inl rfl, .inl rfl, .inl rfl, .inl (by simp [Fr.get]), trivial⟩
    intro j hj
    have hfl := flat_le (l := t.sites.take j) (g := siteB) (c := 8388608) (fun x hx => by first | exact Nat.le_refl _ | (simp [bytes4_len]; done) | exact hSB x (List.mem_of_mem_take hx))
    have htk : (t.sites.take j).length ≤ t.sites.length := by simp; omega
    have e1 : ∀ y, t.sites[j]? = some y → (A2 ++ (t.sites.take (j + 1)).flatMap siteB) = (A2 ++ (t.sites.take j).flatMap siteB) ++ siteB y := fun y hy => by rw [take_succ' hy]; simp
    have e2 : t.sites.length ≤ j → (A2 ++ (t.sites.take j).flatMap siteB) = A2 ++ t.sites.flatMap siteB := fun h => by rw [List.take_of_length_le h]
    have hcl : (A2 ++ (t.sites.take j).flatMap siteB).length = A2.length + ((t.sites.take j).flatMap siteB).length := List.length_append
    generalize (A2 ++ (t.sites.take j).flatMap siteB) = C at e1 e2 hcl ⊢
    have hacc : 4 ≤ C.length ∧ C.length ≤ 1099511627776 := by omega
    have hacc2 : ∀ v, 4 ≤ (C ++ bytes4 v).length ∧ (C ++ bytes4 v).length ≤ 1099511627776 := fun v => by rw [List.length_append, bytes4_len]; omega
    refine E_cut [(1, .cptr t.av.cells 0), (92, .sl false 2 (t.sites.map Site.av)), (93, .int .i64 t.sites.length), (94, .int .i64 j), (4, acc C), (95, .bool (decide ((j : Int) < t.sites.length)))] (heapB C) True ?_ (fun _ => ?_)
    · repeat' (first
        | with_reducible refine E_seq ?_ | with_reducible refine E_reg ?_ | with_reducible refine E_thn ?_ | with_reducible refine E_nil ?_
        | ((with_reducible apply E_mv); (· first | (conv => lhs; whnf) | rfl))
        | ((with_reducible apply E_gh); (· rfl)) | ((with_reducible apply E_gm); (· rfl)) | ((with_reducible apply E_gz); (· rfl)) | ((with_reducible apply E_gs); (· rfl); all_goals (intro h; (try rw [h]); (try simp only [decide_eq_true_eq, decide_eq_false_iff_not, beq_iff_eq, bne_iff_ne, beq_eq_false_iff_ne, bne_eq_false_iff_eq, ge_iff_le, gt_iff_lt, Bool.not_true, Bool.not_false] at h)))
        | ((with_reducible apply E_pt); (· rfl); (· first | (conv => lhs; whnf) | rfl))
        | ((with_reducible apply E_pf); (· rfl); (· first | (conv => lhs; whnf) | rfl))
        | ((with_reducible apply E_len); (· rfl))
        | ((with_reducible apply E_iad); (· rfl); (· rfl); (· rfl); (· rfl); (· omega); (intro y hy; (try rw [Int.toNat_natCast] at hy)))
        | ((with_reducible apply E_op0); (· rfl); (· first | (conv => lhs; whnf) | rfl))
        | ((with_reducible apply E_op); (· rfl); (· first | (conv => lhs; whnf) | rfl); (· first | (conv => lhs; whnf) | rfl))
        | ((with_reducible apply E_do); (· rfl); (· first | (conv => lhs; whnf) | rfl))
        | ((with_reducible apply E_fin); (· first | (conv => lhs; whnf) | rfl))
        | with_reducible refine E_regp ?_ | ((with_reducible refine And.intro (a := okLog _ _) ?_ ?_); (· simp [okLog, nthL, okPair]))
        | with_reducible refine E_skip ?_ | with_reducible refine E_block ?_ | with_reducible refine E_exit ?_ | with_reducible refine E_ret ?_ | with_reducible refine E_the ?_ | with_reducible refine E_thr ?_
        | with_reducible refine E_bln ?_ | with_reducible refine E_ble ?_ | ((with_reducible refine E_blo ?_ ?_); (· rfl)) | with_reducible refine E_blr ?_
        | ((with_reducible apply E_ct); (· rfl)) | ((with_reducible apply E_cf); (· rfl)) | ((with_reducible apply E_cs); (· rfl); all_goals (intro h; (try rw [h]); (try simp only [decide_eq_true_eq, decide_eq_false_iff_not, beq_iff_eq, bne_iff_ne, beq_eq_false_iff_ne, bne_eq_false_iff_eq, ge_iff_le, gt_iff_lt, Bool.not_true, Bool.not_false] at h))))
      refine ⟨trivial, wk_sub ?_⟩
      exact ⟨.inl rfl, .inl rfl, .inl rfl, .inl rfl, .inl rfl, .inl rfl, trivial⟩
    refine E_cut [(1, .cptr t.av.cells 0), (92, .sl false 2 (t.sites.map Site.av)), (93, .int .i64 t.sites.length), (94, .int .i64 j), (4, acc C)] (heapB C) (j < t.sites.length) ?_ (fun hlt => ?_)
    · repeat' (first
        | with_reducible refine E_seq ?_ | with_reducible refine E_reg ?_ | with_reducible refine E_thn ?_ | with_reducible refine E_nil ?_
        | ((with_reducible apply E_mv); (· first | (conv => lhs; whnf) | rfl))
        | ((with_reducible apply E_gh); (· rfl)) | ((with_reducible apply E_gm); (· rfl)) | ((with_reducible apply E_gz); (· rfl)) | ((with_reducible apply E_gs); (· rfl); all_goals (intro h; (try rw [h]); (try simp only [decide_eq_true_eq, decide_eq_false_iff_not, beq_iff_eq, bne_iff_ne, beq_eq_false_iff_ne, bne_eq_false_iff_eq, ge_iff_le, gt_iff_lt, Bool.not_true, Bool.not_false] at h)))
        | ((with_reducible apply E_pt); (· rfl); (· first | (conv => lhs; whnf) | rfl))
        | ((with_reducible apply E_pf); (· rfl); (· first | (conv => lhs; whnf) | rfl))
        | ((with_reducible apply E_len); (· rfl))
        | ((with_reducible apply E_iad); (· rfl); (· rfl); (· rfl); (· rfl); (· omega); (intro y hy; (try rw [Int.toNat_natCast] at hy)))
        | ((with_reducible apply E_op0); (· rfl); (· first | (conv => lhs; whnf) | rfl))
        | ((with_reducible apply E_op); (· rfl); (· first | (conv => lhs; whnf) | rfl); (· first | (conv => lhs; whnf) | rfl))
        | ((with_reducible apply E_do); (· rfl); (· first | (conv => lhs; whnf) | rfl))
        | ((with_reducible apply E_fin); (· first | (conv => lhs; whnf) | rfl))
        | with_reducible refine E_regp ?_ | ((with_reducible refine And.intro (a := okLog _ _) ?_ ?_); (· simp [okLog, nthL, okPair]))
        | with_reducible refine E_skip ?_ | with_reducible refine E_block ?_ | with_reducible refine E_exit ?_ | with_reducible refine E_ret ?_ | with_reducible refine E_the ?_ | with_reducible refine E_thr ?_
        | with_reducible refine E_bln ?_ | with_reducible refine E_ble ?_ | ((with_reducible refine E_blo ?_ ?_); (· rfl)) | with_reducible refine E_blr ?_
        | ((with_reducible apply E_ct); (· rfl)) | ((with_reducible apply E_cf); (· rfl)) | ((with_reducible apply E_cs); (· rfl); all_goals (intro h; (try rw [h]); (try simp only [decide_eq_true_eq, decide_eq_false_iff_not, beq_iff_eq, bne_iff_ne, beq_eq_false_iff_ne, bne_eq_false_iff_eq, ge_iff_le, gt_iff_lt, Bool.not_true, Bool.not_false] at h))))
      · refine ⟨by omega, wk_sub ?_⟩
        exact ⟨.inl rfl, .inl rfl, .inl rfl, .inl rfl, .inl rfl, trivial⟩
      · rw [← e2 (by omega)]
        refine ⟨trivial, wk_sub ?_⟩
        exact ⟨.inl rfl, trivial⟩
    obtain ⟨s0, hs0⟩ : ∃ s0, t.sites[j]? = some s0 := ⟨_, List.getElem?_eq_getElem hlt⟩
    refine E_cut [(1, .cptr t.av.cells 0), (92, .sl false 2 (t.sites.map Site.av)), (93, .int .i64 t.sites.length), (94, .int .i64 j), (4, acc (C ++ siteB s0))] (heapB (C ++ siteB s0)) True ?_ (fun _ => ?_)
    · with_reducible refine E_block ?_
      refine E_cut [(1, .cptr t.av.cells 0), (92, .sl false 2 (t.sites.map Site.av)), (93, .int .i64 t.sites.length), (94, .int .i64 j), (4, acc C), (14, .cptr s0.av.cells 0)] (heapB C) True ?_ (fun _ => ?_)
      · repeat' (first
          | with_reducible refine E_seq ?_ | with_reducible refine E_reg ?_ | with_reducible refine E_thn ?_ | with_reducible refine E_nil ?_
          | ((with_reducible apply E_mv); (· first | (conv => lhs; whnf) | rfl))
          | ((with_reducible apply E_gh); (· rfl)) | ((with_reducible apply E_gm); (· rfl)) | ((with_reducible apply E_gz); (· rfl)) | ((with_reducible apply E_gs); (· rfl); all_goals (intro h; (try rw [h]); (try simp only [decide_eq_true_eq, decide_eq_false_iff_not, beq_iff_eq, bne_iff_ne, beq_eq_false_iff_ne, bne_eq_false_iff_eq, ge_iff_le, gt_iff_lt, Bool.not_true, Bool.not_false] at h)))
          | ((with_reducible apply E_pt); (· rfl); (· first | (conv => lhs; whnf) | rfl))
          | ((with_reducible apply E_pf); (· rfl); (· first | (conv => lhs; whnf) | rfl))
          | ((with_reducible apply E_len); (· rfl))
          | ((with_reducible apply E_iad); (· rfl); (· rfl); (· rfl); (· rfl); (· omega); (intro y hy; (try rw [Int.toNat_natCast] at hy)))
          | ((with_reducible apply E_op0); (· rfl); (· first | (conv => lhs; whnf) | rfl))
          | ((with_reducible apply E_op); (· rfl); (· first | (conv => lhs; whnf) | rfl); (· first | (conv => lhs; whnf) | rfl))
          | ((with_reducible apply E_do); (· rfl); (· first | (conv => lhs; whnf) | rfl))
          | ((with_reducible apply E_fin); (· first | (conv => lhs; whnf) | rfl))
          | with_reducible refine E_regp ?_ | ((with_reducible refine And.intro (a := okLog _ _) ?_ ?_); (· simp [okLog, nthL, okPair]))
          | with_reducible refine E_skip ?_ | with_reducible refine E_block ?_ | with_reducible refine E_exit ?_ | with_reducible refine E_ret ?_ | with_reducible refine E_the ?_ | with_reducible refine E_thr ?_
          | with_reducible refine E_bln ?_ | with_reducible refine E_ble ?_ | ((with_reducible refine E_blo ?_ ?_); (· rfl)) | with_reducible refine E_blr ?_
          | ((with_reducible apply E_ct); (· rfl)) | ((with_reducible apply E_cf); (· rfl)) | ((with_reducible apply E_cs); (· rfl); all_goals (intro h; (try rw [h]); (try simp only [decide_eq_true_eq, decide_eq_false_iff_not, beq_iff_eq, bne_iff_ne, beq_eq_false_iff_ne, bne_eq_false_iff_eq, ge_iff_le, gt_iff_lt, Bool.not_true, Bool.not_false] at h))))
        obtain rfl : y = s0 := by rw [hs0] at hy; exact (Option.some.inj hy).symm
        refine ⟨trivial, wk_frz (S1 := heapB C) (ver := 0) (cs := y.av.cells) rfl (by simp) (Site.blw _ y) (heapB_blw C) ?_⟩
        exact ⟨.inl ⟨rfl, Tab.blw _ t⟩, .inl ⟨rfl, blwL_map (Site.blw _) _⟩, .inl ⟨rfl, rfl⟩, .inl ⟨rfl, rfl⟩, .inl ⟨rfl, rfl⟩, .inr ⟨0, rfl, rfl⟩, trivial⟩
      refine E_cut [(1, .cptr t.av.cells 0), (92, .sl false 2 (t.sites.map Site.av)), (93, .int .i64 t.sites.length), (94, .int .i64 j), (14, .cptr s0.av.cells 0), (4, acc (C ++ bytes4 s0.place ++ bytes4 s0.live.length))] (heapB (C ++ bytes4 s0.place ++ bytes4 s0.live.length)) True ?_ (fun _ => ?_)
      · repeat' (first
          | ((with_reducible apply E_callE (number_acc _ _ hacc)); (· rfl))
          | ((with_reducible apply E_callE (number_acc _ _ (hacc2 _))); (· rfl))
          | with_reducible refine E_seq ?_ | with_reducible refine E_reg ?_ | with_reducible refine E_thn ?_ | with_reducible refine E_nil ?_
          | ((with_reducible apply E_mv); (· first | (conv => lhs; whnf) | rfl))
          | ((with_reducible apply E_gh); (· rfl)) | ((with_reducible apply E_gm); (· rfl)) | ((with_reducible apply E_gz); (· rfl)) | ((with_reducible apply E_gs); (· rfl); all_goals (intro h; (try rw [h]); (try simp only [decide_eq_true_eq, decide_eq_false_iff_not, beq_iff_eq, bne_iff_ne, beq_eq_false_iff_ne, bne_eq_false_iff_eq, ge_iff_le, gt_iff_lt, Bool.not_true, Bool.not_false] at h)))
          | ((with_reducible apply E_pt); (· rfl); (· first | (conv => lhs; whnf) | rfl))
          | ((with_reducible apply E_pf); (· rfl); (· first | (conv => lhs; whnf) | rfl))
          | ((with_reducible apply E_len); (· rfl))
          | ((with_reducible apply E_iad); (· rfl); (· rfl); (· rfl); (· rfl); (· omega); (intro y hy; (try rw [Int.toNat_natCast] at hy)))
          | ((with_reducible apply E_op0); (· rfl); (· first | (conv => lhs; whnf) | rfl))
          | ((with_reducible apply E_op); (· rfl); (· first | (conv => lhs; whnf) | rfl); (· first | (conv => lhs; whnf) | rfl))
          | ((with_reducible apply E_do); (· rfl); (· first | (conv => lhs; whnf) | rfl))
          | ((with_reducible apply E_fin); (· first | (conv => lhs; whnf) | rfl))
          | with_reducible refine E_regp ?_ | ((with_reducible refine And.intro (a := okLog _ _) ?_ ?_); (· simp [okLog, nthL, okPair]))
          | with_reducible refine E_skip ?_ | with_reducible refine E_block ?_ | with_reducible refine E_exit ?_ | with_reducible refine E_ret ?_ | with_reducible refine E_the ?_ | with_reducible refine E_thr ?_
          | with_reducible refine E_bln ?_ | with_reducible refine E_ble ?_ | ((with_reducible refine E_blo ?_ ?_); (· rfl)) | with_reducible refine E_blr ?_
          | ((with_reducible apply E_ct); (· rfl)) | ((with_reducible apply E_cf); (· rfl)) | ((with_reducible apply E_cs); (· rfl); all_goals (intro h; (try rw [h]); (try simp only [decide_eq_true_eq, decide_eq_false_iff_not, beq_iff_eq, bne_iff_ne, beq_eq_false_iff_ne, bne_eq_false_iff_eq, ge_iff_le, gt_iff_lt, Bool.not_true, Bool.not_false] at h))))
        refine ⟨trivial, wk_sub ?_⟩
        exact ⟨.inl rfl, .inl rfl, .inl rfl, .inl rfl, .inl rfl, .inl rfl, trivial⟩
      have hD : (C ++ bytes4 s0.place ++ bytes4 s0.live.length).length = C.length + 8 := by rw [List.length_append, List.length_append, bytes4_len, bytes4_len]
      have hsd : C ++ siteB s0 = (C ++ bytes4 s0.place ++ bytes4 s0.live.length) ++ s0.live.flatMap bytes4 := by simp [siteB]
      rw [hsd]
      generalize (C ++ bytes4 s0.place ++ bytes4 s0.live.length) = D at hD ⊢
      have hsl := ht.live s0 (List.mem_of_getElem? hs0)
      repeat' (first
        | with_reducible refine E_seq ?_ | with_reducible refine E_reg ?_ | with_reducible refine E_thn ?_ | with_reducible refine E_nil ?_
        | ((with_reducible apply E_mv); (· first | (conv => lhs; whnf) | rfl))
        | ((with_reducible apply E_gh); (· rfl)) | ((with_reducible apply E_gm); (· rfl)) | ((with_reducible apply E_gz); (· rfl)) | ((with_reducible apply E_gs); (· rfl); all_goals (intro h; (try rw [h]); (try simp only [decide_eq_true_eq, decide_eq_false_iff_not, beq_iff_eq, bne_iff_ne, beq_eq_false_iff_ne, bne_eq_false_iff_eq, ge_iff_le, gt_iff_lt, Bool.not_true, Bool.not_false] at h)))
        | ((with_reducible apply E_pt); (· rfl); (· first | (conv => lhs; whnf) | rfl))
        | ((with_reducible apply E_pf); (· rfl); (· first | (conv => lhs; whnf) | rfl))
        | ((with_reducible apply E_len); (· rfl))
        | ((with_reducible apply E_iad); (· rfl); (· rfl); (· rfl); (· rfl); (· omega); (intro y hy; (try rw [Int.toNat_natCast] at hy)))
        | ((with_reducible apply E_op0); (· rfl); (· first | (conv => lhs; whnf) | rfl))
        | ((with_reducible apply E_op); (· rfl); (· first | (conv => lhs; whnf) | rfl); (· first | (conv => lhs; whnf) | rfl))
        | ((with_reducible apply E_do); (· rfl); (· first | (conv => lhs; whnf) | rfl))
        | ((with_reducible apply E_fin); (· first | (conv => lhs; whnf) | rfl))
        | with_reducible refine E_regp ?_ | ((with_reducible refine And.intro (a := okLog _ _) ?_ ?_); (· simp [okLog, nthL, okPair]))
        | with_reducible refine E_skip ?_ | with_reducible refine E_block ?_ | with_reducible refine E_exit ?_ | with_reducible refine E_ret ?_ | with_reducible refine E_the ?_ | with_reducible refine E_thr ?_
        | with_reducible refine E_bln ?_ | with_reducible refine E_ble ?_ | ((with_reducible refine E_blo ?_ ?_); (· rfl)) | with_reducible refine E_blr ?_
        | ((with_reducible apply E_ct); (· rfl)) | ((with_reducible apply E_cf); (· rfl)) | ((with_reducible apply E_cs); (· rfl); all_goals (intro h; (try rw [h]); (try simp only [decide_eq_true_eq, decide_eq_false_iff_not, beq_iff_eq, bne_iff_ne, beq_eq_false_iff_ne, bne_eq_false_iff_eq, ge_iff_le, gt_iff_lt, Bool.not_true, Bool.not_false] at h))))
      have hlf : s0.live.length ≤ 1048576 := hsl
      refine E_loop (ι := Nat) (fun (q : Nat) => [(1, .cptr t.av.cells 0), (92, .sl false 2 (t.sites.map Site.av)), (93, .int .i64 t.sites.length), (94, .int .i64 j), (14, .cptr s0.av.cells 0), (107, .sl false 1 (s0.live.map iav)), (108, .int .i64 s0.live.length), (109, .int .i64 q), (4, acc (D ++ (s0.live.take q).flatMap bytes4))]) (fun q => heapB (D ++ (s0.live.take q).flatMap bytes4)) (fun q => q ≤ s0.live.length) (fun q => s0.live.length - q) 0 (by omega) (wk_sub' (by simp) ?_) ?_
      · exact ⟨.inl rfl, .inl rfl, .inl rfl, .inl rfl, .inl rfl, .inl rfl, .inl rfl, .inl rfl, .inl (by simp [Fr.get]), trivial⟩
      intro q hj
      have hfl := flat_le (l := s0.live.take q) (g := bytes4) (c := 4) (fun _ _ => by first | exact Nat.le_refl _ | simp [bytes4_len])
      have htk : (s0.live.take q).length ≤ s0.live.length := by simp; omega
      have hacc : 4 ≤ (D ++ (s0.live.take q).flatMap bytes4).length ∧ (D ++ (s0.live.take q).flatMap bytes4).length ≤ 1099511627776 := by rw [List.length_append]; omega
      have hacc2 : ∀ v, 4 ≤ ((D ++ (s0.live.take q).flatMap bytes4) ++ bytes4 v).length ∧ ((D ++ (s0.live.take q).flatMap bytes4) ++ bytes4 v).length ≤ 1099511627776 := fun v => by rw [List.length_append, List.length_append, bytes4_len]; omega
      have hlc : s0.live.length ≤ s0.live.length := Nat.le_refl _
      repeat' (first
        | ((with_reducible apply E_callE (number_acc _ _ hacc)); (· rfl))
        | with_reducible refine E_seq ?_ | with_reducible refine E_reg ?_ | with_reducible refine E_thn ?_ | with_reducible refine E_nil ?_
        | ((with_reducible apply E_mv); (· first | (conv => lhs; whnf) | rfl))
        | ((with_reducible apply E_gh); (· rfl)) | ((with_reducible apply E_gm); (· rfl)) | ((with_reducible apply E_gz); (· rfl)) | ((with_reducible apply E_gs); (· rfl); all_goals (intro h; (try rw [h]); (try simp only [decide_eq_true_eq, decide_eq_false_iff_not, beq_iff_eq, bne_iff_ne, beq_eq_false_iff_ne, bne_eq_false_iff_eq, ge_iff_le, gt_iff_lt, Bool.not_true, Bool.not_false] at h)))
        | ((with_reducible apply E_pt); (· rfl); (· first | (conv => lhs; whnf) | rfl))
        | ((with_reducible apply E_pf); (· rfl); (· first | (conv => lhs; whnf) | rfl))
        | ((with_reducible apply E_len); (· rfl))
        | ((with_reducible apply E_iad); (· rfl); (· rfl); (· rfl); (· rfl); (· omega); (intro y hy; (try rw [Int.toNat_natCast] at hy)))
        | ((with_reducible apply E_op0); (· rfl); (· first | (conv => lhs; whnf) | rfl))
        | ((with_reducible apply E_op); (· rfl); (· first | (conv => lhs; whnf) | rfl); (· first | (conv => lhs; whnf) | rfl))
        | ((with_reducible apply E_do); (· rfl); (· first | (conv => lhs; whnf) | rfl))
        | ((with_reducible apply E_fin); (· first | (conv => lhs; whnf) | rfl))
        | with_reducible refine E_regp ?_ | ((with_reducible refine And.intro (a := okLog _ _) ?_ ?_); (· simp [okLog, nthL, okPair]))
        | with_reducible refine E_skip ?_ | with_reducible refine E_block ?_ | with_reducible refine E_exit ?_ | with_reducible refine E_ret ?_ | with_reducible refine E_the ?_ | with_reducible refine E_thr ?_
        | with_reducible refine E_bln ?_ | with_reducible refine E_ble ?_ | ((with_reducible refine E_blo ?_ ?_); (· rfl)) | with_reducible refine E_blr ?_
        | ((with_reducible apply E_ct); (· rfl)) | ((with_reducible apply E_cf); (· rfl)) | ((with_reducible apply E_cs); (· rfl); all_goals (intro h; (try rw [h]); (try simp only [decide_eq_true_eq, decide_eq_false_iff_not, beq_iff_eq, bne_iff_ne, beq_eq_false_iff_ne, bne_eq_false_iff_eq, ge_iff_le, gt_iff_lt, Bool.not_true, Bool.not_false] at h))))
      · have e : (D ++ (s0.live.take (q + 1)).flatMap bytes4) = (D ++ (s0.live.take q).flatMap bytes4) ++ bytes4 y := by rw [take_succ' hy]; simp
        refine ⟨q + 1, by omega, by omega, ?_⟩
        rw [e]
        refine wk_sub ?_
        exact ⟨.inl rfl, .inl rfl, .inl rfl, .inl rfl, .inl rfl, .inl rfl, .inl rfl, .inl (congrArg _ (by rw [wrap_i64 (by omega)]; omega)), .inl rfl, trivial⟩
      · have e : s0.live.take q = s0.live := List.take_of_length_le (by omega)
        rw [e]
        refine ⟨trivial, wk_sub ?_⟩
        exact ⟨.inl rfl, .inl rfl, .inl rfl, .inl rfl, .inl rfl, trivial⟩
    repeat' (first
      | with_reducible refine E_seq ?_ | with_reducible refine E_reg ?_ | with_reducible refine E_thn ?_ | with_reducible refine E_nil ?_
      | ((with_reducible apply E_mv); (· first | (conv => lhs; whnf) | rfl))
      | ((with_reducible apply E_gh); (· rfl)) | ((with_reducible apply E_gm); (· rfl)) | ((with_reducible apply E_gz); (· rfl)) | ((with_reducible apply E_gs); (· rfl); all_goals (intro h; (try rw [h]); (try simp only [decide_eq_true_eq, decide_eq_false_iff_not, beq_iff_eq, bne_iff_ne, beq_eq_false_iff_ne, bne_eq_false_iff_eq, ge_iff_le, gt_iff_lt, Bool.not_true, Bool.not_false] at h)))
      | ((with_reducible apply E_pt); (· rfl); (· first | (conv => lhs; whnf) | rfl))
      | ((with_reducible apply E_pf); (· rfl); (· first | (conv => lhs; whnf) | rfl))
      | ((with_reducible apply E_len); (· rfl))
      | ((with_reducible apply E_iad); (· rfl); (· rfl); (· rfl); (· rfl); (· omega); (intro y hy; (try rw [Int.toNat_natCast] at hy)))
      | ((with_reducible apply E_op0); (· rfl); (· first | (conv => lhs; whnf) | rfl))
      | ((with_reducible apply E_op); (· rfl); (· first | (conv => lhs; whnf) | rfl); (· first | (conv => lhs; whnf) | rfl))
      | ((with_reducible apply E_do); (· rfl); (· first | (conv => lhs; whnf) | rfl))
      | ((with_reducible apply E_fin); (· first | (conv => lhs; whnf) | rfl))
      | with_reducible refine E_regp ?_ | ((with_reducible refine And.intro (a := okLog _ _) ?_ ?_); (· simp [okLog, nthL, okPair]))
      | with_reducible refine E_skip ?_ | with_reducible refine E_block ?_ | with_reducible refine E_exit ?_ | with_reducible refine E_ret ?_ | with_reducible refine E_the ?_ | with_reducible refine E_thr ?_
      | with_reducible refine E_bln ?_ | with_reducible refine E_ble ?_ | ((with_reducible refine E_blo ?_ ?_); (· rfl)) | with_reducible refine E_blr ?_
      | ((with_reducible apply E_ct); (· rfl)) | ((with_reducible apply E_cf); (· rfl)) | ((with_reducible apply E_cs); (· rfl); all_goals (intro h; (try rw [h]); (try simp only [decide_eq_true_eq, decide_eq_false_iff_not, beq_iff_eq, bne_iff_ne, beq_eq_false_iff_ne, bne_eq_false_iff_eq, ge_iff_le, gt_iff_lt, Bool.not_true, Bool.not_false] at h))))
    refine ⟨j + 1, by omega, by omega, ?_⟩
    rw [e1 s0 hs0]
    refine wk_sub ?_
    exact ⟨.inl rfl, .inl rfl, .inl rfl, .inl (congrArg _ (by rw [wrap_i64 (by omega)]; omega)), .inl rfl, trivial⟩

  rw [← htb]
  repeat' (first
    | with_reducible refine E_seq ?_ | with_reducible refine E_reg ?_ | with_reducible refine E_thn ?_ | with_reducible refine E_nil ?_
    | ((with_reducible apply E_mv); (· first | (conv => lhs; whnf) | rfl))
    | ((with_reducible apply E_gh); (· rfl)) | ((with_reducible apply E_gm); (· rfl)) | ((with_reducible apply E_gz); (· rfl)) | ((with_reducible apply E_gs); (· rfl); all_goals (intro h; (try rw [h]); (try simp only [decide_eq_true_eq, decide_eq_false_iff_not, beq_iff_eq, bne_iff_ne, beq_eq_false_iff_ne, bne_eq_false_iff_eq, ge_iff_le, gt_iff_lt, Bool.not_true, Bool.not_false] at h)))
    | ((with_reducible apply E_pt); (· rfl); (· first | (conv => lhs; whnf) | rfl))
    | ((with_reducible apply E_pf); (· rfl); (· first | (conv => lhs; whnf) | rfl))
    | ((with_reducible apply E_len); (· rfl))
    | ((with_reducible apply E_iad); (· rfl); (· rfl); (· rfl); (· rfl); (· omega); (intro y hy; (try rw [Int.toNat_natCast] at hy)))
    | ((with_reducible apply E_op0); (· rfl); (· first | (conv => lhs; whnf) | rfl))
    | ((with_reducible apply E_op); (· rfl); (· first | (conv => lhs; whnf) | rfl); (· first | (conv => lhs; whnf) | rfl))
    | ((with_reducible apply E_do); (· rfl); (· first | (conv => lhs; whnf) | rfl))
    | ((with_reducible apply E_fin); (· first | (conv => lhs; whnf) | rfl))
    | with_reducible refine E_regp ?_ | ((with_reducible refine And.intro (a := okLog _ _) ?_ ?_); (· simp [okLog, nthL, okPair]))
    | with_reducible refine E_skip ?_ | with_reducible refine E_block ?_ | with_reducible refine E_exit ?_ | with_reducible refine E_ret ?_ | with_reducible refine E_the ?_ | with_reducible refine E_thr ?_
    | with_reducible refine E_bln ?_ | with_reducible refine E_ble ?_ | ((with_reducible refine E_blo ?_ ?_); (· rfl)) | with_reducible refine E_blr ?_
    | ((with_reducible apply E_ct); (· rfl)) | ((with_reducible apply E_cf); (· rfl)) | ((with_reducible apply E_cs); (· rfl); all_goals (intro h; (try rw [h]); (try simp only [decide_eq_true_eq, decide_eq_false_iff_not, beq_iff_eq, bne_iff_ne, beq_eq_false_iff_ne, bne_eq_false_iff_eq, ge_iff_le, gt_iff_lt, Bool.not_true, Bool.not_false] at h))))
  refine ⟨trivial, [(2, .sl false 1 ((tabB t).map bav)), (3, .int .i64 0)], wk_out rfl rfl, ?_⟩
  unfold encS; rw [hok]; rfl
end Go.Proofs.Ytnmicfhdpnabcaa
