/- What ref7.Right says: the same as ir.Check. -/
import Derived.Test.YtgoejecjmodjiaaDoorGenR
namespace Go.Proofs.YtgoejecjmodjiaaDoor
open Go Go.Ab
set_option linter.unusedVariables false
set_option linter.unusedSimpArgs false
theorem rIn_eq (l : List Int) (v : Int) (hl : l.length ≤ 4611686018427387904) : windlassref07_In_s l v = some (decide (v ∈ l)) := by
  unfold windlassref07_In_s
  refine (rng_check (xs := l) v (fun _ x => !(x == v)) true hl (fun i x hx => ?_)).trans ?_
  · cases x == v <;> simp
  · rw [allIx_all]
    by_cases h : v ∈ l
    · have : (l.all fun x => !(x == v)) = false := by
        rw [List.all_eq_false]; exact ⟨v, h, by simp⟩
      rw [this]; simp [h]
    · have : (l.all fun x => !(x == v)) = true := by
        rw [List.all_eq_true]; intro x hx
        have : x ≠ v := fun e => h (e ▸ hx)
        simpa using this
      rw [this]; simp [h]
theorem fits_eq (g : Graph) (p k : Int) : windlassref07_fits_s g false p k = some (fitB g k p) := by
  unfold windlassref07_fits_s
  simp only [jp, decide_eq_true_eq]
  by_cases h1 : p ≥ 0
  case neg =>
    have : fitB g k p = false := by unfold fitB; simp; omega
    simp [this, h1]
  by_cases h2 : p < (List.length g.Kinds : Int)
  case neg =>
    have : fitB g k p = false := by unfold fitB; simp; omega
    simp [this, h1, h2]
  obtain ⟨q, rfl⟩ : ∃ i : Nat, p = (i : Int) := ⟨p.toNat, by omega⟩
  have hq : q < g.Kinds.length := by omega
  have e : fitB g k (q : Int) = (g.Kinds[q] == k) := by
    unfold fitB
    rw [getI_n, List.getElem?_eq_getElem hq]
    simp [hq]
  rw [e, if_pos h1, if_pos h2, getI_n, List.getElem?_eq_getElem hq]
  simp
theorem rNext_eq (n : Node) : windlassref07_Next_s n = some (nextL n) := by
  unfold windlassref07_Next_s nextL
  simp only [jp, beq_iff_eq, decide_eq_true_eq, bne_iff_ne, ne_eq]
  by_cases h12 : n.Op = 12
  · simp [h12]
  by_cases h14 : n.Op = 14
  · simp [h14]
  by_cases h18 : n.Op = 18
  · simp [h18]
  by_cases h9 : n.Op = 9
  · by_cases he : n.Else = n.Next <;> simp [h9, he]
  by_cases h1 : n.Op < 1
  · simp [h1, h12, h14, h18, h9]
  by_cases h2 : n.Op > 18 <;> simp [h1, h2, h12, h14, h18, h9]
theorem rHead_eq (g : Graph) : windlassref07_head_s g false = some (headB g) := by
  unfold windlassref07_head_s headB
  simp only [jp, Bool.false_eq_true, if_false]
  by_cases h1 : g.Kinds.length ≤ 1024
  case neg =>
    have h1' : (g.Kinds.length : Int) > 1024 := by omega
    simp [h1, h1']
  have h1' : ¬ ((g.Kinds.length : Int) > 1024) := by omega
  simp only [h1', decide_false, Bool.false_eq_true, if_false, h1, decide_true, Bool.true_and]
  have hk : ∀ (f : Unit → Option Bool), ((rng (fun (i_4 : Nat) (k_5 : Int) (s_3 : Unit) => ((if (decide (k_5 > 1)) then (some (.ret (some false))) else (some (.nxt ()))) : Option (Stp Unit (Option Bool)))) g.Kinds ()).bind (oc f)) = if (g.Kinds.any fun k => decide (k > 1)) = true then some false else f () := fun f => by
    refine (rng_check (xs := g.Kinds) () (fun _ x => !decide (x > 1)) false (by omega) (fun i x hx => ?_)).trans ?_
    · by_cases h : x > 1 <;> simp [h]
    · rw [allIx_all]
      have e : (g.Kinds.all fun x => !decide (x > 1)) = !(g.Kinds.any fun k => decide (k > 1)) := by
        rw [List.not_any_eq_all_not]
      rw [e]
      cases g.Kinds.any fun k => decide (k > 1) <;> simp
  by_cases h3 : g.Params.length ≤ 4
  case neg =>
    have h3' : (g.Params.length : Int) > 4 := by omega
    simp [h3, h3']
  have h3' : ¬ ((g.Params.length : Int) > 4) := by omega
  simp only [h3', decide_false, Bool.false_eq_true, if_false, h3, decide_true, Bool.true_and]
  by_cases h4 : g.Init.length = g.Params.length
  case neg =>
    have h4' : ((g.Init.length : Int) != (g.Params.length : Int)) = true := by simp; omega
    simp [h4, h4']
  have h4' : ((g.Init.length : Int) != (g.Params.length : Int)) = false := by simp; omega
  simp only [h4', Bool.false_eq_true, if_false]
  simp only [h4, decide_true, Bool.true_and]
  by_cases h5 : 0 ≤ g.Cells
  case neg =>
    have h5' : g.Cells < 0 := by omega
    simp [h5, h5']
  have h5' : ¬ (g.Cells < 0) := by omega
  by_cases h6 : g.Cells ≤ 64
  case neg =>
    have h6' : g.Cells > 64 := by omega
    simp [h5', h6, h6']
  have h6' : ¬ (g.Cells > 64) := by omega
  simp only [h5', h6', decide_false, Bool.false_eq_true, if_false, h5, h6, and_self, decide_true, Bool.true_and]
  by_cases h7 : g.Keep < -1
  · have : (decide (g.Keep = -1) || cellB g g.Keep) = false := by unfold cellB; simp; omega
    simp [h7, this]
  by_cases h8 : g.Keep ≥ g.Cells
  · have : (decide (g.Keep = -1) || cellB g g.Keep) = false := by unfold cellB; simp; omega
    simp [h7, h8, this]
  have : (decide (g.Keep = -1) || cellB g g.Keep) = true := by unfold cellB; simp; omega
  simp only [this, h7, h8, decide_false, Bool.false_eq_true, if_false, Bool.true_and]
  rw [hk]
  cases h2 : g.Kinds.any fun k => decide (k > 1) with
  | true => simp
  | false =>
  simp only [Bool.false_eq_true, if_false, Bool.not_false, Bool.true_and]
  refine (rng_check () (par1 g) false (by omega) (fun i p hx => ?_)).trans ?_
  · have hi : i < g.Params.length := (List.getElem?_eq_some_iff.1 hx).1
    have hi2 : i < g.Init.length := by omega
    have hsub : subL g.Params 0 (i : Int) = some (g.Params.take i) := by
      unfold subL; rw [if_pos (by omega)]; simp
    simp only [par1, List.getElem?_eq_getElem hi2, hsub, Option.bind_some, getI_n]
    by_cases q1 : 0 ≤ p
    case neg =>
      have q1' : p < 0 := by omega
      simp [q1, q1']
    have q1' : ¬ (p < 0) := by omega
    by_cases q2 : p < (g.Kinds.length : Int)
    case neg =>
      have q2' : p ≥ (g.Kinds.length : Int) := by omega
      simp [q1', q2, q2']
    have q2' : ¬ (p ≥ (g.Kinds.length : Int)) := by omega
    simp only [q1', q2', decide_false, Bool.false_eq_true, if_false, q1, q2, and_self, decide_true, Bool.true_and]
    rw [rIn_eq _ _ (by simp; omega)]
    by_cases q3 : p ∈ g.Params.take i
    · simp [q3]
    simp only [q3, decide_false, Option.bind_some, Bool.false_eq_true, if_false, Bool.not_false, Bool.true_and]
    by_cases q4 : g.Init[i] < -1
    · have e1 : ¬ g.Init[i] = -1 := by omega
      have e2 : cellB g g.Init[i] = false := by unfold cellB; simp; omega
      simp [q4, e1, e2]
    by_cases q5 : g.Init[i] ≥ g.Cells
    · have e1 : ¬ g.Init[i] = -1 := by omega
      have e2 : cellB g g.Init[i] = false := by unfold cellB; simp; omega
      simp [q4, q5, e1, e2]
    by_cases q6 : g.Init[i] ≥ 0
    · have e1 : ¬ g.Init[i] = -1 := by omega
      have e2 : cellB g g.Init[i] = true := by unfold cellB; simp; omega
      simp only [q4, q5, q6, e1, e2, decide_false, decide_true, Bool.false_eq_true, if_false, if_true, fits_eq, Option.bind_some, Bool.false_or, Bool.true_and]
      cases fitB g 0 p <;> simp
    · have e1 : g.Init[i] = -1 := by omega
      have e2 : -1 < g.Cells := by omega
      simp [q4, q5, q6, e1, e2]
  · cases allIx (par1 g) 0 g.Params with
    | false => simp
    | true =>
      simp only [if_true, Bool.true_and, endB]
      by_cases r1 : 1 ≤ g.Nodes.length
      case neg =>
        have r1' : ¬ ((g.Nodes.length : Int) ≥ 1) := by omega
        simp only [r1, r1', decide_false, Bool.false_eq_true, if_false, false_and]
      have r1' : (g.Nodes.length : Int) ≥ 1 := by omega
      by_cases r2 : g.Nodes.length ≤ 4096
      case neg =>
        have r2' : ¬ ((g.Nodes.length : Int) ≤ 4096) := by omega
        simp only [r1', r2, r2', decide_true, decide_false, Bool.false_eq_true, if_true, if_false, false_and, and_false]
      have r2' : (g.Nodes.length : Int) ≤ 4096 := by omega
      by_cases r3 : 0 ≤ g.Entry
      case neg =>
        have r3' : ¬ (g.Entry ≥ 0) := by omega
        simp only [r1', r2', r3, r3', decide_true, decide_false, Bool.false_eq_true, if_true, if_false, false_and, and_false]
      have r3' : g.Entry ≥ 0 := r3
      simp only [r1, r1', r2, r2', r3, r3', decide_true, if_true, true_and]
def chk (g : Graph) (b p : Int) : Bool := if b = 110 then fitB g 0 p else if b = 112 then fitB g 1 p else true
theorem want_loop (g : Graph) (w : ByteArray) (bs : List Int) (hb : bs.length = 4) (hw : ∀ i : Nat, i < 4 → strI w (i : Int) = some (bs.getD i 0)) (ps : List Int) (hp : ps.length = 4) (f : Unit → Option Bool) :
    ((rng (fun (i_12 : Nat) (p_13 : Int) (s_11 : Unit) => (((strI w (i_12 : Int)).bind fun b_15 => (if (b_15 == 110) then ((windlassref07_fits_s g false p_13 0).bind fun fit_16 => (if (!fit_16) then (some (.ret (some false))) else (some (.nxt ())))) else (if (b_15 == 112) then ((windlassref07_fits_s g false p_13 1).bind fun fit_17 => (if (!fit_17) then (some (.ret (some false))) else (some (.nxt ())))) else (some (.nxt ()))))) : Option (Stp Unit (Option Bool)))) ps ()).bind (oc f)) = if allIx (fun i p => chk g (bs.getD i 0) p) 0 ps = true then f () else some false := by
  refine rng_check () (fun i p => chk g (bs.getD i 0) p) false (by omega) (fun i p hx => ?_)
  have hi : i < ps.length := (List.getElem?_eq_some_iff.1 hx).1
  rw [hw i (by omega)]
  simp only [Option.bind_some, chk, fits_eq, beq_iff_eq]
  generalize bs.getD i 0 = b
  by_cases h1 : b = 110
  · simp only [h1, if_true]; cases fitB g 0 p <;> simp
  · by_cases h2 : b = 112
    · simp only [h2]; cases fitB g 1 p <;> simp
    · simp [h1, h2]
theorem opB_out {all : List Graph} {g : Graph} {n : Node} (h : n.Op < 1 ∨ n.Op > 18) : opB all g n = false := by
  have k : ∀ j : Int, 1 ≤ j → j ≤ 18 → ¬ n.Op = j := fun j _ _ => by omega
  unfold opB
  simp [k 1 (by decide) (by decide), k 2 (by decide) (by decide), k 3 (by decide) (by decide), k 4 (by decide) (by decide), k 5 (by decide) (by decide), k 6 (by decide) (by decide), k 7 (by decide) (by decide), k 8 (by decide) (by decide), k 9 (by decide) (by decide), k 10 (by decide) (by decide), k 11 (by decide) (by decide), k 12 (by decide) (by decide), k 13 (by decide) (by decide), k 14 (by decide) (by decide), k 15 (by decide) (by decide), k 16 (by decide) (by decide), k 17 (by decide) (by decide), k 18 (by decide) (by decide)]
theorem rArgs_loop (g f : Graph) (l : List Int) (hp : ParIn f) (hl : l.length = f.Params.length) (h4 : f.Params.length ≤ 4) (F : Unit → Option Bool) :
    ((rng (fun (i_44 : Nat) (p_45 : Int) (s_43 : Unit) => (((getI f.Params (i_44 : Int)).bind fun y_52 => ((getI f.Kinds y_52).bind fun y_53 => (if fitB g y_53 p_45 = false then (some (.ret (some false))) else (some (.nxt ()))))) : Option (Stp Unit (Option Bool)))) l ()).bind (oc F)) = if allIx (arg1 g f) 0 l = true then F () else some false := by
  refine rng_check () (arg1 g f) false (by omega) (fun i p hx => ?_)
  have hi : i < l.length := (List.getElem?_eq_some_iff.1 hx).1
  have hip : i < f.Params.length := by omega
  have hr := hp _ (List.getElem_mem hip)
  obtain ⟨q, hq⟩ : ∃ q : Nat, f.Params[i] = (q : Int) := ⟨f.Params[i].toNat, by omega⟩
  have hqk : q < f.Kinds.length := by omega
  simp only [getI_n, List.getElem?_eq_getElem hip, Option.bind_some, hq, List.getElem?_eq_getElem hqk, arg1, fits_eq]
  cases fitB g f.Kinds[q] p <;> simp
theorem want_1 (g : Graph) (n : Node) (h : n.Op = 1) (F : Unit → Option Bool) : ((windlassref07_want_s n.Op).bind fun wan_10 => ((rng (fun (i_12 : Nat) (p_13 : Int) (s_11 : Unit) => (((strI wan_10 (i_12 : Int)).bind fun b_15 => (if (b_15 == 110) then ((windlassref07_fits_s g false p_13 0).bind fun fit_16 => (if (!fit_16) then (some (.ret (some false))) else (some (.nxt ())))) else (if (b_15 == 112) then ((windlassref07_fits_s g false p_13 1).bind fun fit_17 => (if (!fit_17) then (some (.ret (some false))) else (some (.nxt ())))) else (some (.nxt ()))))) : Option (Stp Unit (Option Bool)))) [n.D, n.E, n.A, n.B] ()).bind (oc F))) = if allIx (fun i p => chk g ([110, 45, 45, 45].getD i 0) p) 0 [n.D, n.E, n.A, n.B] = true then F () else some false := by
  have e : windlassref07_want_s n.Op = some (ByteArray.mk #[110, 45, 45, 45]) := by rw [h]; rfl
  rw [e]
  exact want_loop g (ByteArray.mk #[110, 45, 45, 45]) [110, 45, 45, 45] rfl (fun i hi => by match i, hi with | 0, _ => rfl | 1, _ => rfl | 2, _ => rfl | 3, _ => rfl) [n.D, n.E, n.A, n.B] rfl F
theorem want_2 (g : Graph) (n : Node) (h : n.Op = 2) (F : Unit → Option Bool) : ((windlassref07_want_s n.Op).bind fun wan_10 => ((rng (fun (i_12 : Nat) (p_13 : Int) (s_11 : Unit) => (((strI wan_10 (i_12 : Int)).bind fun b_15 => (if (b_15 == 110) then ((windlassref07_fits_s g false p_13 0).bind fun fit_16 => (if (!fit_16) then (some (.ret (some false))) else (some (.nxt ())))) else (if (b_15 == 112) then ((windlassref07_fits_s g false p_13 1).bind fun fit_17 => (if (!fit_17) then (some (.ret (some false))) else (some (.nxt ())))) else (some (.nxt ()))))) : Option (Stp Unit (Option Bool)))) [n.D, n.E, n.A, n.B] ()).bind (oc F))) = if allIx (fun i p => chk g ([61, 45, 61, 45].getD i 0) p) 0 [n.D, n.E, n.A, n.B] = true then F () else some false := by
  have e : windlassref07_want_s n.Op = some (ByteArray.mk #[61, 45, 61, 45]) := by rw [h]; rfl
  rw [e]
  exact want_loop g (ByteArray.mk #[61, 45, 61, 45]) [61, 45, 61, 45] rfl (fun i hi => by match i, hi with | 0, _ => rfl | 1, _ => rfl | 2, _ => rfl | 3, _ => rfl) [n.D, n.E, n.A, n.B] rfl F
theorem want_3 (g : Graph) (n : Node) (h : n.Op = 3) (F : Unit → Option Bool) : ((windlassref07_want_s n.Op).bind fun wan_10 => ((rng (fun (i_12 : Nat) (p_13 : Int) (s_11 : Unit) => (((strI wan_10 (i_12 : Int)).bind fun b_15 => (if (b_15 == 110) then ((windlassref07_fits_s g false p_13 0).bind fun fit_16 => (if (!fit_16) then (some (.ret (some false))) else (some (.nxt ())))) else (if (b_15 == 112) then ((windlassref07_fits_s g false p_13 1).bind fun fit_17 => (if (!fit_17) then (some (.ret (some false))) else (some (.nxt ())))) else (some (.nxt ()))))) : Option (Stp Unit (Option Bool)))) [n.D, n.E, n.A, n.B] ()).bind (oc F))) = if allIx (fun i p => chk g ([110, 45, 110, 110].getD i 0) p) 0 [n.D, n.E, n.A, n.B] = true then F () else some false := by
  have e : windlassref07_want_s n.Op = some (ByteArray.mk #[110, 45, 110, 110]) := by rw [h]; rfl
  rw [e]
  exact want_loop g (ByteArray.mk #[110, 45, 110, 110]) [110, 45, 110, 110] rfl (fun i hi => by match i, hi with | 0, _ => rfl | 1, _ => rfl | 2, _ => rfl | 3, _ => rfl) [n.D, n.E, n.A, n.B] rfl F
theorem want_4 (g : Graph) (n : Node) (h : n.Op = 4) (F : Unit → Option Bool) : ((windlassref07_want_s n.Op).bind fun wan_10 => ((rng (fun (i_12 : Nat) (p_13 : Int) (s_11 : Unit) => (((strI wan_10 (i_12 : Int)).bind fun b_15 => (if (b_15 == 110) then ((windlassref07_fits_s g false p_13 0).bind fun fit_16 => (if (!fit_16) then (some (.ret (some false))) else (some (.nxt ())))) else (if (b_15 == 112) then ((windlassref07_fits_s g false p_13 1).bind fun fit_17 => (if (!fit_17) then (some (.ret (some false))) else (some (.nxt ())))) else (some (.nxt ()))))) : Option (Stp Unit (Option Bool)))) [n.D, n.E, n.A, n.B] ()).bind (oc F))) = if allIx (fun i p => chk g ([110, 45, 45, 45].getD i 0) p) 0 [n.D, n.E, n.A, n.B] = true then F () else some false := by
  have e : windlassref07_want_s n.Op = some (ByteArray.mk #[110, 45, 45, 45]) := by rw [h]; rfl
  rw [e]
  exact want_loop g (ByteArray.mk #[110, 45, 45, 45]) [110, 45, 45, 45] rfl (fun i hi => by match i, hi with | 0, _ => rfl | 1, _ => rfl | 2, _ => rfl | 3, _ => rfl) [n.D, n.E, n.A, n.B] rfl F
theorem want_5 (g : Graph) (n : Node) (h : n.Op = 5) (F : Unit → Option Bool) : ((windlassref07_want_s n.Op).bind fun wan_10 => ((rng (fun (i_12 : Nat) (p_13 : Int) (s_11 : Unit) => (((strI wan_10 (i_12 : Int)).bind fun b_15 => (if (b_15 == 110) then ((windlassref07_fits_s g false p_13 0).bind fun fit_16 => (if (!fit_16) then (some (.ret (some false))) else (some (.nxt ())))) else (if (b_15 == 112) then ((windlassref07_fits_s g false p_13 1).bind fun fit_17 => (if (!fit_17) then (some (.ret (some false))) else (some (.nxt ())))) else (some (.nxt ()))))) : Option (Stp Unit (Option Bool)))) [n.D, n.E, n.A, n.B] ()).bind (oc F))) = if allIx (fun i p => chk g ([45, 45, 110, 45].getD i 0) p) 0 [n.D, n.E, n.A, n.B] = true then F () else some false := by
  have e : windlassref07_want_s n.Op = some (ByteArray.mk #[45, 45, 110, 45]) := by rw [h]; rfl
  rw [e]
  exact want_loop g (ByteArray.mk #[45, 45, 110, 45]) [45, 45, 110, 45] rfl (fun i hi => by match i, hi with | 0, _ => rfl | 1, _ => rfl | 2, _ => rfl | 3, _ => rfl) [n.D, n.E, n.A, n.B] rfl F
theorem want_6 (g : Graph) (n : Node) (h : n.Op = 6) (F : Unit → Option Bool) : ((windlassref07_want_s n.Op).bind fun wan_10 => ((rng (fun (i_12 : Nat) (p_13 : Int) (s_11 : Unit) => (((strI wan_10 (i_12 : Int)).bind fun b_15 => (if (b_15 == 110) then ((windlassref07_fits_s g false p_13 0).bind fun fit_16 => (if (!fit_16) then (some (.ret (some false))) else (some (.nxt ())))) else (if (b_15 == 112) then ((windlassref07_fits_s g false p_13 1).bind fun fit_17 => (if (!fit_17) then (some (.ret (some false))) else (some (.nxt ())))) else (some (.nxt ()))))) : Option (Stp Unit (Option Bool)))) [n.D, n.E, n.A, n.B] ()).bind (oc F))) = if allIx (fun i p => chk g ([112, 45, 45, 45].getD i 0) p) 0 [n.D, n.E, n.A, n.B] = true then F () else some false := by
  have e : windlassref07_want_s n.Op = some (ByteArray.mk #[112, 45, 45, 45]) := by rw [h]; rfl
  rw [e]
  exact want_loop g (ByteArray.mk #[112, 45, 45, 45]) [112, 45, 45, 45] rfl (fun i hi => by match i, hi with | 0, _ => rfl | 1, _ => rfl | 2, _ => rfl | 3, _ => rfl) [n.D, n.E, n.A, n.B] rfl F
theorem want_7 (g : Graph) (n : Node) (h : n.Op = 7) (F : Unit → Option Bool) : ((windlassref07_want_s n.Op).bind fun wan_10 => ((rng (fun (i_12 : Nat) (p_13 : Int) (s_11 : Unit) => (((strI wan_10 (i_12 : Int)).bind fun b_15 => (if (b_15 == 110) then ((windlassref07_fits_s g false p_13 0).bind fun fit_16 => (if (!fit_16) then (some (.ret (some false))) else (some (.nxt ())))) else (if (b_15 == 112) then ((windlassref07_fits_s g false p_13 1).bind fun fit_17 => (if (!fit_17) then (some (.ret (some false))) else (some (.nxt ())))) else (some (.nxt ()))))) : Option (Stp Unit (Option Bool)))) [n.D, n.E, n.A, n.B] ()).bind (oc F))) = if allIx (fun i p => chk g ([110, 45, 112, 45].getD i 0) p) 0 [n.D, n.E, n.A, n.B] = true then F () else some false := by
  have e : windlassref07_want_s n.Op = some (ByteArray.mk #[110, 45, 112, 45]) := by rw [h]; rfl
  rw [e]
  exact want_loop g (ByteArray.mk #[110, 45, 112, 45]) [110, 45, 112, 45] rfl (fun i hi => by match i, hi with | 0, _ => rfl | 1, _ => rfl | 2, _ => rfl | 3, _ => rfl) [n.D, n.E, n.A, n.B] rfl F
theorem want_8 (g : Graph) (n : Node) (h : n.Op = 8) (F : Unit → Option Bool) : ((windlassref07_want_s n.Op).bind fun wan_10 => ((rng (fun (i_12 : Nat) (p_13 : Int) (s_11 : Unit) => (((strI wan_10 (i_12 : Int)).bind fun b_15 => (if (b_15 == 110) then ((windlassref07_fits_s g false p_13 0).bind fun fit_16 => (if (!fit_16) then (some (.ret (some false))) else (some (.nxt ())))) else (if (b_15 == 112) then ((windlassref07_fits_s g false p_13 1).bind fun fit_17 => (if (!fit_17) then (some (.ret (some false))) else (some (.nxt ())))) else (some (.nxt ()))))) : Option (Stp Unit (Option Bool)))) [n.D, n.E, n.A, n.B] ()).bind (oc F))) = if allIx (fun i p => chk g ([45, 45, 112, 110].getD i 0) p) 0 [n.D, n.E, n.A, n.B] = true then F () else some false := by
  have e : windlassref07_want_s n.Op = some (ByteArray.mk #[45, 45, 112, 110]) := by rw [h]; rfl
  rw [e]
  exact want_loop g (ByteArray.mk #[45, 45, 112, 110]) [45, 45, 112, 110] rfl (fun i hi => by match i, hi with | 0, _ => rfl | 1, _ => rfl | 2, _ => rfl | 3, _ => rfl) [n.D, n.E, n.A, n.B] rfl F
theorem want_9 (g : Graph) (n : Node) (h : n.Op = 9) (F : Unit → Option Bool) : ((windlassref07_want_s n.Op).bind fun wan_10 => ((rng (fun (i_12 : Nat) (p_13 : Int) (s_11 : Unit) => (((strI wan_10 (i_12 : Int)).bind fun b_15 => (if (b_15 == 110) then ((windlassref07_fits_s g false p_13 0).bind fun fit_16 => (if (!fit_16) then (some (.ret (some false))) else (some (.nxt ())))) else (if (b_15 == 112) then ((windlassref07_fits_s g false p_13 1).bind fun fit_17 => (if (!fit_17) then (some (.ret (some false))) else (some (.nxt ())))) else (some (.nxt ()))))) : Option (Stp Unit (Option Bool)))) [n.D, n.E, n.A, n.B] ()).bind (oc F))) = if allIx (fun i p => chk g ([45, 45, 110, 45].getD i 0) p) 0 [n.D, n.E, n.A, n.B] = true then F () else some false := by
  have e : windlassref07_want_s n.Op = some (ByteArray.mk #[45, 45, 110, 45]) := by rw [h]; rfl
  rw [e]
  exact want_loop g (ByteArray.mk #[45, 45, 110, 45]) [45, 45, 110, 45] rfl (fun i hi => by match i, hi with | 0, _ => rfl | 1, _ => rfl | 2, _ => rfl | 3, _ => rfl) [n.D, n.E, n.A, n.B] rfl F
theorem want_10 (g : Graph) (n : Node) (h : n.Op = 10) (F : Unit → Option Bool) : ((windlassref07_want_s n.Op).bind fun wan_10 => ((rng (fun (i_12 : Nat) (p_13 : Int) (s_11 : Unit) => (((strI wan_10 (i_12 : Int)).bind fun b_15 => (if (b_15 == 110) then ((windlassref07_fits_s g false p_13 0).bind fun fit_16 => (if (!fit_16) then (some (.ret (some false))) else (some (.nxt ())))) else (if (b_15 == 112) then ((windlassref07_fits_s g false p_13 1).bind fun fit_17 => (if (!fit_17) then (some (.ret (some false))) else (some (.nxt ())))) else (some (.nxt ()))))) : Option (Stp Unit (Option Bool)))) [n.D, n.E, n.A, n.B] ()).bind (oc F))) = if allIx (fun i p => chk g ([45, 45, 45, 45].getD i 0) p) 0 [n.D, n.E, n.A, n.B] = true then F () else some false := by
  have e : windlassref07_want_s n.Op = some (ByteArray.mk #[45, 45, 45, 45]) := by rw [h]; rfl
  rw [e]
  exact want_loop g (ByteArray.mk #[45, 45, 45, 45]) [45, 45, 45, 45] rfl (fun i hi => by match i, hi with | 0, _ => rfl | 1, _ => rfl | 2, _ => rfl | 3, _ => rfl) [n.D, n.E, n.A, n.B] rfl F
theorem want_11 (g : Graph) (n : Node) (h : n.Op = 11) (F : Unit → Option Bool) : ((windlassref07_want_s n.Op).bind fun wan_10 => ((rng (fun (i_12 : Nat) (p_13 : Int) (s_11 : Unit) => (((strI wan_10 (i_12 : Int)).bind fun b_15 => (if (b_15 == 110) then ((windlassref07_fits_s g false p_13 0).bind fun fit_16 => (if (!fit_16) then (some (.ret (some false))) else (some (.nxt ())))) else (if (b_15 == 112) then ((windlassref07_fits_s g false p_13 1).bind fun fit_17 => (if (!fit_17) then (some (.ret (some false))) else (some (.nxt ())))) else (some (.nxt ()))))) : Option (Stp Unit (Option Bool)))) [n.D, n.E, n.A, n.B] ()).bind (oc F))) = if allIx (fun i p => chk g ([45, 45, 45, 45].getD i 0) p) 0 [n.D, n.E, n.A, n.B] = true then F () else some false := by
  have e : windlassref07_want_s n.Op = some (ByteArray.mk #[45, 45, 45, 45]) := by rw [h]; rfl
  rw [e]
  exact want_loop g (ByteArray.mk #[45, 45, 45, 45]) [45, 45, 45, 45] rfl (fun i hi => by match i, hi with | 0, _ => rfl | 1, _ => rfl | 2, _ => rfl | 3, _ => rfl) [n.D, n.E, n.A, n.B] rfl F
theorem want_12 (g : Graph) (n : Node) (h : n.Op = 12) (F : Unit → Option Bool) : ((windlassref07_want_s n.Op).bind fun wan_10 => ((rng (fun (i_12 : Nat) (p_13 : Int) (s_11 : Unit) => (((strI wan_10 (i_12 : Int)).bind fun b_15 => (if (b_15 == 110) then ((windlassref07_fits_s g false p_13 0).bind fun fit_16 => (if (!fit_16) then (some (.ret (some false))) else (some (.nxt ())))) else (if (b_15 == 112) then ((windlassref07_fits_s g false p_13 1).bind fun fit_17 => (if (!fit_17) then (some (.ret (some false))) else (some (.nxt ())))) else (some (.nxt ()))))) : Option (Stp Unit (Option Bool)))) [n.D, n.E, n.A, n.B] ()).bind (oc F))) = if allIx (fun i p => chk g ([45, 45, 45, 45].getD i 0) p) 0 [n.D, n.E, n.A, n.B] = true then F () else some false := by
  have e : windlassref07_want_s n.Op = some (ByteArray.mk #[45, 45, 45, 45]) := by rw [h]; rfl
  rw [e]
  exact want_loop g (ByteArray.mk #[45, 45, 45, 45]) [45, 45, 45, 45] rfl (fun i hi => by match i, hi with | 0, _ => rfl | 1, _ => rfl | 2, _ => rfl | 3, _ => rfl) [n.D, n.E, n.A, n.B] rfl F
theorem want_13 (g : Graph) (n : Node) (h : n.Op = 13) (F : Unit → Option Bool) : ((windlassref07_want_s n.Op).bind fun wan_10 => ((rng (fun (i_12 : Nat) (p_13 : Int) (s_11 : Unit) => (((strI wan_10 (i_12 : Int)).bind fun b_15 => (if (b_15 == 110) then ((windlassref07_fits_s g false p_13 0).bind fun fit_16 => (if (!fit_16) then (some (.ret (some false))) else (some (.nxt ())))) else (if (b_15 == 112) then ((windlassref07_fits_s g false p_13 1).bind fun fit_17 => (if (!fit_17) then (some (.ret (some false))) else (some (.nxt ())))) else (some (.nxt ()))))) : Option (Stp Unit (Option Bool)))) [n.D, n.E, n.A, n.B] ()).bind (oc F))) = if allIx (fun i p => chk g ([45, 45, 45, 45].getD i 0) p) 0 [n.D, n.E, n.A, n.B] = true then F () else some false := by
  have e : windlassref07_want_s n.Op = some (ByteArray.mk #[45, 45, 45, 45]) := by rw [h]; rfl
  rw [e]
  exact want_loop g (ByteArray.mk #[45, 45, 45, 45]) [45, 45, 45, 45] rfl (fun i hi => by match i, hi with | 0, _ => rfl | 1, _ => rfl | 2, _ => rfl | 3, _ => rfl) [n.D, n.E, n.A, n.B] rfl F
theorem want_14 (g : Graph) (n : Node) (h : n.Op = 14) (F : Unit → Option Bool) : ((windlassref07_want_s n.Op).bind fun wan_10 => ((rng (fun (i_12 : Nat) (p_13 : Int) (s_11 : Unit) => (((strI wan_10 (i_12 : Int)).bind fun b_15 => (if (b_15 == 110) then ((windlassref07_fits_s g false p_13 0).bind fun fit_16 => (if (!fit_16) then (some (.ret (some false))) else (some (.nxt ())))) else (if (b_15 == 112) then ((windlassref07_fits_s g false p_13 1).bind fun fit_17 => (if (!fit_17) then (some (.ret (some false))) else (some (.nxt ())))) else (some (.nxt ()))))) : Option (Stp Unit (Option Bool)))) [n.D, n.E, n.A, n.B] ()).bind (oc F))) = if allIx (fun i p => chk g ([45, 45, 110, 45].getD i 0) p) 0 [n.D, n.E, n.A, n.B] = true then F () else some false := by
  have e : windlassref07_want_s n.Op = some (ByteArray.mk #[45, 45, 110, 45]) := by rw [h]; rfl
  rw [e]
  exact want_loop g (ByteArray.mk #[45, 45, 110, 45]) [45, 45, 110, 45] rfl (fun i hi => by match i, hi with | 0, _ => rfl | 1, _ => rfl | 2, _ => rfl | 3, _ => rfl) [n.D, n.E, n.A, n.B] rfl F
theorem want_15 (g : Graph) (n : Node) (h : n.Op = 15) (F : Unit → Option Bool) : ((windlassref07_want_s n.Op).bind fun wan_10 => ((rng (fun (i_12 : Nat) (p_13 : Int) (s_11 : Unit) => (((strI wan_10 (i_12 : Int)).bind fun b_15 => (if (b_15 == 110) then ((windlassref07_fits_s g false p_13 0).bind fun fit_16 => (if (!fit_16) then (some (.ret (some false))) else (some (.nxt ())))) else (if (b_15 == 112) then ((windlassref07_fits_s g false p_13 1).bind fun fit_17 => (if (!fit_17) then (some (.ret (some false))) else (some (.nxt ())))) else (some (.nxt ()))))) : Option (Stp Unit (Option Bool)))) [n.D, n.E, n.A, n.B] ()).bind (oc F))) = if allIx (fun i p => chk g ([110, 110, 45, 45].getD i 0) p) 0 [n.D, n.E, n.A, n.B] = true then F () else some false := by
  have e : windlassref07_want_s n.Op = some (ByteArray.mk #[110, 110, 45, 45]) := by rw [h]; rfl
  rw [e]
  exact want_loop g (ByteArray.mk #[110, 110, 45, 45]) [110, 110, 45, 45] rfl (fun i hi => by match i, hi with | 0, _ => rfl | 1, _ => rfl | 2, _ => rfl | 3, _ => rfl) [n.D, n.E, n.A, n.B] rfl F
theorem want_16 (g : Graph) (n : Node) (h : n.Op = 16) (F : Unit → Option Bool) : ((windlassref07_want_s n.Op).bind fun wan_10 => ((rng (fun (i_12 : Nat) (p_13 : Int) (s_11 : Unit) => (((strI wan_10 (i_12 : Int)).bind fun b_15 => (if (b_15 == 110) then ((windlassref07_fits_s g false p_13 0).bind fun fit_16 => (if (!fit_16) then (some (.ret (some false))) else (some (.nxt ())))) else (if (b_15 == 112) then ((windlassref07_fits_s g false p_13 1).bind fun fit_17 => (if (!fit_17) then (some (.ret (some false))) else (some (.nxt ())))) else (some (.nxt ()))))) : Option (Stp Unit (Option Bool)))) [n.D, n.E, n.A, n.B] ()).bind (oc F))) = if allIx (fun i p => chk g ([110, 45, 45, 45].getD i 0) p) 0 [n.D, n.E, n.A, n.B] = true then F () else some false := by
  have e : windlassref07_want_s n.Op = some (ByteArray.mk #[110, 45, 45, 45]) := by rw [h]; rfl
  rw [e]
  exact want_loop g (ByteArray.mk #[110, 45, 45, 45]) [110, 45, 45, 45] rfl (fun i hi => by match i, hi with | 0, _ => rfl | 1, _ => rfl | 2, _ => rfl | 3, _ => rfl) [n.D, n.E, n.A, n.B] rfl F
theorem want_17 (g : Graph) (n : Node) (h : n.Op = 17) (F : Unit → Option Bool) : ((windlassref07_want_s n.Op).bind fun wan_10 => ((rng (fun (i_12 : Nat) (p_13 : Int) (s_11 : Unit) => (((strI wan_10 (i_12 : Int)).bind fun b_15 => (if (b_15 == 110) then ((windlassref07_fits_s g false p_13 0).bind fun fit_16 => (if (!fit_16) then (some (.ret (some false))) else (some (.nxt ())))) else (if (b_15 == 112) then ((windlassref07_fits_s g false p_13 1).bind fun fit_17 => (if (!fit_17) then (some (.ret (some false))) else (some (.nxt ())))) else (some (.nxt ()))))) : Option (Stp Unit (Option Bool)))) [n.D, n.E, n.A, n.B] ()).bind (oc F))) = if allIx (fun i p => chk g ([45, 45, 110, 45].getD i 0) p) 0 [n.D, n.E, n.A, n.B] = true then F () else some false := by
  have e : windlassref07_want_s n.Op = some (ByteArray.mk #[45, 45, 110, 45]) := by rw [h]; rfl
  rw [e]
  exact want_loop g (ByteArray.mk #[45, 45, 110, 45]) [45, 45, 110, 45] rfl (fun i hi => by match i, hi with | 0, _ => rfl | 1, _ => rfl | 2, _ => rfl | 3, _ => rfl) [n.D, n.E, n.A, n.B] rfl F
theorem want_18 (g : Graph) (n : Node) (h : n.Op = 18) (F : Unit → Option Bool) : ((windlassref07_want_s n.Op).bind fun wan_10 => ((rng (fun (i_12 : Nat) (p_13 : Int) (s_11 : Unit) => (((strI wan_10 (i_12 : Int)).bind fun b_15 => (if (b_15 == 110) then ((windlassref07_fits_s g false p_13 0).bind fun fit_16 => (if (!fit_16) then (some (.ret (some false))) else (some (.nxt ())))) else (if (b_15 == 112) then ((windlassref07_fits_s g false p_13 1).bind fun fit_17 => (if (!fit_17) then (some (.ret (some false))) else (some (.nxt ())))) else (some (.nxt ()))))) : Option (Stp Unit (Option Bool)))) [n.D, n.E, n.A, n.B] ()).bind (oc F))) = if allIx (fun i p => chk g ([45, 45, 110, 45].getD i 0) p) 0 [n.D, n.E, n.A, n.B] = true then F () else some false := by
  have e : windlassref07_want_s n.Op = some (ByteArray.mk #[45, 45, 110, 45]) := by rw [h]; rfl
  rw [e]
  exact want_loop g (ByteArray.mk #[45, 45, 110, 45]) [45, 45, 110, 45] rfl (fun i hi => by match i, hi with | 0, _ => rfl | 1, _ => rfl | 2, _ => rfl | 3, _ => rfl) [n.D, n.E, n.A, n.B] rfl F
theorem rNode_eq (all : List Graph) (g : Graph) (n : Node) (hp : ∀ f ∈ all, ParIn f ∧ f.Params.length ≤ 4) : windlassref07_node_s all g false n = some (nodeB all g n) := by
  unfold windlassref07_node_s nodeB
  simp only [jp]
  by_cases o1 : n.Op < 1
  · simp [o1, opB_out (.inl o1)]
  by_cases o2 : n.Op > 18
  · simp [o1, o2, opB_out (.inr o2)]
  simp only [o1, o2, decide_false, Bool.false_eq_true, if_false, rNext_eq, Option.bind_some]
  refine (rng_check (xs := nextL n) () (fun _ to => decide (0 ≤ to ∧ to < g.Nodes.length)) false (by have := nextL_len n; omega) (fun i to hx => ?_)).trans ?_
  · by_cases q1 : 0 ≤ to
    case neg =>
      have q1' : to < 0 := by omega
      simp [q1, q1']
    have q1' : ¬ (to < 0) := by omega
    by_cases q2 : to < (g.Nodes.length : Int)
    case neg =>
      have q2' : to ≥ (g.Nodes.length : Int) := by omega
      simp [q1', q2, q2']
    have q2' : ¬ (to ≥ (g.Nodes.length : Int)) := by omega
    simp [q1, q1', q2, q2']
  rw [allIx_all]
  cases (nextL n).all fun to => decide (0 ≤ to ∧ to < g.Nodes.length) with
  | false => simp
  | true =>
  simp only [if_true, Bool.true_and]
  have hop : n.Op = 1 ∨ n.Op = 2 ∨ n.Op = 3 ∨ n.Op = 4 ∨ n.Op = 5 ∨ n.Op = 6 ∨ n.Op = 7 ∨ n.Op = 8 ∨ n.Op = 9 ∨ n.Op = 10 ∨ n.Op = 11 ∨ n.Op = 12 ∨ n.Op = 13 ∨ n.Op = 14 ∨ n.Op = 15 ∨ n.Op = 16 ∨ n.Op = 17 ∨ n.Op = 18 := by omega
  rcases hop with h | h | h | h | h | h | h | h | h | h | h | h | h | h | h | h | h | h
  · refine (want_1 g n h _).trans ?_
    cases a0 : fitB g 0 n.D <;> simp [allIx, chk, opB, isB, h, a0, fits_eq]
  · refine (want_2 g n h _).trans ?_
    cases a0 : fitB g 0 n.D <;> cases a1 : fitB g 0 n.A <;> cases a2 : fitB g 1 n.D <;> cases a3 : fitB g 1 n.A <;> simp [allIx, chk, opB, isB, h, a0, a1, a2, a3, fits_eq]
  · refine (want_3 g n h _).trans ?_
    cases a0 : fitB g 0 n.D <;> cases a1 : fitB g 0 n.A <;> cases a2 : fitB g 0 n.B <;> by_cases q1 : n.By ≥ 7 <;> by_cases q2 : n.By ≤ 20 <;> simp [allIx, chk, opB, isB, h, a0, a1, a2, q1, q2] <;> omega
  · refine (want_4 g n h _).trans ?_
    cases a0 : fitB g 0 n.D <;> by_cases q1 : n.Cell ≥ 0 <;> by_cases q2 : n.Cell < g.Cells <;> simp [allIx, chk, opB, isB, cellB, h, a0, q1, q2] <;> omega
  · refine (want_5 g n h _).trans ?_
    cases a0 : fitB g 0 n.A <;> by_cases q1 : n.Cell ≥ 0 <;> by_cases q2 : n.Cell < g.Cells <;> simp [allIx, chk, opB, isB, cellB, h, a0, q1, q2] <;> omega
  · refine (want_6 g n h _).trans ?_
    cases a0 : fitB g 1 n.D <;> by_cases q1 : n.Cell ≥ 0 <;> by_cases q2 : n.Cell < g.Cells <;> simp [allIx, chk, opB, isB, cellB, h, a0, q1, q2] <;> omega
  · refine (want_7 g n h _).trans ?_
    cases a0 : fitB g 0 n.D <;> cases a1 : fitB g 1 n.A <;> simp [allIx, chk, opB, isB, h, a0, a1, fits_eq]
  · refine (want_8 g n h _).trans ?_
    cases a0 : fitB g 1 n.A <;> cases a1 : fitB g 0 n.B <;> simp [allIx, chk, opB, isB, h, a0, a1, fits_eq]
  · refine (want_9 g n h _).trans ?_
    cases a0 : fitB g 0 n.A <;> simp [allIx, chk, opB, isB, h, a0, fits_eq]
  · refine (want_10 g n h _).trans ?_
    simp [allIx, chk, opB, isB, h, fits_eq]
  · refine (want_11 g n h _).trans ?_
    have hc : allIx (fun i p => chk g ([45, 45, 45, 45].getD i 0) p) 0 [n.D, n.E, n.A, n.B] = true := by simp [allIx, chk]
    rw [if_pos hc]
    by_cases h1 : n.F < 0
    · have e : getI all n.F = none := by unfold getI; rw [if_neg (by omega)]
      have ho : opB all g n = false := by simp [opB, argB, h, e]
      rw [ho]; simp [h, h1]
    obtain ⟨F, hF⟩ : ∃ i : Nat, n.F = (i : Int) := ⟨n.F.toNat, by omega⟩
    by_cases h2 : F < all.length
    case neg =>
      have h2' : n.F ≥ (all.length : Int) := by omega
      have e : getI all n.F = none := by rw [hF, getI_n]; exact List.getElem?_eq_none (by omega)
      have ho : opB all g n = false := by simp [opB, argB, h, e]
      rw [ho]; simp [h, h1, h2']
    have h2' : ¬ (n.F ≥ (all.length : Int)) := by omega
    have e : getI all n.F = some all[F] := by rw [hF, getI_n]; exact List.getElem?_eq_getElem h2
    obtain ⟨hpF, hp4⟩ := hp _ (List.getElem_mem h2)
    generalize all[F] = f at hpF hp4 e
    have ho : opB all g n = ((decide (n.Args.length = f.Params.length) && allIx (arg1 g f) 0 n.Args) && (decide (n.D = -1) || (fitB g 0 n.D && f.Result))) := by simp [opB, argB, h, e, isB]
    rw [ho]
    by_cases h3 : n.Args.length = f.Params.length
    case neg =>
      have h3' : ((n.Args.length : Int) != (f.Params.length : Int)) = true := by simp; omega
      simp [h, h1, h2', e, h3, h3']
      intro hh; exact absurd (by omega) h3
    have h3' : ((n.Args.length : Int) != (f.Params.length : Int)) = false := by simp [h3]
    simp [h, h1, h2', e, h3', h3, fits_eq]
    refine (rArgs_loop g f n.Args hpF h3 hp4 _).trans ?_
    cases ha : allIx (arg1 g f) 0 n.Args with
    | false => simp
    | true =>
      cases a0 : fitB g 0 n.D <;> by_cases q : n.D = -1 <;> cases r : f.Result <;> simp [q, a0, r]
  · refine (want_12 g n h _).trans ?_
    simp only [allIx, chk, h, fits_eq]
    cases a0 : fitB g 0 n.A <;> by_cases q : n.A = -1 <;> cases r : g.Result <;> simp [opB, isB, h, a0, q, r]
  · refine (want_13 g n h _).trans ?_
    have hc : allIx (fun i p => chk g ([45, 45, 45, 45].getD i 0) p) 0 [n.D, n.E, n.A, n.B] = true := by simp [allIx, chk]
    rw [if_pos hc]
    by_cases h1 : n.F < 0
    · have e : getI all n.F = none := by unfold getI; rw [if_neg (by omega)]
      have ho : opB all g n = false := by simp [opB, argB, h, e]
      rw [ho]; simp [h, h1]
    obtain ⟨F, hF⟩ : ∃ i : Nat, n.F = (i : Int) := ⟨n.F.toNat, by omega⟩
    by_cases h2 : F < all.length
    case neg =>
      have h2' : n.F ≥ (all.length : Int) := by omega
      have e : getI all n.F = none := by rw [hF, getI_n]; exact List.getElem?_eq_none (by omega)
      have ho : opB all g n = false := by simp [opB, argB, h, e]
      rw [ho]; simp [h, h1, h2']
    have h2' : ¬ (n.F ≥ (all.length : Int)) := by omega
    have e : getI all n.F = some all[F] := by rw [hF, getI_n]; exact List.getElem?_eq_getElem h2
    obtain ⟨hpF, hp4⟩ := hp _ (List.getElem_mem h2)
    generalize all[F] = f at hpF hp4 e
    have ho : opB all g n = (decide (n.Args.length = f.Params.length) && allIx (arg1 g f) 0 n.Args) := by simp [opB, argB, h, e, isB]
    rw [ho]
    by_cases h3 : n.Args.length = f.Params.length
    case neg =>
      have h3' : ((n.Args.length : Int) != (f.Params.length : Int)) = true := by simp; omega
      simp [h, h1, h2', e, h3, h3']
      intro hh; exact absurd (by omega) h3
    have h3' : ((n.Args.length : Int) != (f.Params.length : Int)) = false := by simp [h3]
    simp [h, h1, h2', e, h3', h3, fits_eq]
    refine (rArgs_loop g f n.Args hpF h3 hp4 _).trans ?_
    cases ha : allIx (arg1 g f) 0 n.Args with
    | false => simp
    | true =>
      cases a0 : fitB g 0 n.D <;> by_cases q : n.D = -1 <;> cases r : f.Result <;> simp [q, a0, r]
  · refine (want_14 g n h _).trans ?_
    cases a0 : fitB g 0 n.A <;> simp [allIx, chk, opB, isB, h, a0, fits_eq]
  · refine (want_15 g n h _).trans ?_
    cases a0 : fitB g 0 n.D <;> cases a1 : fitB g 0 n.E <;> by_cases q : n.D = n.E <;> simp [allIx, chk, opB, isB, h, a0, a1, q]
  · refine (want_16 g n h _).trans ?_
    cases a0 : fitB g 0 n.D <;> simp [allIx, chk, opB, isB, h, a0, fits_eq]
  · refine (want_17 g n h _).trans ?_
    cases a0 : fitB g 0 n.A <;> simp [allIx, chk, opB, isB, h, a0, fits_eq]
  · refine (want_18 g n h _).trans ?_
    cases a0 : fitB g 0 n.A <;> simp [allIx, chk, opB, isB, h, a0, fits_eq]
theorem Right_eq (G : Graphs) : windlassref07_Right_s G false = some (RightB G) := by
  unfold windlassref07_Right_s RightB
  simp only [jp]
  by_cases h1 : 1 ≤ G.Funcs.length
  case neg =>
    have h1' : (G.Funcs.length : Int) < 1 := by omega
    simp [h1, h1']
  have h1' : ¬ (G.Funcs.length : Int) < 1 := by omega
  by_cases h2 : G.Funcs.length ≤ 16
  case neg =>
    have h2' : (G.Funcs.length : Int) > 16 := by omega
    simp [h1', h2, h2']
  have h2' : ¬ (G.Funcs.length : Int) > 16 := by omega
  obtain ⟨f0, hf0⟩ : ∃ f, G.Funcs[0]? = some f := ⟨_, List.getElem?_eq_getElem (show 0 < G.Funcs.length by omega)⟩
  have hg0 : getI G.Funcs 0 = some f0 := by
    have := getI_n (l := G.Funcs) (i := 0)
    rw [hf0] at this; exact this
  have hm : mainB G = (decide (f0.Params.length = 0) && !f0.Result) := by unfold mainB; rw [hf0]
  simp only [h1', h2', decide_false, Bool.false_eq_true, if_false, hg0, Option.bind_some, h1, h2, and_self, decide_true, Bool.true_and, hm]
  by_cases h3 : f0.Params.length = 0
  case neg =>
    have h3' : ((f0.Params.length : Int) != 0) = true := by simp; intro e; exact h3 (by simp [e])
    simp [h3, h3']
  have h3' : ((f0.Params.length : Int) != 0) = false := by simp [h3]
  simp only [h3', Bool.false_eq_true, if_false, h3, decide_true, Bool.true_and]
  cases h4 : f0.Result with
  | true => simp
  | false =>
  simp only [Bool.false_eq_true, if_false, Bool.not_false, Bool.true_and]
  refine (rng_check (xs := G.Funcs) () (fun _ f => headB f) false (by omega) (fun i f hx => ?_)).trans ?_
  · simp only [rHead_eq, Option.bind_some]
    cases headB f <;> simp
  rw [allIx_false]
  cases h5 : G.Funcs.all headB with
  | false => simp
  | true =>
  simp only [if_true, Bool.true_and]
  have hh : ∀ f ∈ G.Funcs, headB f = true := List.all_eq_true.1 h5
  have hp : ∀ f ∈ G.Funcs, ParIn f ∧ f.Params.length ≤ 4 := fun f hf => ⟨(headB_facts (hh f hf)).2.2.1, (headB_facts (hh f hf)).2.1⟩
  refine (rng_check (xs := G.Funcs) () (fun _ f => f.Nodes.all (nodeB G.Funcs f)) false (by omega) (fun i f hx => ?_)).trans ?_
  · have hn := headB_facts (hh f (List.mem_of_getElem? hx))
    refine (rng_check () (fun _ n => nodeB G.Funcs f n) (Stp.ret (some false)) (by omega) (fun j n hy => ?_)).trans ?_
    · simp only [rNode_eq _ _ _ hp, Option.bind_some]
      cases nodeB G.Funcs f n <;> simp
    · rw [allIx_false]
      cases f.Nodes.all (nodeB G.Funcs f) <;> simp
  · rw [allIx_false]
    cases (G.Funcs.all fun f => f.Nodes.all (nodeB G.Funcs f)) <;> simp
end Go.Proofs.YtgoejecjmodjiaaDoor

/- What ref7 reads and writes. -/
namespace Go.Proofs.YtgoejecjmodjiaaDoor
open Go Go.Ab
set_option linter.unusedVariables false
set_option linter.unusedSimpArgs false
theorem rInr_eq (l : List Int) (v : Int) (hl : l.length ≤ 4611686018427387904) : windlassref07_In_r_s l v = some (decide (v ∈ l)) := by
  unfold windlassref07_In_r_s
  refine (rni_check (xs := l) v (fun _ x => !(x == v)) true hl (fun i x hx => ?_)).trans ?_
  · simp only [getI_n, hx, Option.bind_some]
    cases x == v <;> simp
  · rw [allIx_all]
    by_cases h : v ∈ l
    · have : (l.all fun x => !(x == v)) = false := by
        rw [List.all_eq_false]; exact ⟨v, h, by simp⟩
      rw [this]; simp [h]
    · have : (l.all fun x => !(x == v)) = true := by
        rw [List.all_eq_true]; intro x hx
        have : x ≠ v := fun e => h (e ▸ hx)
        simpa using this
      rw [this]; simp [h]
theorem add_eq (l : List Int) (hl : l.length ≤ 10000000) : ∃ r, windlassref07_add_n_o_s l = some r ∧ r.length ≤ l.length ∧ ∀ x, x ∈ r ↔ (x ∈ l ∧ 0 ≤ x) := by
  unfold windlassref07_add_n_o_s
  have := rng_inv (xs := l) (s0 := (l, ([] : List Int))) (body := (fun (i_2 : Nat) (n_3 : Int) (s_1 : ((List Int) × (List Int))) => (((getI s_1.1 (i_2 : Int)).bind fun y_5 => (jp (fun (s_7 : Bool) => (if s_7 then ((appL 8 s_1.2 [y_5]).bind fun l_9 => (some (.nxt (s_1.1, l_9)))) else (some (.nxt (s_1.1, s_1.2))))) (fun k_6 => (if (decide (y_5 ≥ 0)) then ((windlassref07_In_r_s s_1.2 y_5).bind fun (vin_8 : Bool) => (k_6 (!vin_8))) else (k_6 false))))) : Option (Stp ((List Int) × (List Int)) (Option (List Int)))))) (fun _ => true) none
    (fun k s => s.1 = l ∧ s.2.length ≤ k ∧ ∀ x, x ∈ s.2 ↔ (x ∈ l.take k ∧ 0 ≤ x)) (by omega) ⟨rfl, by simp, by simp⟩ (fun k x s hx hr => by
      obtain ⟨sl, r⟩ := s
      obtain ⟨h0, h1, h2⟩ := hr
      simp only at h0 h1 h2
      subst h0
      have hk : k < sl.length := (List.getElem?_eq_some_iff.1 hx).1
      have ht : sl.take (k + 1) = sl.take k ++ [x] := by rw [List.take_add_one, hx]; rfl
      simp only [if_true, jp, decide_eq_true_eq, getI_n, hx, Option.bind_some]
      by_cases h0 : x ≥ 0
      · rw [if_pos h0, rInr_eq _ _ (by omega)]
        simp only [Option.bind_some]
        by_cases hm : x ∈ r
        · refine ⟨(sl, r), by simp [hm], rfl, by simp only; omega, fun y => ?_⟩
          simp only
          rw [h2, ht]
          simp only [List.mem_append, List.mem_singleton]
          constructor
          · rintro ⟨a, b⟩; exact ⟨.inl a, b⟩
          · rintro ⟨a | a, b⟩
            · exact ⟨a, b⟩
            · subst a; exact (h2 y).1 hm
        · refine ⟨(sl, r ++ [x]), ?_, rfl, by simp; omega, fun y => ?_⟩
          · simp only [hm, decide_false, Bool.not_false, if_true]
            rw [appL_of (by simp; omega)]; rfl
          · simp only
            rw [ht]
            simp only [List.mem_append, List.mem_singleton, h2]
            constructor
            · rintro (⟨a, b⟩ | a)
              · exact ⟨.inl a, b⟩
              · subst a; exact ⟨.inr rfl, h0⟩
            · rintro ⟨a | a, b⟩
              · exact .inl ⟨a, b⟩
              · exact .inr a
      · refine ⟨(sl, r), by rw [if_neg h0]; simp, rfl, by simp only; omega, fun y => ?_⟩
        simp only
        rw [h2, ht]
        simp only [List.mem_append, List.mem_singleton]
        constructor
        · rintro ⟨a, b⟩; exact ⟨.inl a, b⟩
        · rintro ⟨a | a, b⟩
          · exact ⟨a, b⟩
          · subst a; exact (h0 b).elim)
  rw [if_pos (by simp)] at this
  obtain ⟨s, e1, e0, e2, e3⟩ := this
  rw [e1]
  exact ⟨s.2, rfl, e2, fun x => by rw [e3, List.take_length]⟩
theorem rReads_eq (n : Node) (hl : (rawR n).length ≤ 10000000) : ∃ r, windlassref07_Reads_s n = some r ∧ r.length ≤ 10000000 ∧ ∀ x, x ∈ r ↔ (x ∈ rawR n ∧ 0 ≤ x) := by
  obtain ⟨r, h1, h0, h2⟩ := add_eq (rawR n) hl
  refine ⟨r, ?_, by omega, h2⟩
  rw [← h1]
  have e0 : windlassref07_add_n_o_s [] = some [] := by
    obtain ⟨r, a, _, b⟩ := add_eq [] (by simp)
    rw [a]
    cases r with
    | nil => rfl
    | cons x l => have := (b x).1 (by simp); simp at this
  unfold windlassref07_Reads_s rawR
  simp only [jp, beq_iff_eq]
  have bs : ∀ o : Option (List Int), (o.bind fun x => some x) = o := fun o => by cases o <;> rfl
  simp only [bs]
  by_cases h2 : n.Op = 2
  · simp [h2]
  by_cases h5 : n.Op = 5
  · simp [h5]
  by_cases h7 : n.Op = 7
  · simp [h7]
  by_cases h9 : n.Op = 9
  · simp [h9]
  by_cases h12 : n.Op = 12
  · simp [h12]
  by_cases h14 : n.Op = 14
  · simp [h14]
  by_cases h17 : n.Op = 17
  · simp [h17]
  by_cases h18 : n.Op = 18
  · simp [h18]
  by_cases h3 : n.Op = 3
  · simp [h3]
  by_cases h8 : n.Op = 8
  · simp [h8]
  by_cases h11 : n.Op = 11
  · simp [h11]
  by_cases h13 : n.Op = 13
  · simp [h13]
  simp [h2, h5, h7, h9, h12, h14, h17, h18, h3, h8, h11, h13, e0]
theorem rWrites_eq (n : Node) : ∃ r, windlassref07_Writes_s n = some r ∧ r.length ≤ 10000000 ∧ ∀ x, x ∈ r ↔ (x ∈ rawW n ∧ 0 ≤ x) := by
  obtain ⟨r, h1, h0, h2⟩ := add_eq (rawW n) (by have := rawW_len n; omega)
  refine ⟨r, ?_, by have := rawW_len n; omega, h2⟩
  rw [← h1]
  have e0 : windlassref07_add_n_o_s [] = some [] := by
    obtain ⟨r, a, _, b⟩ := add_eq [] (by simp)
    rw [a]
    cases r with
    | nil => rfl
    | cons x l => have := (b x).1 (by simp); simp at this
  unfold windlassref07_Writes_s rawW
  simp only [jp, beq_iff_eq]
  have bs : ∀ o : Option (List Int), (o.bind fun x => some x) = o := fun o => by cases o <;> rfl
  simp only [bs]
  by_cases h1 : n.Op = 1
  · simp [h1]
  by_cases h2 : n.Op = 2
  · simp [h2]
  by_cases h3 : n.Op = 3
  · simp [h3]
  by_cases h4 : n.Op = 4
  · simp [h4]
  by_cases h6 : n.Op = 6
  · simp [h6]
  by_cases h7 : n.Op = 7
  · simp [h7]
  by_cases h11 : n.Op = 11
  · simp [h11]
  by_cases h16 : n.Op = 16
  · simp [h16]
  by_cases h15 : n.Op = 15
  · simp [h15]
  simp [h1, h2, h3, h4, h6, h7, h11, h16, h15, e0]
end Go.Proofs.YtgoejecjmodjiaaDoor

/- ref11.In: what it computes. -/
namespace Go.Proofs.YtgoejecjmodjiaaDoor
open Go Go.Ab
set_option linter.unusedVariables false
set_option linter.unusedSimpArgs false
abbrev Rw := List (List Bool)
variable {N K : Nat} {s : List (List Bool)}
abbrev RL := List (List Int)
abbrev T4 := Rw × Bool
abbrev T3 := Int × Rw × Bool
abbrev B3 := Stp T4 (Option RL)
abbrev B2 := Stp T3 (Option B3)
abbrev B1 := Stp T4 (Option B2)
def Shp (N K : Nat) (s : Rw) : Prop := s.length = N ∧ ∀ r ∈ s, r.length = K
instance : Decidable (Shp N K s) := by unfold Shp; infer_instance
def rv_new (K : Nat) (i : Nat) (s : Rw) : Option (Stp Rw (Option RL)) := gd (Shp i K s) ((mkL 1 (K : Int) (K : Int) false).bind fun w => some (.nxt (s ++ [w])))
def rv_or (rows : Rw) (w : List Int) (p : Int) (_ : Nat) (to : Int) (is : Bool) : Option (Stp Bool (Option B1)) :=
  if is = true then some (.nxt true) else (getI rows to).bind fun r => (getI r p).bind fun b => if b = true then (windlassref07_In_s w p).bind fun x => some (.nxt (!x)) else some (.nxt false)
def rv_p (g : Graph) (i : Int) (n : Node) (w : List Int) (p : Nat) (s : T4) : Option (Stp T4 (Option B2)) :=
  gd (Shp g.Nodes.length g.Kinds.length s.1) ((windlassref07_Reads_s n).bind fun rd => (windlassref07_In_s rd (p : Int)).bind fun is0 => (windlassref07_Next_s n).bind fun nx =>
  (rng (rv_or s.1 w (p : Int)) nx is0).bind (oc fun is => if is = true then (getI s.1 i).bind fun r => (getI r (p : Int)).bind fun b => (if (!b) = true then some (.nxt (s.1.set i.toNat (r.set p true), true)) else some (.nxt s)) else some (.nxt s)))
def rv_i (g : Graph) (q : T3) : Option (Stp T3 (Option B3)) :=
  gd (Shp g.Nodes.length g.Kinds.length q.2.1) (if (decide (q.1 ≥ 0)) = true then (getI g.Nodes q.1).bind fun n => (windlassref07_Writes_s n).bind fun w => (rni (rv_p g q.1 n w) (List.length g.Kinds : Int) q.2).bind (oc fun s => gd (Shp g.Nodes.length g.Kinds.length s.1) (some (.nxt (I64 (q.1 - 1), s)))) else some (.brk q))
def rv_more (fuel : Nat) (g : Graph) (s : T4) : Option (Stp T4 (Option RL)) :=
  gd (Shp g.Nodes.length g.Kinds.length s.1) (if s.2 = true then (whileN (rv_i g) fuel (I64 ((List.length g.Nodes : Int) - 1), s.1, false)).bind (oc fun q => gd (Shp g.Nodes.length g.Kinds.length q.2.1) (some (.nxt q.2))) else some (.brk s))
def rv_l (p : Nat) (b : Bool) (l : List Int) : Option (Stp (List Int) (Option (Stp RL (Option RL)))) := if b = true then (appL 8 l [(p : Int)]).bind fun l' => some (.nxt l') else some (.nxt l)
def rv_out (rows : Rw) (i : Nat) (o : RL) : Option (Stp RL (Option RL)) := (getI rows (i : Int)).bind fun r => (rng rv_l r []).bind (oc fun l => (appL 24 o [l]).bind fun o' => some (.nxt o'))
def windlassref11_In_s (fuel : Nat) (g : Graph) : Option RL :=
  (mkL 24 (List.length g.Nodes : Int) (List.length g.Nodes : Int) ()).bind fun _ => (rni (rv_new g.Kinds.length) (List.length g.Nodes : Int) []).bind (oc fun s => gd (Shp g.Nodes.length g.Kinds.length s) ((whileN (rv_more fuel g) fuel (s, true)).bind (oc fun e =>
  gd (Shp g.Nodes.length g.Kinds.length e.1) ((rni (rv_out e.1) (List.length g.Nodes : Int) []).bind (oc fun o => some o)))))
def cl (s : Rw) (i p : Nat) : Bool := (s.getD i []).getD p false
def fls (r : List Bool) : Nat := (r.filter (fun b => !b)).length
def cntF (s : Rw) : Nat := (s.map fls).sum
theorem Shp.row (h : Shp N K s) {i : Nat} (hi : i < N) : ∃ r, s[i]? = some r ∧ r.length = K ∧ s.getD i [] = r := by
  have hl : i < s.length := by rw [h.1]; exact hi
  exact ⟨s[i], List.getElem?_eq_getElem hl, h.2 _ (List.getElem_mem hl), by simp [List.getD_eq_getElem?_getD, hl]⟩
theorem Shp.at (h : Shp N K s) {i p : Nat} (hi : i < N) (hp : p < K) : ∃ r, getI s (i : Int) = some r ∧ r.length = K ∧ getI r (p : Int) = some (cl s i p) := by
  obtain ⟨r, h1, h2, h3⟩ := h.row hi
  refine ⟨r, by rw [getI_n]; exact h1, h2, ?_⟩
  have : p < r.length := by omega
  rw [getI_n, List.getElem?_eq_getElem this]
  unfold cl; rw [h3]; simp [List.getD_eq_getElem?_getD, this]
theorem Shp.set (h : Shp N K s) {i p : Nat} (hi : i < N) {r : List Bool} (hr : s[i]? = some r) : Shp N K (s.set i (r.set p true)) := by
  refine ⟨by rw [List.length_set]; exact h.1, fun x hx => ?_⟩
  rcases List.mem_or_eq_of_mem_set hx with a | a
  · exact h.2 x a
  · rw [a, List.length_set]; exact h.2 r (List.mem_of_getElem? hr)
theorem cl_set {s : Rw} {i p j k : Nat} {r : List Bool} (hr : s[i]? = some r) (hp : p < r.length) : cl (s.set i (r.set p true)) j k = if j = i ∧ k = p then true else cl s j k := by
  have hi : i < s.length := (List.getElem?_eq_some_iff.1 hr).1
  unfold cl
  by_cases e : j = i
  · subst e
    have e1 : (s.set j (r.set p true)).getD j [] = r.set p true := by simp [List.getD_eq_getElem?_getD, hi]
    have e2 : s.getD j [] = r := by simp [List.getD_eq_getElem?_getD, hr]
    rw [e1, e2]
    by_cases f : k = p
    · subst f; simp [List.getD_eq_getElem?_getD, hp]
    · have : ¬ p = k := fun h => f h.symm
      simp [List.getD_eq_getElem?_getD, f, List.getElem?_set, this]
  · have : ¬ i = j := fun h => e h.symm
    simp [List.getD_eq_getElem?_getD, e, List.getElem?_set, this]
theorem fls_set : ∀ (r : List Bool) (p : Nat), r[p]? = some false → fls (r.set p true) + 1 = fls r
  | [], p, h => by simp at h
  | b :: r, 0, h => by simp at h; subst h; simp [fls]
  | b :: r, p + 1, h => by
    have := fls_set r p (by simpa using h)
    unfold fls at this ⊢
    cases b <;> simp at this ⊢ <;> omega
theorem cntF_set : ∀ (s : Rw) (i : Nat) (r r' : List Bool), s[i]? = some r → fls r' + 1 = fls r → cntF (s.set i r') + 1 = cntF s
  | [], i, r, r', h, _ => by simp at h
  | x :: s, 0, r, r', h, e => by simp at h; subst h; simp [cntF]; omega
  | x :: s, i + 1, r, r', h, e => by
    have := cntF_set s i r r' (by simpa using h) e
    simp [cntF] at this ⊢; omega
theorem cntF_le (h : Shp N K s) : cntF s ≤ N * K := by
  obtain ⟨h1, h2⟩ := h
  subst h1
  induction s with
  | nil => simp [cntF]
  | cons x s ih =>
    have hx := h2 x (by simp)
    have := ih (fun r hr => h2 r (by simp [hr]))
    have hf : fls x ≤ K := by unfold fls; rw [← hx]; exact List.length_filter_le _ _
    simp only [cntF, List.map_cons, List.sum_cons, List.length_cons] at this ⊢
    rw [Nat.add_mul]; omega
end Go.Proofs.YtgoejecjmodjiaaDoor

/- ref11.In finds the least answer. -/
namespace Go.Proofs.YtgoejecjmodjiaaDoor
open Go Go.Ab
set_option linter.unusedVariables false
set_option linter.unusedSimpArgs false
variable {N K : Nat} {s : Rw} {g : Graph}
theorem or_loop7 (h : Shp N K s) {p : Nat} (hp : p < K) (w : List Int) (hw : w.length ≤ 10000000) (nx : List Int) (hl : nx.length ≤ 2) (hn : ∀ x ∈ nx, 0 ≤ x ∧ x < N) (is0 : Bool) :
    rng (rv_or s w (p : Int)) nx is0 = some (.fin (is0 || nx.any fun to => cl s to.toNat p && !decide ((p : Int) ∈ w))) := by
  have := rng_inv (xs := nx) (s0 := is0) (body := rv_or s w (p : Int)) (fun _ => true) none (fun k b => b = (is0 || (nx.take k).any fun to => cl s to.toNat p && !decide ((p : Int) ∈ w))) (by omega) (by simp) (fun k to b hx hb => by
    simp only [if_true]
    have hto := hn to (List.mem_of_getElem? hx)
    obtain ⟨t, rfl⟩ : ∃ t : Nat, to = (t : Int) := ⟨to.toNat, by omega⟩
    rw [take_snoc hx, List.any_append, List.any_cons, List.any_nil, Bool.or_false, ← Bool.or_assoc, ← hb]
    unfold rv_or
    cases b with
    | true => exact ⟨true, by simp, by simp⟩
    | false =>
      obtain ⟨r, h1, h2, h3⟩ := h.at (i := t) (by omega) hp
      simp only [Bool.false_eq_true, if_false, h1, h3, Option.bind_some, rIn_eq w _ (by omega), Int.toNat_natCast]
      cases cl s t p with
      | true => exact ⟨!decide ((p : Int) ∈ w), by simp, by simp⟩
      | false => exact ⟨false, by simp, by simp⟩)
  rw [if_pos (by simp)] at this
  obtain ⟨s', e1, e2⟩ := this
  rw [e1, e2, List.take_length]
def need (g : Graph) (s : Rw) (i p : Nat) : Prop := (p : Int) ∈ rdR g i ∨ ∃ to : Nat, (to : Int) ∈ nxt g i ∧ cl s to p = true ∧ (p : Int) ∉ wrR g i
def Sound (g : Graph) (s : Rw) : Prop := ∀ i p, i < g.Nodes.length → p < g.Kinds.length → cl s i p = true → Lv g i p
structure Rnd (g : Graph) (R0 : Rw) (s : T4) : Prop where
  sh : Shp g.Nodes.length g.Kinds.length s.1
  so : Sound g s.1
  eq : s.2 = false → s.1 = R0
  lt : s.2 = true → cntF s.1 < cntF R0
theorem p_step (hg : GoodG g) {R0 : Rw} {i : Nat} {n : Node} (hn : g.Nodes[i]? = some n) {w : List Int} (hw : windlassref07_Writes_s n = some w) {s : T4} (h : Rnd g R0 s) {p : Nat} (hp : p < g.Kinds.length) :
    ∃ s', rv_p g (i : Int) n w p s = some (.nxt s') ∧ Rnd g R0 s' ∧ (s'.2 = false → s' = s ∧ (need g s.1 i p → cl s.1 i p = true)) := by
  have hi : i < g.Nodes.length := (List.getElem?_eq_some_iff.1 hn).1
  have eR : rdR g i = rawR n := by unfold rdR; rw [hn]
  have eW : wrR g i = rawW n := by unfold wrR; rw [hn]
  have eN : nxt g i = nextL n := by unfold nxt; rw [hn]
  obtain ⟨rd, r1, r2, r3⟩ := rReads_eq n (by rw [← eR]; have := hg.rd i; omega)
  obtain ⟨w', w1, w2, w3⟩ := rWrites_eq n
  rw [hw] at w1; cases w1
  unfold rv_p
  rw [gd_true h.sh, r1]
  simp only [Option.bind_some, rIn_eq rd _ (by omega), rNext_eq]
  rw [or_loop7 h.sh hp w w2 (nextL n) (nextL_len n) (fun x hx => hg.nx i x (by rw [eN]; exact hx))]
  simp only [Option.bind_some, oc]
  have key : (decide ((p : Int) ∈ rd) || (nextL n).any fun to => cl s.1 to.toNat p && !decide ((p : Int) ∈ w)) = true ↔ need g s.1 i p := by
    unfold need
    rw [eR, eW, eN]
    simp only [Bool.or_eq_true, decide_eq_true_eq, r3, List.any_eq_true, Bool.and_eq_true, Bool.not_eq_true', decide_eq_false_iff_not, w3]
    constructor
    · rintro (⟨a, _⟩ | ⟨to, a, b, c⟩)
      · exact .inl a
      · have := hg.nx i to (by rw [eN]; exact a)
        exact .inr ⟨to.toNat, by rw [Int.toNat_of_nonneg this.1]; exact a, b, fun q => c ⟨q, by omega⟩⟩
    · rintro (a | ⟨to, a, b, c⟩)
      · exact .inl ⟨a, by omega⟩
      · exact .inr ⟨(to : Int), a, by simpa using b, fun q => c q.1⟩
  obtain ⟨r, h1, h2, h3⟩ := h.sh.at hi hp
  have hrow : s.1[i]? = some r := by rw [← getI_n]; exact h1
  cases hb : (decide ((p : Int) ∈ rd) || (nextL n).any fun to => cl s.1 to.toNat p && !decide ((p : Int) ∈ w)) with
  | false =>
    simp only [Bool.false_eq_true, if_false]
    refine ⟨s, rfl, h, fun _ => ⟨rfl, fun q => ?_⟩⟩
    rw [key.2 q] at hb; cases hb
  | true =>
    have hneed := key.1 hb
    simp only [if_true, h1, h3, Option.bind_some]
    cases hc : cl s.1 i p with
    | true =>
      simp only [Bool.not_true, Bool.false_eq_true, if_false]
      exact ⟨s, rfl, h, fun _ => ⟨rfl, by simp⟩⟩
    | false =>
      simp only [Bool.not_false, if_true]
      have hrp : p < r.length := by omega
      have hrf : r[p]? = some false := by rw [← getI_n, h3, hc]
      have hcnt := cntF_set s.1 i r (r.set p true) hrow (fls_set r p hrf)
      refine ⟨_, rfl, ⟨h.sh.set hi hrow, fun j k hj hk hcl => ?_, fun q => by simp at q, fun _ => ?_⟩, fun q => by simp at q⟩
      · simp only [Int.toNat_natCast] at hcl
        rw [cl_set hrow hrp] at hcl
        by_cases e : j = i ∧ k = p
        · obtain ⟨rfl, rfl⟩ := e
          rcases hneed with a | ⟨to, a, b, c⟩
          · exact .read hj hk a
          · have ht := hg.nx _ _ a
            exact .step hj a (h.so to k (by omega) hk b) c
        · rw [if_neg e] at hcl; exact h.so j k hj hk hcl
      · simp only [Int.toNat_natCast]
        cases q : s.2 with
        | true => have := h.lt q; omega
        | false => have := h.eq q; rw [← this]; omega
theorem p_loop (hg : GoodG g) {R0 : Rw} {i : Nat} {n : Node} (hn : g.Nodes[i]? = some n) {w : List Int} (hw : windlassref07_Writes_s n = some w) {s : T4} (h : Rnd g R0 s) :
    ∃ s', rni (rv_p g (i : Int) n w) (List.length g.Kinds : Int) s = some (.fin s') ∧ Rnd g R0 s' ∧ (s'.2 = false → s' = s ∧ ∀ p, p < g.Kinds.length → need g s.1 i p → cl s.1 i p = true) := by
  obtain ⟨s', e1, e2, e3⟩ := rni_inv (body := rv_p g (i : Int) n w) (n := (List.length g.Kinds : Int)) (s0 := s) (fun k t => Rnd g R0 t ∧ (t.2 = false → t = s ∧ ∀ p, p < k → need g s.1 i p → cl s.1 i p = true)) (by have := hg.kn; omega) ⟨h, fun q => ⟨rfl, fun p hp => by omega⟩⟩ (fun k t hk ht => by
    obtain ⟨h1, h2⟩ := ht
    obtain ⟨t', a, b, c⟩ := p_step hg hn hw h1 (p := k) (by omega)
    refine ⟨t', a, b, fun q => ?_⟩
    obtain ⟨rfl, c2⟩ := c q
    obtain ⟨rfl, d⟩ := h2 q
    refine ⟨rfl, fun p hp hne => ?_⟩
    by_cases e : p = k
    · subst e; exact c2 hne
    · exact d p (by omega) hne)
  exact ⟨s', e1, e2, fun q => by simpa using e3 q⟩
def Clos (g : Graph) (s : Rw) (k : Int) : Prop := ∀ i p : Nat, k < (i : Int) → i < g.Nodes.length → p < g.Kinds.length → need g s i p → cl s i p = true
theorem round_ok (hg : GoodG g) {fuel : Nat} (hf : 5000 ≤ fuel) {R0 : Rw} (h : Rnd g R0 (R0, false)) :
    ∃ q, whileN (rv_i g) fuel (I64 ((List.length g.Nodes : Int) - 1), R0, false) = some (.fin q) ∧ Rnd g R0 q.2 ∧ (q.2.2 = false → Clos g R0 (-1)) := by
  have hN := hg.nn
  obtain ⟨o, e1, e2⟩ := whileN_ex (body := rv_i g) (fun q => -1 ≤ q.1 ∧ q.1 < g.Nodes.length ∧ Rnd g R0 q.2 ∧ (q.2.2 = false → Clos g R0 q.1)) (fun q => (q.1 + 1).toNat) (fun o => ∃ q, o = .fin q ∧ Rnd g R0 q.2 ∧ (q.2.2 = false → Clos g R0 (-1))) (fun q hq => by
    obtain ⟨h1, h2, h3, h4⟩ := hq
    unfold rv_i
    rw [gd_true h3.sh]
    by_cases hge : q.1 ≥ 0
    · obtain ⟨i, hi⟩ : ∃ i : Nat, q.1 = (i : Int) := ⟨q.1.toNat, by omega⟩
      have hi2 : i < g.Nodes.length := by omega
      obtain ⟨w, w1, w2, w3⟩ := rWrites_eq g.Nodes[i]
      obtain ⟨s', a, b, c⟩ := p_loop hg (List.getElem?_eq_getElem hi2) w1 h3
      left
      refine ⟨(q.1 - 1, s'), ?_, ⟨by simp only; omega, by simp only; omega, b, fun z => ?_⟩, by simp only; omega⟩
      · simp only [hge, decide_true, if_true]
        rw [hi, getI_n, List.getElem?_eq_getElem hi2]
        simp only [Option.bind_some, w1, a, oc]
        rw [gd_true b.sh, I64_of (by omega)]
      · obtain ⟨rfl, d⟩ := c z
        have e := h3.eq z
        rw [e] at d
        intro j p hj hjN hp hne
        simp only at hj
        by_cases ej : j = i
        · subst ej; exact d p hp hne
        · exact h4 z j p (by omega) hjN hp hne
    · right; left
      refine ⟨q, by simp [hge], q, rfl, h3, fun z => ?_⟩
      have : q.1 = -1 := by omega
      rw [← this]; exact h4 z) fuel (I64 ((List.length g.Nodes : Int) - 1), R0, false) ⟨by rw [I64_of (by omega)]; have := hg.n0; omega, by rw [I64_of (by omega)]; omega, h, fun _ j p hj hjN => by rw [I64_of (by omega)] at hj; simp only at hj; omega⟩ (by rw [I64_of (by omega)]; simp only; omega)
  obtain ⟨q, rfl, e3, e4⟩ := e2
  exact ⟨q, e1, e3, e4⟩
theorem more_ok (hg : GoodG g) {fuel : Nat} (hf : 10000000 ≤ fuel) {R : Rw} (hs : Shp g.Nodes.length g.Kinds.length R) (hz : ∀ i p, i < g.Nodes.length → p < g.Kinds.length → cl R i p = false) :
    ∃ e, whileN (rv_more fuel g) fuel (R, true) = some (.fin e) ∧ Shp g.Nodes.length g.Kinds.length e.1 ∧ ∀ i p, i < g.Nodes.length → p < g.Kinds.length → (cl e.1 i p = true ↔ Lv g i p) := by
  obtain ⟨o, e1, e2⟩ := whileN_ex (body := rv_more fuel g) (fun s => Shp g.Nodes.length g.Kinds.length s.1 ∧ Sound g s.1 ∧ (s.2 = false → Clos g s.1 (-1))) (fun s => if s.2 = true then cntF s.1 + 1 else 0) (fun o => ∃ e, o = .fin e ∧ Shp g.Nodes.length g.Kinds.length e.1 ∧ ∀ i p, i < g.Nodes.length → p < g.Kinds.length → (cl e.1 i p = true ↔ Lv g i p)) (fun s h => by
    obtain ⟨h1, h2, h3⟩ := h
    obtain ⟨R0, m⟩ := s
    unfold rv_more
    simp only at h1 h2 h3 ⊢
    rw [gd_true h1]
    cases m with
    | true =>
      left
      obtain ⟨q, a, b, c⟩ := round_ok hg (fuel := fuel) (by omega) (R0 := R0) ⟨h1, h2, fun _ => rfl, fun z => by cases z⟩
      refine ⟨q.2, ?_, ⟨b.sh, b.so, fun z => ?_⟩, ?_⟩
      · simp only [if_true, a, Option.bind_some, oc]
        rw [gd_true b.sh]
      · rw [b.eq z]; exact c z
      · simp only [if_true]
        split
        · have := b.lt (by assumption); omega
        · omega
    | false =>
      right; left
      refine ⟨(R0, false), by simp, (R0, false), rfl, h1, fun i p hi hp => ⟨h2 i p hi hp, fun hl => ?_⟩⟩
      have hc := h3 rfl
      simp only
      induction hl with
      | read hi' hp' hr => exact hc _ _ (by omega) hi' hp' (.inl hr)
      | step hi' ht hl hw ih =>
        have hh := hl.lt
        exact hc _ _ (by omega) hi' hh.2 (.inr ⟨_, ht, ih hh.1 hh.2, hw⟩)) fuel (R, true) ⟨hs, fun i p hi hp hc => (by rw [hz i p hi hp] at hc; cases hc), fun z => by cases z⟩ (by
      have := cntF_le hs
      have h1 := hg.nn; have h2 := hg.kn
      have : g.Nodes.length * g.Kinds.length ≤ 4096 * 1024 := Nat.mul_le_mul h1 h2
      simp only [if_true]; omega)
  obtain ⟨e, rfl, e3, e4⟩ := e2
  exact ⟨e, e1, e3, e4⟩
theorem l_loop (r : List Bool) (hr : r.length ≤ 1048576) : rng rv_l r [] = some (.fin (setL r.length fun p => r.getD p false)) := by
  have := rng_inv (xs := r) (s0 := ([] : List Int)) (body := rv_l) (fun _ => true) none (fun k l => l = setL k fun p => r.getD p false) (by omega) rfl (fun k b l hx hl => by
    simp only [if_true]
    have hb : r.getD k false = b := by simp [List.getD_eq_getElem?_getD, hx]
    have hll : l.length ≤ k := by rw [hl]; unfold setL; rw [List.length_map]; exact Nat.le_trans (List.length_filter_le _ _) (by simp)
    have hk : k < r.length := (List.getElem?_eq_some_iff.1 hx).1
    have hset : setL (k + 1) (fun p => r.getD p false) = l ++ (if b = true then [(k : Int)] else []) := by
      rw [hl]; unfold setL
      rw [List.range_succ, List.filter_append, List.map_append]
      congr 1
      simp only [List.filter_cons, List.filter_nil, hb]
      cases b <;> simp
    unfold rv_l
    cases b with
    | true =>
      refine ⟨l ++ [(k : Int)], ?_, by rw [hset]; simp⟩
      simp only [if_true]
      rw [appL_of (by simp; omega)]; rfl
    | false => exact ⟨l, by simp, by rw [hset]; simp⟩)
  rw [if_pos (by simp)] at this
  obtain ⟨s', e1, e2⟩ := this
  rw [e1, e2]
theorem out_loop (h : Shp N K s) (hN : N ≤ 5000) (hK : K ≤ 1048576) : rni (rv_out s) (N : Int) [] = some (.fin ((List.range N).map fun i => setL K (cl s i))) := by
  obtain ⟨s', e1, e2⟩ := rni_inv (body := rv_out s) (n := (N : Int)) (s0 := ([] : RL)) (fun k o => o = (List.range k).map fun i => setL K (cl s i)) (by omega) rfl (fun k o hk ho => by
    obtain ⟨r, h1, h2, h3⟩ := h.row (i := k) (by omega)
    have hc : (fun p => r.getD p false) = cl s k := by funext p; unfold cl; rw [h3]
    refine ⟨o ++ [setL K (cl s k)], ?_, by rw [List.range_succ, List.map_append, ← ho]; rfl⟩
    unfold rv_out
    rw [getI_n, h1]
    simp only [Option.bind_some, l_loop r (by omega), oc]
    rw [h2, hc, appL_of (by rw [ho]; simp; omega)]; rfl)
  rw [e1, e2]; simp
theorem new_loop (g : Graph) (hg : GoodG g) : ∃ s, rni (rv_new g.Kinds.length) (List.length g.Nodes : Int) [] = some (.fin s) ∧ Shp g.Nodes.length g.Kinds.length s ∧ ∀ i p, cl s i p = false := by
  obtain ⟨s', e1, e2, e3⟩ := rni_inv (body := rv_new g.Kinds.length) (n := (List.length g.Nodes : Int)) (s0 := ([] : Rw)) (fun k s => Shp k g.Kinds.length s ∧ ∀ r ∈ s, r = List.replicate g.Kinds.length false) (by have := hg.nn; omega) ⟨⟨rfl, by simp⟩, by simp⟩ (fun k s hk hs => by
    obtain ⟨h1, h2⟩ := hs
    have := hg.kn
    refine ⟨s ++ [List.replicate g.Kinds.length false], ?_, ⟨by rw [List.length_append, h1.1]; rfl, ?_⟩, ?_⟩
    · unfold rv_new
      rw [gd_true h1]
      unfold mkL
      rw [if_pos (by omega)]; simp
    · intro r hr
      rcases List.mem_append.1 hr with a | a
      · exact h1.2 r a
      · simp at a; rw [a]; simp
    · intro r hr
      rcases List.mem_append.1 hr with a | a
      · exact h2 r a
      · simpa using a)
  refine ⟨s', e1, by simpa using e2, fun i p => ?_⟩
  unfold cl
  rcases Nat.lt_or_ge i s'.length with a | a
  · have := e3 _ (List.getElem_mem a)
    simp only [List.getD_eq_getElem?_getD, List.getElem?_eq_getElem a, Option.getD_some, this, List.getElem?_replicate]
    split <;> rfl
  · simp [List.getD_eq_getElem?_getD, a]
theorem rIn_ok (hg : GoodG g) {fuel : Nat} (hf : 10000000 ≤ fuel) : windlassref11_In_s fuel g = some (inL g) := by
  unfold windlassref11_In_s
  have hN := hg.nn; have hK := hg.kn
  have hm : mkL 24 (List.length g.Nodes : Int) (List.length g.Nodes : Int) () = some (List.replicate g.Nodes.length ()) := by unfold mkL; rw [if_pos (by omega)]; simp
  obtain ⟨s, a1, a2, a3⟩ := new_loop g hg
  obtain ⟨e, b1, b2, b3⟩ := more_ok hg hf a2 (fun i p _ _ => a3 i p)
  rw [hm]
  simp only [Option.bind_some, a1, oc]
  rw [gd_true a2, b1]
  simp only [Option.bind_some, oc]
  rw [gd_true b2, out_loop b2 (by omega) (by omega)]
  simp only [Option.bind_some, oc]
  unfold inL
  congr 1
  refine List.map_congr_left (fun i hi => setL_congr (fun p hp => ?_))
  have := b3 i p (by simpa using hi) hp
  unfold lvB
  exact @bool_of _ _ (Classical.propDecidable _) this
end Go.Proofs.YtgoejecjmodjiaaDoor

