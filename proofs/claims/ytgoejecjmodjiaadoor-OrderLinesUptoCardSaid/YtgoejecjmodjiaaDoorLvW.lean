/- What ref7.Right says: the same as ir.Check. -/
import Derived.Test.YtgoejecjmodjiaaDoorGenR
import Derived.Test.YtgoejecjmodjiaaDoorGenOA
import Derived.Test.YtgoejecjmodjiaaDoorWlTz
import Derived.Test.YtgoejecjmodjiaaDoorRows
set_option linter.unusedVariables false
set_option linter.unusedSimpArgs false
namespace Go.Proofs.YtgoejecjmodjiaaDoor
open Go Go.Ab
theorem a5g (l : List Int) (v : Int) (hl : l.length ≤ 4611686018427387904) : j7 l v = some (decide (v ∈ l)) := by
 unfold j7
 refine (a0s (xs := l) v (fun _ x => !(x == v)) true hl (fun i x hx => ?_)).trans ?_
 ·cases x == v <;> simp
 ·rw [a1O]
  by_cases h : v ∈ l
  ·have : (l.all fun x => !(x == v)) = false := by
    rw [List.all_eq_false]; exact ⟨v, h, by simp⟩
   rw [this]; simp [h]
  ·have : (l.all fun x => !(x == v)) = true := by
    rw [List.all_eq_true]; intro x hx
    have : x ≠ v := fun e => h (e ▸ hx)
    simpa using this
   rw [this]; simp [h]
theorem a1e (g : b5) (p k : Int) : b9 g false p k = some (a1H g k p) := by
 unfold b9
 simp only [jp, decide_eq_true_eq]
 by_cases h1 : p ≥ 0
 case neg =>
  have : a1H g k p = false := by unfold a1H; simp; omega
  simp [this, h1]
 by_cases h2 : p < (List.length g.Kinds : Int)
 case neg =>
  have : a1H g k p = false := by unfold a1H; simp; omega
  simp [this, h1, h2]
 obtain ⟨q, rfl⟩ : ∃ i : Nat, p = (i : Int) := ⟨p.toNat, by omega⟩
 have hq : q < g.Kinds.length := by omega
 have e : a1H g k (q : Int) = (g.Kinds[q] == k) := by
  unfold a1H
  rw [r8, List.getElem?_eq_getElem hq]
  simp [hq]
 rw [e, if_pos h1, if_pos h2, r8, List.getElem?_eq_getElem hq]
 simp
theorem a6l (n : g7) : o6 n = some (a2n n) := by
 unfold o6 a2n
 simp only [jp, beq_iff_eq, decide_eq_true_eq, bne_iff_ne, ne_eq]
 by_cases h12 : n.Op = 12
 ·simp [h12]
 by_cases h14 : n.Op = 14
 ·simp [h14]
 by_cases h18 : n.Op = 18
 ·simp [h18]
 by_cases h9 : n.Op = 9
 ·by_cases he : n.Else = n.Next <;> simp [h9, he]
 by_cases h1 : n.Op < 1
 ·simp [h1, h12, h14, h18, h9]
 by_cases h2 : n.Op > 18 <;> simp [h1, h2, h12, h14, h18, h9]
theorem b5c (g : b5) : a0b g false = some (a4p g) := by
 unfold a0b a4p
 simp only [jp, Bool.false_eq_true, if_false]
 by_cases h1 : g.Kinds.length ≤ 1024
 case neg =>
  have h1' : (g.Kinds.length : Int) > 1024 := by omega
  simp [h1, h1']
 have h1' : ¬ ((g.Kinds.length : Int) > 1024) := by omega
 simp only [h1', decide_false, Bool.false_eq_true, if_false, h1, decide_true, Bool.true_and]
 have hk : ∀ (f : Unit → Option Bool), ((rng (fun (i_4 : Nat) (k_5 : Int) (s_3 : Unit) => ((if (decide (k_5 > 1)) then (some (.ret (some false))) else (some (.nxt ()))) : Option (Stp Unit (Option Bool)))) g.Kinds ()).bind (oc f)) = if (g.Kinds.any fun k => decide (k > 1)) = true then some false else f () := fun f => by
  refine (a0s (xs := g.Kinds) () (fun _ x => !decide (x > 1)) false zO (fun i x hx => ?_)).trans ?_
  ·by_cases h : x > 1 <;> simp [h]
  ·rw [a1O]
   have e : (g.Kinds.all fun x => !decide (x > 1)) = !(g.Kinds.any fun k => decide (k > 1)) := by
    rw [List.not_any_eq_all_not]
   rw [e]
   cases g.Kinds.any fun k => decide (k > 1) <;> simp
 by_cases h3 : g.Params.length ≤ 4
 case neg =>
  have h3' : (g.Params.length : Int) > 4 := by omega
  simp [h3, h3']
 have h3' : ¬ ((g.Params.length : Int) > 4) := by omega
 simp only [h3', decide_false, Bool.false_eq_true, if_false, h3, decide_true, Bool.true_and]
 by_cases h4 : g.Init.length = g.Params.length
 case neg =>
  have h4' : ((g.Init.length : Int) != (g.Params.length : Int)) = true := by simp; omega
  simp [h4, h4']
 have h4' : ((g.Init.length : Int) != (g.Params.length : Int)) = false := by simp; omega
 simp only [h4', Bool.false_eq_true, if_false]
 simp only [h4, decide_true, Bool.true_and]
 by_cases h5 : 0 ≤ g.Cells
 case neg =>
  have h5' : g.Cells < 0 := by omega
  simp [h5, h5']
 have h5' : ¬ (g.Cells < 0) := by omega
 by_cases h6 : g.Cells ≤ 64
 case neg =>
  have h6' : g.Cells > 64 := by omega
  simp [h5', h6, h6']
 have h6' : ¬ (g.Cells > 64) := by omega
 simp only [h5', h6', decide_false, Bool.false_eq_true, if_false, h5, h6, and_self, decide_true, Bool.true_and]
 by_cases h7 : g.Keep < -1
 ·have : (decide (g.Keep = -1) || a1x g g.Keep) = false := by unfold a1x; simp; omega
  simp [h7, this]
 by_cases h8 : g.Keep ≥ g.Cells
 ·have : (decide (g.Keep = -1) || a1x g g.Keep) = false := by unfold a1x; simp; omega
  simp [h7, h8, this]
 have : (decide (g.Keep = -1) || a1x g g.Keep) = true := by unfold a1x; simp; omega
 simp only [this, h7, h8, decide_false, Bool.false_eq_true, if_false, Bool.true_and]
 rw [hk]
 cases h2 : g.Kinds.any fun k => decide (k > 1) with
 | true => simp
 | false =>
 simp only [Bool.false_eq_true, if_false, Bool.not_false, Bool.true_and]
 refine (a0s () (b5Q g) false zO (fun i p hx => ?_)).trans ?_
 ·have hi : i < g.Params.length := (List.getElem?_eq_some_iff.1 hx).1
  have hi2 : i < g.Init.length := by omega
  have hsub : b1w g.Params 0 (i : Int) = some (g.Params.take i) := by
   unfold b1w; rw [if_pos zO]; simp
  simp only [b5Q, List.getElem?_eq_getElem hi2, hsub, Option.bind_some, r8]
  by_cases q1 : 0 ≤ p
  case neg =>
   have q1' : p < 0 := by omega
   simp [q1, q1']
  have q1' : ¬ (p < 0) := by omega
  by_cases q2 : p < (g.Kinds.length : Int)
  case neg =>
   have q2' : p ≥ (g.Kinds.length : Int) := by omega
   simp [q1', q2, q2']
  have q2' : ¬ (p ≥ (g.Kinds.length : Int)) := by omega
  simp only [q1', q2', decide_false, Bool.false_eq_true, if_false, q1, q2, and_self, decide_true, Bool.true_and]
  rw [a5g _ _ zE]
  by_cases q3 : p ∈ g.Params.take i
  ·simp [q3]
  simp only [q3, decide_false, Option.bind_some, Bool.false_eq_true, if_false, Bool.not_false, Bool.true_and]
  by_cases q4 : g.Init[i] < -1
  ·have e1 : ¬ g.Init[i] = -1 := by omega
   have e2 : a1x g g.Init[i] = false := by unfold a1x; simp; omega
   simp [q4, e1, e2]
  by_cases q5 : g.Init[i] ≥ g.Cells
  ·have e1 : ¬ g.Init[i] = -1 := by omega
   have e2 : a1x g g.Init[i] = false := by unfold a1x; simp; omega
   simp [q4, q5, e1, e2]
  by_cases q6 : g.Init[i] ≥ 0
  ·have e1 : ¬ g.Init[i] = -1 := by omega
   have e2 : a1x g g.Init[i] = true := by unfold a1x; simp; omega
   simp only [q4, q5, q6, e1, e2, decide_false, decide_true, Bool.false_eq_true, if_false, if_true, a1e, Option.bind_some, Bool.false_or, Bool.true_and]
   cases a1H g 0 p <;> simp
  ·have e1 : g.Init[i] = -1 := by omega
   have e2 : -1 < g.Cells := by omega
   simp [q4, q5, q6, e1, e2]
 ·cases t8 (b5Q g) 0 g.Params with
  | false => simp
  | true =>
    simp only [if_true, Bool.true_and, c3F]
    by_cases r1 : 1 ≤ g.Nodes.length
    case neg =>
     have r1' : ¬ ((g.Nodes.length : Int) ≥ 1) := by omega
     simp only [r1, r1', decide_false, Bool.false_eq_true, if_false, false_and]
    have r1' : (g.Nodes.length : Int) ≥ 1 := by omega
    by_cases r2 : g.Nodes.length ≤ 4096
    case neg =>
     have r2' : ¬ ((g.Nodes.length : Int) ≤ 4096) := by omega
     simp only [r1', r2, r2', decide_true, decide_false, Bool.false_eq_true, if_true, if_false, false_and, and_false]
    have r2' : (g.Nodes.length : Int) ≤ 4096 := by omega
    by_cases r3 : 0 ≤ g.Entry
    case neg =>
     have r3' : ¬ (g.Entry ≥ 0) := by omega
     simp only [r1', r2', r3, r3', decide_true, decide_false, Bool.false_eq_true, if_true, if_false, false_and, and_false]
    have r3' : g.Entry ≥ 0 := r3
    simp only [r1, r1', r2, r2', r3, r3', decide_true, if_true, true_and]
def chk (g : b5) (b p : Int) : Bool := if b = 110 then a1H g 0 p else if b = 112 then a1H g 1 p else true
theorem x4 (g : b5) (w : ByteArray) (bs : List Int) (hb : bs.length = 4) (hw : ∀ i : Nat, i < 4 → a6f w (i : Int) = some (bs.getD i 0)) (ps : List Int) (hp : ps.length = 4) (f : Unit → Option Bool) :
  ((rng (fun (i_12 : Nat) (p_13 : Int) (s_11 : Unit) => (((a6f w (i_12 : Int)).bind fun b_15 => (if (b_15 == 110) then ((b9 g false p_13 0).bind fun fit_16 => (if (!fit_16) then (some (.ret (some false))) else (some (.nxt ())))) else (if (b_15 == 112) then ((b9 g false p_13 1).bind fun fit_17 => (if (!fit_17) then (some (.ret (some false))) else (some (.nxt ())))) else (some (.nxt ()))))) : Option (Stp Unit (Option Bool)))) ps ()).bind (oc f)) = if t8 (fun i p => chk g (bs.getD i 0) p) 0 ps = true then f () else some false := by
 refine a0s () (fun i p => chk g (bs.getD i 0) p) false zO (fun i p hx => ?_)
 have hi : i < ps.length := (List.getElem?_eq_some_iff.1 hx).1
 rw [hw i zO]
 simp only [Option.bind_some, chk, a1e, beq_iff_eq]
 generalize bs.getD i 0 = b
 by_cases h1 : b = 110
 ·simp only [h1, if_true]; cases a1H g 0 p <;> simp
 ·by_cases h2 : b = 112
  ·simp only [h2]; cases a1H g 1 p <;> simp
  ·simp [h1, h2]
theorem b3J {all : List b5} {g : b5} {n : g7} (h : n.Op < 1 ∨ n.Op > 18) : opB all g n = false := by
 have k : ∀ j : Int, 1 ≤ j → j ≤ 18 → ¬ n.Op = j := fun j _ _ => by omega
 unfold opB
 simp [k 1 zD zD, k 2 zD zD, k 3 zD zD, k 4 zD zD, k 5 zD zD, k 6 zD zD, k 7 zD zD, k 8 zD zD, k 9 zD zD, k 10 zD zD, k 11 zD zD, k 12 zD zD, k 13 zD zD, k 14 zD zD, k 15 zD zD, k 16 zD zD, k 17 zD zD, k 18 zD zD]
theorem a7K (g f : b5) (l : List Int) (hp : a7n f) (hl : l.length = f.Params.length) (h4 : f.Params.length ≤ 4) (F : Unit → Option Bool) :
  ((rng (fun (i_44 : Nat) (p_45 : Int) (s_43 : Unit) => (((s6 f.Params (i_44 : Int)).bind fun y_52 => ((s6 f.Kinds y_52).bind fun y_53 => (if a1H g y_53 p_45 = false then (some (.ret (some false))) else (some (.nxt ()))))) : Option (Stp Unit (Option Bool)))) l ()).bind (oc F)) = if t8 (b3x g f) 0 l = true then F () else some false := by
 refine a0s () (b3x g f) false zO (fun i p hx => ?_)
 have hi : i < l.length := (List.getElem?_eq_some_iff.1 hx).1
 have hip : i < f.Params.length := by omega
 have hr := hp _ (List.getElem_mem hip)
 obtain ⟨q, hq⟩ : ∃ q : Nat, f.Params[i] = (q : Int) := ⟨f.Params[i].toNat, by omega⟩
 have hqk : q < f.Kinds.length := by omega
 simp only [r8, List.getElem?_eq_getElem hip, Option.bind_some, hq, List.getElem?_eq_getElem hqk, b3x, a1e]
 cases a1H g f.Kinds[q] p <;> simp
theorem c1b (g : b5) (n : g7) (h : n.Op = 1) (F : Unit → Option Bool) : ((d9 n.Op).bind fun wan_10 => ((rng (fun (i_12 : Nat) (p_13 : Int) (s_11 : Unit) => (((a6f wan_10 (i_12 : Int)).bind fun b_15 => (if (b_15 == 110) then ((b9 g false p_13 0).bind fun fit_16 => (if (!fit_16) then (some (.ret (some false))) else (some (.nxt ())))) else (if (b_15 == 112) then ((b9 g false p_13 1).bind fun fit_17 => (if (!fit_17) then (some (.ret (some false))) else (some (.nxt ())))) else (some (.nxt ()))))) : Option (Stp Unit (Option Bool)))) [n.D, n.E, n.A, n.B] ()).bind (oc F))) = if t8 (fun i p => chk g ([110, 45, 45, 45].getD i 0) p) 0 [n.D, n.E, n.A, n.B] = true then F () else some false := by
 have e : d9 n.Op = some (ByteArray.mk #[110, 45, 45, 45]) := by rw [h]; rfl
 rw [e]
 exact x4 g (ByteArray.mk #[110, 45, 45, 45]) [110, 45, 45, 45] rfl (fun i hi => by match i, hi with | 0, _ => rfl | 1, _ => rfl | 2, _ => rfl | 3, _ => rfl) [n.D, n.E, n.A, n.B] rfl F
theorem c1c (g : b5) (n : g7) (h : n.Op = 2) (F : Unit → Option Bool) : ((d9 n.Op).bind fun wan_10 => ((rng (fun (i_12 : Nat) (p_13 : Int) (s_11 : Unit) => (((a6f wan_10 (i_12 : Int)).bind fun b_15 => (if (b_15 == 110) then ((b9 g false p_13 0).bind fun fit_16 => (if (!fit_16) then (some (.ret (some false))) else (some (.nxt ())))) else (if (b_15 == 112) then ((b9 g false p_13 1).bind fun fit_17 => (if (!fit_17) then (some (.ret (some false))) else (some (.nxt ())))) else (some (.nxt ()))))) : Option (Stp Unit (Option Bool)))) [n.D, n.E, n.A, n.B] ()).bind (oc F))) = if t8 (fun i p => chk g ([61, 45, 61, 45].getD i 0) p) 0 [n.D, n.E, n.A, n.B] = true then F () else some false := by
 have e : d9 n.Op = some (ByteArray.mk #[61, 45, 61, 45]) := by rw [h]; rfl
 rw [e]
 exact x4 g (ByteArray.mk #[61, 45, 61, 45]) [61, 45, 61, 45] rfl (fun i hi => by match i, hi with | 0, _ => rfl | 1, _ => rfl | 2, _ => rfl | 3, _ => rfl) [n.D, n.E, n.A, n.B] rfl F
theorem c1d (g : b5) (n : g7) (h : n.Op = 3) (F : Unit → Option Bool) : ((d9 n.Op).bind fun wan_10 => ((rng (fun (i_12 : Nat) (p_13 : Int) (s_11 : Unit) => (((a6f wan_10 (i_12 : Int)).bind fun b_15 => (if (b_15 == 110) then ((b9 g false p_13 0).bind fun fit_16 => (if (!fit_16) then (some (.ret (some false))) else (some (.nxt ())))) else (if (b_15 == 112) then ((b9 g false p_13 1).bind fun fit_17 => (if (!fit_17) then (some (.ret (some false))) else (some (.nxt ())))) else (some (.nxt ()))))) : Option (Stp Unit (Option Bool)))) [n.D, n.E, n.A, n.B] ()).bind (oc F))) = if t8 (fun i p => chk g ([110, 45, 110, 110].getD i 0) p) 0 [n.D, n.E, n.A, n.B] = true then F () else some false := by
 have e : d9 n.Op = some (ByteArray.mk #[110, 45, 110, 110]) := by rw [h]; rfl
 rw [e]
 exact x4 g (ByteArray.mk #[110, 45, 110, 110]) [110, 45, 110, 110] rfl (fun i hi => by match i, hi with | 0, _ => rfl | 1, _ => rfl | 2, _ => rfl | 3, _ => rfl) [n.D, n.E, n.A, n.B] rfl F
theorem c1e (g : b5) (n : g7) (h : n.Op = 4) (F : Unit → Option Bool) : ((d9 n.Op).bind fun wan_10 => ((rng (fun (i_12 : Nat) (p_13 : Int) (s_11 : Unit) => (((a6f wan_10 (i_12 : Int)).bind fun b_15 => (if (b_15 == 110) then ((b9 g false p_13 0).bind fun fit_16 => (if (!fit_16) then (some (.ret (some false))) else (some (.nxt ())))) else (if (b_15 == 112) then ((b9 g false p_13 1).bind fun fit_17 => (if (!fit_17) then (some (.ret (some false))) else (some (.nxt ())))) else (some (.nxt ()))))) : Option (Stp Unit (Option Bool)))) [n.D, n.E, n.A, n.B] ()).bind (oc F))) = if t8 (fun i p => chk g ([110, 45, 45, 45].getD i 0) p) 0 [n.D, n.E, n.A, n.B] = true then F () else some false := by
 have e : d9 n.Op = some (ByteArray.mk #[110, 45, 45, 45]) := by rw [h]; rfl
 rw [e]
 exact x4 g (ByteArray.mk #[110, 45, 45, 45]) [110, 45, 45, 45] rfl (fun i hi => by match i, hi with | 0, _ => rfl | 1, _ => rfl | 2, _ => rfl | 3, _ => rfl) [n.D, n.E, n.A, n.B] rfl F
theorem c1f (g : b5) (n : g7) (h : n.Op = 5) (F : Unit → Option Bool) : ((d9 n.Op).bind fun wan_10 => ((rng (fun (i_12 : Nat) (p_13 : Int) (s_11 : Unit) => (((a6f wan_10 (i_12 : Int)).bind fun b_15 => (if (b_15 == 110) then ((b9 g false p_13 0).bind fun fit_16 => (if (!fit_16) then (some (.ret (some false))) else (some (.nxt ())))) else (if (b_15 == 112) then ((b9 g false p_13 1).bind fun fit_17 => (if (!fit_17) then (some (.ret (some false))) else (some (.nxt ())))) else (some (.nxt ()))))) : Option (Stp Unit (Option Bool)))) [n.D, n.E, n.A, n.B] ()).bind (oc F))) = if t8 (fun i p => chk g ([45, 45, 110, 45].getD i 0) p) 0 [n.D, n.E, n.A, n.B] = true then F () else some false := by
 have e : d9 n.Op = some (ByteArray.mk #[45, 45, 110, 45]) := by rw [h]; rfl
 rw [e]
 exact x4 g (ByteArray.mk #[45, 45, 110, 45]) [45, 45, 110, 45] rfl (fun i hi => by match i, hi with | 0, _ => rfl | 1, _ => rfl | 2, _ => rfl | 3, _ => rfl) [n.D, n.E, n.A, n.B] rfl F
theorem c1g (g : b5) (n : g7) (h : n.Op = 6) (F : Unit → Option Bool) : ((d9 n.Op).bind fun wan_10 => ((rng (fun (i_12 : Nat) (p_13 : Int) (s_11 : Unit) => (((a6f wan_10 (i_12 : Int)).bind fun b_15 => (if (b_15 == 110) then ((b9 g false p_13 0).bind fun fit_16 => (if (!fit_16) then (some (.ret (some false))) else (some (.nxt ())))) else (if (b_15 == 112) then ((b9 g false p_13 1).bind fun fit_17 => (if (!fit_17) then (some (.ret (some false))) else (some (.nxt ())))) else (some (.nxt ()))))) : Option (Stp Unit (Option Bool)))) [n.D, n.E, n.A, n.B] ()).bind (oc F))) = if t8 (fun i p => chk g ([112, 45, 45, 45].getD i 0) p) 0 [n.D, n.E, n.A, n.B] = true then F () else some false := by
 have e : d9 n.Op = some (ByteArray.mk #[112, 45, 45, 45]) := by rw [h]; rfl
 rw [e]
 exact x4 g (ByteArray.mk #[112, 45, 45, 45]) [112, 45, 45, 45] rfl (fun i hi => by match i, hi with | 0, _ => rfl | 1, _ => rfl | 2, _ => rfl | 3, _ => rfl) [n.D, n.E, n.A, n.B] rfl F
theorem c1h (g : b5) (n : g7) (h : n.Op = 7) (F : Unit → Option Bool) : ((d9 n.Op).bind fun wan_10 => ((rng (fun (i_12 : Nat) (p_13 : Int) (s_11 : Unit) => (((a6f wan_10 (i_12 : Int)).bind fun b_15 => (if (b_15 == 110) then ((b9 g false p_13 0).bind fun fit_16 => (if (!fit_16) then (some (.ret (some false))) else (some (.nxt ())))) else (if (b_15 == 112) then ((b9 g false p_13 1).bind fun fit_17 => (if (!fit_17) then (some (.ret (some false))) else (some (.nxt ())))) else (some (.nxt ()))))) : Option (Stp Unit (Option Bool)))) [n.D, n.E, n.A, n.B] ()).bind (oc F))) = if t8 (fun i p => chk g ([110, 45, 112, 45].getD i 0) p) 0 [n.D, n.E, n.A, n.B] = true then F () else some false := by
 have e : d9 n.Op = some (ByteArray.mk #[110, 45, 112, 45]) := by rw [h]; rfl
 rw [e]
 exact x4 g (ByteArray.mk #[110, 45, 112, 45]) [110, 45, 112, 45] rfl (fun i hi => by match i, hi with | 0, _ => rfl | 1, _ => rfl | 2, _ => rfl | 3, _ => rfl) [n.D, n.E, n.A, n.B] rfl F
theorem c1i (g : b5) (n : g7) (h : n.Op = 8) (F : Unit → Option Bool) : ((d9 n.Op).bind fun wan_10 => ((rng (fun (i_12 : Nat) (p_13 : Int) (s_11 : Unit) => (((a6f wan_10 (i_12 : Int)).bind fun b_15 => (if (b_15 == 110) then ((b9 g false p_13 0).bind fun fit_16 => (if (!fit_16) then (some (.ret (some false))) else (some (.nxt ())))) else (if (b_15 == 112) then ((b9 g false p_13 1).bind fun fit_17 => (if (!fit_17) then (some (.ret (some false))) else (some (.nxt ())))) else (some (.nxt ()))))) : Option (Stp Unit (Option Bool)))) [n.D, n.E, n.A, n.B] ()).bind (oc F))) = if t8 (fun i p => chk g ([45, 45, 112, 110].getD i 0) p) 0 [n.D, n.E, n.A, n.B] = true then F () else some false := by
 have e : d9 n.Op = some (ByteArray.mk #[45, 45, 112, 110]) := by rw [h]; rfl
 rw [e]
 exact x4 g (ByteArray.mk #[45, 45, 112, 110]) [45, 45, 112, 110] rfl (fun i hi => by match i, hi with | 0, _ => rfl | 1, _ => rfl | 2, _ => rfl | 3, _ => rfl) [n.D, n.E, n.A, n.B] rfl F
theorem c1j (g : b5) (n : g7) (h : n.Op = 9) (F : Unit → Option Bool) : ((d9 n.Op).bind fun wan_10 => ((rng (fun (i_12 : Nat) (p_13 : Int) (s_11 : Unit) => (((a6f wan_10 (i_12 : Int)).bind fun b_15 => (if (b_15 == 110) then ((b9 g false p_13 0).bind fun fit_16 => (if (!fit_16) then (some (.ret (some false))) else (some (.nxt ())))) else (if (b_15 == 112) then ((b9 g false p_13 1).bind fun fit_17 => (if (!fit_17) then (some (.ret (some false))) else (some (.nxt ())))) else (some (.nxt ()))))) : Option (Stp Unit (Option Bool)))) [n.D, n.E, n.A, n.B] ()).bind (oc F))) = if t8 (fun i p => chk g ([45, 45, 110, 45].getD i 0) p) 0 [n.D, n.E, n.A, n.B] = true then F () else some false := by
 have e : d9 n.Op = some (ByteArray.mk #[45, 45, 110, 45]) := by rw [h]; rfl
 rw [e]
 exact x4 g (ByteArray.mk #[45, 45, 110, 45]) [45, 45, 110, 45] rfl (fun i hi => by match i, hi with | 0, _ => rfl | 1, _ => rfl | 2, _ => rfl | 3, _ => rfl) [n.D, n.E, n.A, n.B] rfl F
theorem b6W (g : b5) (n : g7) (h : n.Op = 10) (F : Unit → Option Bool) : ((d9 n.Op).bind fun wan_10 => ((rng (fun (i_12 : Nat) (p_13 : Int) (s_11 : Unit) => (((a6f wan_10 (i_12 : Int)).bind fun b_15 => (if (b_15 == 110) then ((b9 g false p_13 0).bind fun fit_16 => (if (!fit_16) then (some (.ret (some false))) else (some (.nxt ())))) else (if (b_15 == 112) then ((b9 g false p_13 1).bind fun fit_17 => (if (!fit_17) then (some (.ret (some false))) else (some (.nxt ())))) else (some (.nxt ()))))) : Option (Stp Unit (Option Bool)))) [n.D, n.E, n.A, n.B] ()).bind (oc F))) = if t8 (fun i p => chk g ([45, 45, 45, 45].getD i 0) p) 0 [n.D, n.E, n.A, n.B] = true then F () else some false := by
 have e : d9 n.Op = some (ByteArray.mk #[45, 45, 45, 45]) := by rw [h]; rfl
 rw [e]
 exact x4 g (ByteArray.mk #[45, 45, 45, 45]) [45, 45, 45, 45] rfl (fun i hi => by match i, hi with | 0, _ => rfl | 1, _ => rfl | 2, _ => rfl | 3, _ => rfl) [n.D, n.E, n.A, n.B] rfl F
theorem b6X (g : b5) (n : g7) (h : n.Op = 11) (F : Unit → Option Bool) : ((d9 n.Op).bind fun wan_10 => ((rng (fun (i_12 : Nat) (p_13 : Int) (s_11 : Unit) => (((a6f wan_10 (i_12 : Int)).bind fun b_15 => (if (b_15 == 110) then ((b9 g false p_13 0).bind fun fit_16 => (if (!fit_16) then (some (.ret (some false))) else (some (.nxt ())))) else (if (b_15 == 112) then ((b9 g false p_13 1).bind fun fit_17 => (if (!fit_17) then (some (.ret (some false))) else (some (.nxt ())))) else (some (.nxt ()))))) : Option (Stp Unit (Option Bool)))) [n.D, n.E, n.A, n.B] ()).bind (oc F))) = if t8 (fun i p => chk g ([45, 45, 45, 45].getD i 0) p) 0 [n.D, n.E, n.A, n.B] = true then F () else some false := by
 have e : d9 n.Op = some (ByteArray.mk #[45, 45, 45, 45]) := by rw [h]; rfl
 rw [e]
 exact x4 g (ByteArray.mk #[45, 45, 45, 45]) [45, 45, 45, 45] rfl (fun i hi => by match i, hi with | 0, _ => rfl | 1, _ => rfl | 2, _ => rfl | 3, _ => rfl) [n.D, n.E, n.A, n.B] rfl F
theorem b6Y (g : b5) (n : g7) (h : n.Op = 12) (F : Unit → Option Bool) : ((d9 n.Op).bind fun wan_10 => ((rng (fun (i_12 : Nat) (p_13 : Int) (s_11 : Unit) => (((a6f wan_10 (i_12 : Int)).bind fun b_15 => (if (b_15 == 110) then ((b9 g false p_13 0).bind fun fit_16 => (if (!fit_16) then (some (.ret (some false))) else (some (.nxt ())))) else (if (b_15 == 112) then ((b9 g false p_13 1).bind fun fit_17 => (if (!fit_17) then (some (.ret (some false))) else (some (.nxt ())))) else (some (.nxt ()))))) : Option (Stp Unit (Option Bool)))) [n.D, n.E, n.A, n.B] ()).bind (oc F))) = if t8 (fun i p => chk g ([45, 45, 45, 45].getD i 0) p) 0 [n.D, n.E, n.A, n.B] = true then F () else some false := by
 have e : d9 n.Op = some (ByteArray.mk #[45, 45, 45, 45]) := by rw [h]; rfl
 rw [e]
 exact x4 g (ByteArray.mk #[45, 45, 45, 45]) [45, 45, 45, 45] rfl (fun i hi => by match i, hi with | 0, _ => rfl | 1, _ => rfl | 2, _ => rfl | 3, _ => rfl) [n.D, n.E, n.A, n.B] rfl F
theorem b6Z (g : b5) (n : g7) (h : n.Op = 13) (F : Unit → Option Bool) : ((d9 n.Op).bind fun wan_10 => ((rng (fun (i_12 : Nat) (p_13 : Int) (s_11 : Unit) => (((a6f wan_10 (i_12 : Int)).bind fun b_15 => (if (b_15 == 110) then ((b9 g false p_13 0).bind fun fit_16 => (if (!fit_16) then (some (.ret (some false))) else (some (.nxt ())))) else (if (b_15 == 112) then ((b9 g false p_13 1).bind fun fit_17 => (if (!fit_17) then (some (.ret (some false))) else (some (.nxt ())))) else (some (.nxt ()))))) : Option (Stp Unit (Option Bool)))) [n.D, n.E, n.A, n.B] ()).bind (oc F))) = if t8 (fun i p => chk g ([45, 45, 45, 45].getD i 0) p) 0 [n.D, n.E, n.A, n.B] = true then F () else some false := by
 have e : d9 n.Op = some (ByteArray.mk #[45, 45, 45, 45]) := by rw [h]; rfl
 rw [e]
 exact x4 g (ByteArray.mk #[45, 45, 45, 45]) [45, 45, 45, 45] rfl (fun i hi => by match i, hi with | 0, _ => rfl | 1, _ => rfl | 2, _ => rfl | 3, _ => rfl) [n.D, n.E, n.A, n.B] rfl F
theorem b7a (g : b5) (n : g7) (h : n.Op = 14) (F : Unit → Option Bool) : ((d9 n.Op).bind fun wan_10 => ((rng (fun (i_12 : Nat) (p_13 : Int) (s_11 : Unit) => (((a6f wan_10 (i_12 : Int)).bind fun b_15 => (if (b_15 == 110) then ((b9 g false p_13 0).bind fun fit_16 => (if (!fit_16) then (some (.ret (some false))) else (some (.nxt ())))) else (if (b_15 == 112) then ((b9 g false p_13 1).bind fun fit_17 => (if (!fit_17) then (some (.ret (some false))) else (some (.nxt ())))) else (some (.nxt ()))))) : Option (Stp Unit (Option Bool)))) [n.D, n.E, n.A, n.B] ()).bind (oc F))) = if t8 (fun i p => chk g ([45, 45, 110, 45].getD i 0) p) 0 [n.D, n.E, n.A, n.B] = true then F () else some false := by
 have e : d9 n.Op = some (ByteArray.mk #[45, 45, 110, 45]) := by rw [h]; rfl
 rw [e]
 exact x4 g (ByteArray.mk #[45, 45, 110, 45]) [45, 45, 110, 45] rfl (fun i hi => by match i, hi with | 0, _ => rfl | 1, _ => rfl | 2, _ => rfl | 3, _ => rfl) [n.D, n.E, n.A, n.B] rfl F
theorem b7b (g : b5) (n : g7) (h : n.Op = 15) (F : Unit → Option Bool) : ((d9 n.Op).bind fun wan_10 => ((rng (fun (i_12 : Nat) (p_13 : Int) (s_11 : Unit) => (((a6f wan_10 (i_12 : Int)).bind fun b_15 => (if (b_15 == 110) then ((b9 g false p_13 0).bind fun fit_16 => (if (!fit_16) then (some (.ret (some false))) else (some (.nxt ())))) else (if (b_15 == 112) then ((b9 g false p_13 1).bind fun fit_17 => (if (!fit_17) then (some (.ret (some false))) else (some (.nxt ())))) else (some (.nxt ()))))) : Option (Stp Unit (Option Bool)))) [n.D, n.E, n.A, n.B] ()).bind (oc F))) = if t8 (fun i p => chk g ([110, 110, 45, 45].getD i 0) p) 0 [n.D, n.E, n.A, n.B] = true then F () else some false := by
 have e : d9 n.Op = some (ByteArray.mk #[110, 110, 45, 45]) := by rw [h]; rfl
 rw [e]
 exact x4 g (ByteArray.mk #[110, 110, 45, 45]) [110, 110, 45, 45] rfl (fun i hi => by match i, hi with | 0, _ => rfl | 1, _ => rfl | 2, _ => rfl | 3, _ => rfl) [n.D, n.E, n.A, n.B] rfl F
theorem b7c (g : b5) (n : g7) (h : n.Op = 16) (F : Unit → Option Bool) : ((d9 n.Op).bind fun wan_10 => ((rng (fun (i_12 : Nat) (p_13 : Int) (s_11 : Unit) => (((a6f wan_10 (i_12 : Int)).bind fun b_15 => (if (b_15 == 110) then ((b9 g false p_13 0).bind fun fit_16 => (if (!fit_16) then (some (.ret (some false))) else (some (.nxt ())))) else (if (b_15 == 112) then ((b9 g false p_13 1).bind fun fit_17 => (if (!fit_17) then (some (.ret (some false))) else (some (.nxt ())))) else (some (.nxt ()))))) : Option (Stp Unit (Option Bool)))) [n.D, n.E, n.A, n.B] ()).bind (oc F))) = if t8 (fun i p => chk g ([110, 45, 45, 45].getD i 0) p) 0 [n.D, n.E, n.A, n.B] = true then F () else some false := by
 have e : d9 n.Op = some (ByteArray.mk #[110, 45, 45, 45]) := by rw [h]; rfl
 rw [e]
 exact x4 g (ByteArray.mk #[110, 45, 45, 45]) [110, 45, 45, 45] rfl (fun i hi => by match i, hi with | 0, _ => rfl | 1, _ => rfl | 2, _ => rfl | 3, _ => rfl) [n.D, n.E, n.A, n.B] rfl F
theorem b7d (g : b5) (n : g7) (h : n.Op = 17) (F : Unit → Option Bool) : ((d9 n.Op).bind fun wan_10 => ((rng (fun (i_12 : Nat) (p_13 : Int) (s_11 : Unit) => (((a6f wan_10 (i_12 : Int)).bind fun b_15 => (if (b_15 == 110) then ((b9 g false p_13 0).bind fun fit_16 => (if (!fit_16) then (some (.ret (some false))) else (some (.nxt ())))) else (if (b_15 == 112) then ((b9 g false p_13 1).bind fun fit_17 => (if (!fit_17) then (some (.ret (some false))) else (some (.nxt ())))) else (some (.nxt ()))))) : Option (Stp Unit (Option Bool)))) [n.D, n.E, n.A, n.B] ()).bind (oc F))) = if t8 (fun i p => chk g ([45, 45, 110, 45].getD i 0) p) 0 [n.D, n.E, n.A, n.B] = true then F () else some false := by
 have e : d9 n.Op = some (ByteArray.mk #[45, 45, 110, 45]) := by rw [h]; rfl
 rw [e]
 exact x4 g (ByteArray.mk #[45, 45, 110, 45]) [45, 45, 110, 45] rfl (fun i hi => by match i, hi with | 0, _ => rfl | 1, _ => rfl | 2, _ => rfl | 3, _ => rfl) [n.D, n.E, n.A, n.B] rfl F
theorem b7e (g : b5) (n : g7) (h : n.Op = 18) (F : Unit → Option Bool) : ((d9 n.Op).bind fun wan_10 => ((rng (fun (i_12 : Nat) (p_13 : Int) (s_11 : Unit) => (((a6f wan_10 (i_12 : Int)).bind fun b_15 => (if (b_15 == 110) then ((b9 g false p_13 0).bind fun fit_16 => (if (!fit_16) then (some (.ret (some false))) else (some (.nxt ())))) else (if (b_15 == 112) then ((b9 g false p_13 1).bind fun fit_17 => (if (!fit_17) then (some (.ret (some false))) else (some (.nxt ())))) else (some (.nxt ()))))) : Option (Stp Unit (Option Bool)))) [n.D, n.E, n.A, n.B] ()).bind (oc F))) = if t8 (fun i p => chk g ([45, 45, 110, 45].getD i 0) p) 0 [n.D, n.E, n.A, n.B] = true then F () else some false := by
 have e : d9 n.Op = some (ByteArray.mk #[45, 45, 110, 45]) := by rw [h]; rfl
 rw [e]
 exact x4 g (ByteArray.mk #[45, 45, 110, 45]) [45, 45, 110, 45] rfl (fun i hi => by match i, hi with | 0, _ => rfl | 1, _ => rfl | 2, _ => rfl | 3, _ => rfl) [n.D, n.E, n.A, n.B] rfl F
theorem b5d (all : List b5) (g : b5) (n : g7) (hp : ∀ f ∈ all, a7n f ∧ f.Params.length ≤ 4) : a0c all g false n = some (a2H all g n) := by
 unfold a0c a2H
 simp only [jp]
 by_cases o1 : n.Op < 1
 ·simp [o1, b3J (.inl o1)]
 by_cases o2 : n.Op > 18
 ·simp [o1, o2, b3J (.inr o2)]
 simp only [o1, o2, decide_false, Bool.false_eq_true, if_false, a6l, Option.bind_some]
 refine (a0s (xs := a2n n) () (fun _ to => decide (0 ≤ to ∧ to < g.Nodes.length)) false (by have := a2o n; omega) (fun i to hx => ?_)).trans ?_
 ·by_cases q1 : 0 ≤ to
  case neg =>
   have q1' : to < 0 := by omega
   simp [q1, q1']
  have q1' : ¬ (to < 0) := by omega
  by_cases q2 : to < (g.Nodes.length : Int)
  case neg =>
   have q2' : to ≥ (g.Nodes.length : Int) := by omega
   simp [q1', q2, q2']
  have q2' : ¬ (to ≥ (g.Nodes.length : Int)) := by omega
  simp [q1, q1', q2, q2']
 rw [a1O]
 cases (a2n n).all fun to => decide (0 ≤ to ∧ to < g.Nodes.length) with
 | false => simp
 | true =>
 simp only [if_true, Bool.true_and]
 have hop : n.Op = 1 ∨ n.Op = 2 ∨ n.Op = 3 ∨ n.Op = 4 ∨ n.Op = 5 ∨ n.Op = 6 ∨ n.Op = 7 ∨ n.Op = 8 ∨ n.Op = 9 ∨ n.Op = 10 ∨ n.Op = 11 ∨ n.Op = 12 ∨ n.Op = 13 ∨ n.Op = 14 ∨ n.Op = 15 ∨ n.Op = 16 ∨ n.Op = 17 ∨ n.Op = 18 := by omega
 rcases hop with h | h | h | h | h | h | h | h | h | h | h | h | h | h | h | h | h | h
 ·refine (c1b g n h _).trans ?_
  cases a0 : a1H g 0 n.D <;> simp [t8, chk, opB, isB, h, a0, a1e]
 ·refine (c1c g n h _).trans ?_
  cases a0 : a1H g 0 n.D <;> cases a1 : a1H g 0 n.A <;> cases a2 : a1H g 1 n.D <;> cases a3 : a1H g 1 n.A <;> simp [t8, chk, opB, isB, h, a0, a1, a2, a3, a1e]
 ·refine (c1d g n h _).trans ?_
  cases a0 : a1H g 0 n.D <;> cases a1 : a1H g 0 n.A <;> cases a2 : a1H g 0 n.B <;> by_cases q1 : n.By ≥ 7 <;> by_cases q2 : n.By ≤ 20 <;> simp [t8, chk, opB, isB, h, a0, a1, a2, q1, q2] <;> omega
 ·refine (c1e g n h _).trans ?_
  cases a0 : a1H g 0 n.D <;> by_cases q1 : n.Cell ≥ 0 <;> by_cases q2 : n.Cell < g.Cells <;> simp [t8, chk, opB, isB, a1x, h, a0, q1, q2] <;> omega
 ·refine (c1f g n h _).trans ?_
  cases a0 : a1H g 0 n.A <;> by_cases q1 : n.Cell ≥ 0 <;> by_cases q2 : n.Cell < g.Cells <;> simp [t8, chk, opB, isB, a1x, h, a0, q1, q2] <;> omega
 ·refine (c1g g n h _).trans ?_
  cases a0 : a1H g 1 n.D <;> by_cases q1 : n.Cell ≥ 0 <;> by_cases q2 : n.Cell < g.Cells <;> simp [t8, chk, opB, isB, a1x, h, a0, q1, q2] <;> omega
 ·refine (c1h g n h _).trans ?_
  cases a0 : a1H g 0 n.D <;> cases a1 : a1H g 1 n.A <;> simp [t8, chk, opB, isB, h, a0, a1, a1e]
 ·refine (c1i g n h _).trans ?_
  cases a0 : a1H g 1 n.A <;> cases a1 : a1H g 0 n.B <;> simp [t8, chk, opB, isB, h, a0, a1, a1e]
 ·refine (c1j g n h _).trans ?_
  cases a0 : a1H g 0 n.A <;> simp [t8, chk, opB, isB, h, a0, a1e]
 ·refine (b6W g n h _).trans ?_
  simp [t8, chk, opB, isB, h, a1e]
 ·refine (b6X g n h _).trans ?_
  have hc : t8 (fun i p => chk g ([45, 45, 45, 45].getD i 0) p) 0 [n.D, n.E, n.A, n.B] = true := by simp [t8, chk]
  rw [if_pos hc]
  by_cases h1 : n.F < 0
  ·have e : s6 all n.F = none := by unfold s6; rw [if_neg zO]
   have ho : opB all g n = false := by simp [opB, b0W, h, e]
   rw [ho]; simp [h, h1]
  obtain ⟨F, hF⟩ : ∃ i : Nat, n.F = (i : Int) := ⟨n.F.toNat, by omega⟩
  by_cases h2 : F < all.length
  case neg =>
   have h2' : n.F ≥ (all.length : Int) := by omega
   have e : s6 all n.F = none := by rw [hF, r8]; exact List.getElem?_eq_none zO
   have ho : opB all g n = false := by simp [opB, b0W, h, e]
   rw [ho]; simp [h, h1, h2']
  have h2' : ¬ (n.F ≥ (all.length : Int)) := by omega
  have e : s6 all n.F = some all[F] := by rw [hF, r8]; exact List.getElem?_eq_getElem h2
  obtain ⟨hpF, hp4⟩ := hp _ (List.getElem_mem h2)
  generalize all[F] = f at hpF hp4 e
  have ho : opB all g n = ((decide (n.Args.length = f.Params.length) && t8 (b3x g f) 0 n.Args) && (decide (n.D = -1) || (a1H g 0 n.D && f.Result))) := by simp [opB, b0W, h, e, isB]
  rw [ho]
  by_cases h3 : n.Args.length = f.Params.length
  case neg =>
   have h3' : ((n.Args.length : Int) != (f.Params.length : Int)) = true := by simp; omega
   simp [h, h1, h2', e, h3, h3']
   intro hh; exact absurd zO h3
  have h3' : ((n.Args.length : Int) != (f.Params.length : Int)) = false := by simp [h3]
  simp [h, h1, h2', e, h3', h3, a1e]
  refine (a7K g f n.Args hpF h3 hp4 _).trans ?_
  cases ha : t8 (b3x g f) 0 n.Args with
  | false => simp
  | true =>
    cases a0 : a1H g 0 n.D <;> by_cases q : n.D = -1 <;> cases r : f.Result <;> simp [q, a0, r]
 ·refine (b6Y g n h _).trans ?_
  simp only [t8, chk, h, a1e]
  cases a0 : a1H g 0 n.A <;> by_cases q : n.A = -1 <;> cases r : g.Result <;> simp [opB, isB, h, a0, q, r]
 ·refine (b6Z g n h _).trans ?_
  have hc : t8 (fun i p => chk g ([45, 45, 45, 45].getD i 0) p) 0 [n.D, n.E, n.A, n.B] = true := by simp [t8, chk]
  rw [if_pos hc]
  by_cases h1 : n.F < 0
  ·have e : s6 all n.F = none := by unfold s6; rw [if_neg zO]
   have ho : opB all g n = false := by simp [opB, b0W, h, e]
   rw [ho]; simp [h, h1]
  obtain ⟨F, hF⟩ : ∃ i : Nat, n.F = (i : Int) := ⟨n.F.toNat, by omega⟩
  by_cases h2 : F < all.length
  case neg =>
   have h2' : n.F ≥ (all.length : Int) := by omega
   have e : s6 all n.F = none := by rw [hF, r8]; exact List.getElem?_eq_none zO
   have ho : opB all g n = false := by simp [opB, b0W, h, e]
   rw [ho]; simp [h, h1, h2']
  have h2' : ¬ (n.F ≥ (all.length : Int)) := by omega
  have e : s6 all n.F = some all[F] := by rw [hF, r8]; exact List.getElem?_eq_getElem h2
  obtain ⟨hpF, hp4⟩ := hp _ (List.getElem_mem h2)
  generalize all[F] = f at hpF hp4 e
  have ho : opB all g n = (decide (n.Args.length = f.Params.length) && t8 (b3x g f) 0 n.Args) := by simp [opB, b0W, h, e, isB]
  rw [ho]
  by_cases h3 : n.Args.length = f.Params.length
  case neg =>
   have h3' : ((n.Args.length : Int) != (f.Params.length : Int)) = true := by simp; omega
   simp [h, h1, h2', e, h3, h3']
   intro hh; exact absurd zO h3
  have h3' : ((n.Args.length : Int) != (f.Params.length : Int)) = false := by simp [h3]
  simp [h, h1, h2', e, h3', h3, a1e]
  refine (a7K g f n.Args hpF h3 hp4 _).trans ?_
  cases ha : t8 (b3x g f) 0 n.Args with
  | false => simp
  | true =>
    cases a0 : a1H g 0 n.D <;> by_cases q : n.D = -1 <;> cases r : f.Result <;> simp [q, a0, r]
 ·refine (b7a g n h _).trans ?_
  cases a0 : a1H g 0 n.A <;> simp [t8, chk, opB, isB, h, a0, a1e]
 ·refine (b7b g n h _).trans ?_
  cases a0 : a1H g 0 n.D <;> cases a1 : a1H g 0 n.E <;> by_cases q : n.D = n.E <;> simp [t8, chk, opB, isB, h, a0, a1, q]
 ·refine (b7c g n h _).trans ?_
  cases a0 : a1H g 0 n.D <;> simp [t8, chk, opB, isB, h, a0, a1e]
 ·refine (b7d g n h _).trans ?_
  cases a0 : a1H g 0 n.A <;> simp [t8, chk, opB, isB, h, a0, a1e]
 ·refine (b7e g n h _).trans ?_
  cases a0 : a1H g 0 n.A <;> simp [t8, chk, opB, isB, h, a0, a1e]
theorem b5e (G : g9) : y4 G false = some (a1P G) := by
 unfold y4 a1P
 simp only [jp]
 by_cases h1 : 1 ≤ G.Funcs.length
 case neg =>
  have h1' : (G.Funcs.length : Int) < 1 := by omega
  simp [h1, h1']
 have h1' : ¬ (G.Funcs.length : Int) < 1 := by omega
 by_cases h2 : G.Funcs.length ≤ 16
 case neg =>
  have h2' : (G.Funcs.length : Int) > 16 := by omega
  simp [h1', h2, h2']
 have h2' : ¬ (G.Funcs.length : Int) > 16 := by omega
 obtain ⟨f0, hf0⟩ : ∃ f, G.Funcs[0]? = some f := ⟨_, List.getElem?_eq_getElem (show 0 < G.Funcs.length by omega)⟩
 have hg0 : s6 G.Funcs 0 = some f0 := by
  have := r8 (l := G.Funcs) (i := 0)
  rw [hf0] at this; exact this
 have hm : b3y G = (decide (f0.Params.length = 0) && !f0.Result) := by unfold b3y; rw [hf0]
 simp only [h1', h2', decide_false, Bool.false_eq_true, if_false, hg0, Option.bind_some, h1, h2, and_self, decide_true, Bool.true_and, hm]
 by_cases h3 : f0.Params.length = 0
 case neg =>
  have h3' : ((f0.Params.length : Int) != 0) = true := by simp; intro e; exact h3 (by simp [e])
  simp [h3, h3']
 have h3' : ((f0.Params.length : Int) != 0) = false := by simp [h3]
 simp only [h3', Bool.false_eq_true, if_false, h3, decide_true, Bool.true_and]
 cases h4 : f0.Result with
 | true => simp
 | false =>
 simp only [Bool.false_eq_true, if_false, Bool.not_false, Bool.true_and]
 refine (a0s (xs := G.Funcs) () (fun _ f => a4p f) false zO (fun i f hx => ?_)).trans ?_
 ·simp only [b5c, Option.bind_some]
  cases a4p f <;> simp
 rw [a1F]
 cases h5 : G.Funcs.all a4p with
 | false => simp
 | true =>
 simp only [if_true, Bool.true_and]
 have hh : ∀ f ∈ G.Funcs, a4p f = true := List.all_eq_true.1 h5
 have hp : ∀ f ∈ G.Funcs, a7n f ∧ f.Params.length ≤ 4 := fun f hf => ⟨(a0k (hh f hf)).2.2.1, (a0k (hh f hf)).2.1⟩
 refine (a0s (xs := G.Funcs) () (fun _ f => f.Nodes.all (a2H G.Funcs f)) false zO (fun i f hx => ?_)).trans ?_
 ·have hn := a0k (hh f (List.mem_of_getElem? hx))
  refine (a0s () (fun _ n => a2H G.Funcs f n) (Stp.ret (some false)) zO (fun j n hy => ?_)).trans ?_
  ·simp only [b5d _ _ _ hp, Option.bind_some]
   cases a2H G.Funcs f n <;> simp
  ·rw [a1F]
   cases f.Nodes.all (a2H G.Funcs f) <;> simp
 ·rw [a1F]
  cases (G.Funcs.all fun f => f.Nodes.all (a2H G.Funcs f)) <;> simp
end Go.Proofs.YtgoejecjmodjiaaDoor

/- OrderAll: the law. -/
namespace Go.Proofs.YtgoejecjmodjiaaDoor
open Go Go.Ab
set_option maxRecDepth 20000
theorem b5f {α σ β : Type} {body : Nat → α → σ → Option (Stp σ (Option β))} {xs : List α} {s0 : σ} {F : σ → Option β} {r : Option β} (Inv : Nat → σ → Prop) (hl : xs.length ≤ 4611686018427387904) (h0 : Inv 0 s0)
  (h : ∀ i x s, xs[i]? = some x → Inv i s → ∃ s', body i x s = some (.nxt s') ∧ Inv (i + 1) s') (hF : ∀ s, Inv xs.length s → F s = r) : (rng body xs s0).bind (oc F) = r := by
 obtain ⟨o, e, s, rfl, hs⟩ := b8q (Q := fun o => ∃ s, o = .fin s ∧ Inv xs.length s) Inv hl h0 (fun i x s hx hI => .inl (h i x s hx hI)) (fun s hs => ⟨s, rfl, hs⟩)
 rw [e]
 exact hF s hs
def g1 : b5 := b5.mk [] ([0]) 0 [] false (-1) ([(g7.mk 1 0 0 0 0 0 0 0 0 [] 2 0), (g7.mk 12 0 0 0 (-1) 0 0 0 0 [] 0 0), (g7.mk 17 0 0 0 0 0 0 0 0 [] 1 0)]) 0
def G1 : g9 := g9.mk [g1]
theorem b5U : a1P G1 = true := by kernel_rfl
theorem b7f : a1E g1 := (a3o b5U g1 (by simp [G1])).1
theorem b5V : a0e G1 0 = some 0 := by kernel_rfl
theorem in1 : inL g1 = [[], [], [0]] := by
 have h := b4X b5V (f := 0) (g := g1) rfl b7f (Nat.le_refl 100000000000)
 have h2 : a1N 100000000000 G1 0 = some ([[], [], [0]], 0) := by kernel_rfl
 rw [h2] at h
 exact (Prod.mk.inj (Option.some.inj h)).1.symm
theorem c5x : a0V g1 = some [0, 2, 1] := by
 unfold a0V
 rw [if_pos ⟨b7f, by decide, by decide⟩]
 congr 1
theorem b7g {g : b5} {l : List (List Int)} (h : inL g = l) {i : Nat} (hi : i < g.Nodes.length) : l[i]? = some (lvI g i) := by
 rw [← h]; unfold inL; simp [hi, lvI]
theorem b7h {g : b5} {i : Nat} {n : g7} (hn : g.Nodes[i]? = some n) {l : List Int} (h : a1k n = some l) : wrN g i = l := by
 unfold wrN; rw [hn]
 have := b3F n
 rw [h] at this
 cases this; rfl
theorem c1k : a3Y g1 = [⟨0, 0, 1, false⟩] := by
 have l0 : lvI g1 0 = [] := by have := b7g in1 (i := 0) zD; exact (Option.some.inj this).symm
 have l1 : lvI g1 1 = [] := by have := b7g in1 (i := 1) zD; exact (Option.some.inj this).symm
 have l2 : lvI g1 2 = [0] := by have := b7g in1 (i := 2) zD; exact (Option.some.inj this).symm
 have w0 : wrN g1 0 = [0] := b7h (n := g7.mk 1 0 0 0 0 0 0 0 0 [] 2 0) rfl zK
 have w1 : wrN g1 1 = [] := b7h (n := g7.mk 12 0 0 0 (-1) 0 0 0 0 [] 0 0) rfl zK
 have w2 : wrN g1 2 = [] := b7h (n := g7.mk 17 0 0 0 0 0 0 0 0 [] 1 0) rfl zK
 have e : (a0Z g1).map Int.toNat = [0, 2, 1] := by decide
 have c0 : a2p g1 0 = false := rfl
 have c1 : a2p g1 1 = false := rfl
 have c2 : a2p g1 2 = false := rfl
 unfold a3Y b0h
 rw [e]
 simp only [a4v, a8x, l0, l1, l2, w0, w1, w2, c0, c1, c2, Bool.false_eq_true, if_false]
 rfl
theorem b7i : y6 100000000000 = some true := by
 have h1 : a0H 100000000000 G1 0 = some ([0, 2, 1], 0) := by
  unfold a0H
  rw [b4X b5V (f := 0) (g := g1) rfl b7f (Nat.le_refl 100000000000)]
  simp only [Option.bind_some]
  rw [show s6 G1.Funcs 0 = some g1 from rfl]
  simp only [Option.bind_some, c5x]
  rfl
 have h2 : a0t 100000000000 G1 0 = some ([⟨0, 0, 1, false⟩], 0) := by
  unfold a0t
  rw [if_pos (Nat.le_refl _), if_pos b5U, show s6 G1.Funcs 0 = some g1 from rfl]
  simp only [c1k]
 unfold y6
 rw [show (g9.mk ([(b5.mk [] ([0]) 0 [] false (-1) ([(g7.mk 1 0 0 0 0 0 0 0 0 [] 2 0), (g7.mk 12 0 0 0 (-1) 0 0 0 0 [] 0 0), (g7.mk 17 0 0 0 0 0 0 0 0 [] 1 0)]) 0)])) = G1 from rfl, h1, h2]
 rfl
theorem b7j (G : g9) (f : Int) : a0H 100000000000 G f = some (if a1P G = true then (match s6 G.Funcs f with | some g => ((a0Z g, 0) : List Int × Int) | none => ([], 2)) else ([], 70)) := by
 have hck := a5c G f
 unfold a0H
 by_cases hR : a1P G = true
 ·rw [if_pos hR] at hck ⊢
  cases hgf : s6 G.Funcs f with
  | none =>
    have hnr : ¬ (0 ≤ f ∧ f < G.Funcs.length) := by
     rintro ⟨a, b⟩
     rw [b2L a zO] at hgf; cases hgf
    rw [if_neg hnr] at hck
    rw [(b0V hck zD (fuel := 100000000000)).1]
    rfl
  | some g =>
    obtain ⟨h0, h1, h2⟩ := j9 hgf
    rw [if_pos ⟨h0, h1⟩] at hck
    obtain ⟨hg, hhd, hnd⟩ := a3o hR g (List.mem_of_getElem? h2)
    obtain ⟨_, _, _, _, _, he0, heN⟩ := a0k hhd
    rw [b4X hck hgf hg (Nat.le_refl 100000000000)]
    have hl : a0V g = some (a0Z g) := if_pos ⟨hg, he0, heN⟩
    simp [hl]
 ·rw [if_neg hR] at hck ⊢
  rw [(b0V hck zD (fuel := 100000000000)).1]
  rfl
end Go.Proofs.YtgoejecjmodjiaaDoor

/- What ref7 reads and writes. -/
namespace Go.Proofs.YtgoejecjmodjiaaDoor
open Go Go.Ab
theorem b7k (l : List Int) (v : Int) (hl : l.length ≤ 4611686018427387904) : w4 l v = some (decide (v ∈ l)) := by
 unfold w4
 refine (a5b (xs := l) v (fun _ x => !(x == v)) true hl (fun i x hx => ?_)).trans ?_
 ·simp only [r8, hx, Option.bind_some]
  cases x == v <;> simp
 ·rw [a1O]
  by_cases h : v ∈ l
  ·have : (l.all fun x => !(x == v)) = false := by
    rw [List.all_eq_false]; exact ⟨v, h, by simp⟩
   rw [this]; simp [h]
  ·have : (l.all fun x => !(x == v)) = true := by
    rw [List.all_eq_true]; intro x hx
    have : x ≠ v := fun e => h (e ▸ hx)
    simpa using this
   rw [this]; simp [h]
theorem b0Z (l : List Int) (hl : l.length ≤ 10000000) : ∃ r, l8 l = some r ∧ r.length ≤ l.length ∧ ∀ x, x ∈ r ↔ (x ∈ l ∧ 0 ≤ x) := by
 unfold l8
 have := a1c (xs := l) (s0 := (l, ([] : List Int))) (body := (fun (i_2 : Nat) (n_3 : Int) (s_1 : ((List Int) × (List Int))) => (((s6 s_1.1 (i_2 : Int)).bind fun y_5 => (jp (fun (s_7 : Bool) => (if s_7 then ((a4C 8 s_1.2 [y_5]).bind fun l_9 => (some (.nxt (s_1.1, l_9)))) else (some (.nxt (s_1.1, s_1.2))))) (fun k_6 => (if (decide (y_5 ≥ 0)) then ((w4 s_1.2 y_5).bind fun (vin_8 : Bool) => (k_6 (!vin_8))) else (k_6 false))))) : Option (Stp ((List Int) × (List Int)) (Option (List Int)))))) (fun _ => true) none
  (fun k s => s.1 = l ∧ s.2.length ≤ k ∧ ∀ x, x ∈ s.2 ↔ (x ∈ l.take k ∧ 0 ≤ x)) zO ⟨rfl, by simp, by simp⟩ (fun k x s hx hr => by
   obtain ⟨sl, r⟩ := s
   obtain ⟨h0, h1, h2⟩ := hr
   simp only at h0 h1 h2
   subst h0
   have hk : k < sl.length := (List.getElem?_eq_some_iff.1 hx).1
   have ht : sl.take (k + 1) = sl.take k ++ [x] := by rw [List.take_add_one, hx]; rfl
   simp only [if_true, jp, decide_eq_true_eq, r8, hx, Option.bind_some]
   by_cases h0 : x ≥ 0
   ·rw [if_pos h0, b7k _ _ zO]
    simp only [Option.bind_some]
    by_cases hm : x ∈ r
    ·refine ⟨(sl, r), by simp [hm], rfl, by simp only; omega, fun y => ?_⟩
     simp only
     rw [h2, ht]
     simp only [List.mem_append, List.mem_singleton]
     constructor
     ·rintro ⟨a, b⟩; exact ⟨.inl a, b⟩
     ·rintro ⟨a | a, b⟩
      ·exact ⟨a, b⟩
      ·subst a; exact (h2 y).1 hm
    ·refine ⟨(sl, r ++ [x]), ?_, rfl, by simp; omega, fun y => ?_⟩
     ·simp only [hm, decide_false, Bool.not_false, if_true]
      rw [a1D zE]; rfl
     ·simp only
      rw [ht]
      simp only [List.mem_append, List.mem_singleton, h2]
      constructor
      ·rintro (⟨a, b⟩ | a)
       ·exact ⟨.inl a, b⟩
       ·subst a; exact ⟨.inr rfl, h0⟩
      ·rintro ⟨a | a, b⟩
       ·exact .inl ⟨a, b⟩
       ·exact .inr a
   ·refine ⟨(sl, r), by rw [if_neg h0]; simp, rfl, by simp only; omega, fun y => ?_⟩
    simp only
    rw [h2, ht]
    simp only [List.mem_append, List.mem_singleton]
    constructor
    ·rintro ⟨a, b⟩; exact ⟨.inl a, b⟩
    ·rintro ⟨a | a, b⟩
     ·exact ⟨a, b⟩
     ·subst a; exact (h0 b).elim)
 rw [if_pos zS] at this
 obtain ⟨s, e1, e0, e2, e3⟩ := this
 rw [e1]
 exact ⟨s.2, rfl, e2, fun x => by rw [e3, List.take_length]⟩
theorem b3K (n : g7) (hl : (b0R n).length ≤ 10000000) : ∃ r, y5 n = some r ∧ r.length ≤ 10000000 ∧ ∀ x, x ∈ r ↔ (x ∈ b0R n ∧ 0 ≤ x) := by
 obtain ⟨r, h1, h0, h2⟩ := b0Z (b0R n) hl
 refine ⟨r, ?_, by omega, h2⟩
 rw [← h1]
 have e0 : l8 [] = some [] := by
  obtain ⟨r, a, _, b⟩ := b0Z [] zS
  rw [a]
  cases r with
  | nil => rfl
  | cons x l => have := (b x).1 zS; simp at this
 unfold y5 b0R
 simp only [jp, beq_iff_eq]
 have bs : ∀ o : Option (List Int), (o.bind fun x => some x) = o := fun o => by cases o <;> rfl
 simp only [bs]
 by_cases h2 : n.Op = 2
 ·simp [h2]
 by_cases h5 : n.Op = 5
 ·simp [h5]
 by_cases h7 : n.Op = 7
 ·simp [h7]
 by_cases h9 : n.Op = 9
 ·simp [h9]
 by_cases h12 : n.Op = 12
 ·simp [h12]
 by_cases h14 : n.Op = 14
 ·simp [h14]
 by_cases h17 : n.Op = 17
 ·simp [h17]
 by_cases h18 : n.Op = 18
 ·simp [h18]
 by_cases h3 : n.Op = 3
 ·simp [h3]
 by_cases h8 : n.Op = 8
 ·simp [h8]
 by_cases h11 : n.Op = 11
 ·simp [h11]
 by_cases h13 : n.Op = 13
 ·simp [h13]
 simp [h2, h5, h7, h9, h12, h14, h17, h18, h3, h8, h11, h13, e0]
theorem a4j (n : g7) : ∃ r, m5 n = some r ∧ r.length ≤ 10000000 ∧ ∀ x, x ∈ r ↔ (x ∈ a9Z n ∧ 0 ≤ x) := by
 obtain ⟨r, h1, h0, h2⟩ := b0Z (a9Z n) (by have := a6h n; omega)
 refine ⟨r, ?_, by have := a6h n; omega, h2⟩
 rw [← h1]
 have e0 : l8 [] = some [] := by
  obtain ⟨r, a, _, b⟩ := b0Z [] zS
  rw [a]
  cases r with
  | nil => rfl
  | cons x l => have := (b x).1 zS; simp at this
 unfold m5 a9Z
 simp only [jp, beq_iff_eq]
 have bs : ∀ o : Option (List Int), (o.bind fun x => some x) = o := fun o => by cases o <;> rfl
 simp only [bs]
 by_cases h1 : n.Op = 1
 ·simp [h1]
 by_cases h2 : n.Op = 2
 ·simp [h2]
 by_cases h3 : n.Op = 3
 ·simp [h3]
 by_cases h4 : n.Op = 4
 ·simp [h4]
 by_cases h6 : n.Op = 6
 ·simp [h6]
 by_cases h7 : n.Op = 7
 ·simp [h7]
 by_cases h11 : n.Op = 11
 ·simp [h11]
 by_cases h16 : n.Op = 16
 ·simp [h16]
 by_cases h15 : n.Op = 15
 ·simp [h15]
 simp [h1, h2, h3, h4, h6, h7, h11, h16, h15, e0]
end Go.Proofs.YtgoejecjmodjiaaDoor

/- ref11.In: what it computes. -/
namespace Go.Proofs.YtgoejecjmodjiaaDoor
open Go Go.Ab
abbrev Rw := List (List Bool)
variable {N K : Nat} {s : List (List Bool)}
abbrev RL := List (List Int)
abbrev T4 := Rw × Bool
abbrev T3 := Int × Rw × Bool
abbrev B3 := Stp T4 (Option RL)
abbrev B2 := Stp T3 (Option B3)
abbrev B1 := Stp T4 (Option B2)
def Shp (N K : Nat) (s : Rw) : Prop := s.length = N ∧ ∀ r ∈ s, r.length = K
instance : Decidable (Shp N K s) := by unfold Shp; infer_instance
def a7L (K : Nat) (i : Nat) (s : Rw) : Option (Stp Rw (Option RL)) := gd (Shp i K s) ((mkL 1 (K : Int) (K : Int) false).bind fun w => some (.nxt (s ++ [w])))
def b1H (rows : Rw) (w : List Int) (p : Int) (_ : Nat) (to : Int) (is : Bool) : Option (Stp Bool (Option B1)) :=
 if is = true then some (.nxt true) else (s6 rows to).bind fun r => (s6 r p).bind fun b => if b = true then (j7 w p).bind fun x => some (.nxt (!x)) else some (.nxt false)
def b7l (g : b5) (i : Int) (n : g7) (w : List Int) (p : Nat) (s : T4) : Option (Stp T4 (Option B2)) :=
 gd (Shp g.Nodes.length g.Kinds.length s.1) ((y5 n).bind fun rd => (j7 rd (p : Int)).bind fun is0 => (o6 n).bind fun nx =>
 (rng (b1H s.1 w (p : Int)) nx is0).bind (oc fun is => if is = true then (s6 s.1 i).bind fun r => (s6 r (p : Int)).bind fun b => (if (!b) = true then some (.nxt (s.1.set i.toNat (r.set p true), true)) else some (.nxt s)) else some (.nxt s)))
def b7L (g : b5) (q : T3) : Option (Stp T3 (Option B3)) :=
 gd (Shp g.Nodes.length g.Kinds.length q.2.1) (if (decide (q.1 ≥ 0)) = true then (s6 g.Nodes q.1).bind fun n => (m5 n).bind fun w => (rni (b7l g q.1 n w) (List.length g.Kinds : Int) q.2).bind (oc fun s => gd (Shp g.Nodes.length g.Kinds.length s.1) (some (.nxt (I64 (q.1 - 1), s)))) else some (.brk q))
def a4K (fuel : Nat) (g : b5) (s : T4) : Option (Stp T4 (Option RL)) :=
 gd (Shp g.Nodes.length g.Kinds.length s.1) (if s.2 = true then (whileN (b7L g) fuel (I64 ((List.length g.Nodes : Int) - 1), s.1, false)).bind (oc fun q => gd (Shp g.Nodes.length g.Kinds.length q.2.1) (some (.nxt q.2))) else some (.brk s))
def b7M (p : Nat) (b : Bool) (l : List Int) : Option (Stp (List Int) (Option (Stp RL (Option RL)))) := if b = true then (a4C 8 l [(p : Int)]).bind fun l' => some (.nxt l') else some (.nxt l)
def a7a (rows : Rw) (i : Nat) (o : RL) : Option (Stp RL (Option RL)) := (s6 rows (i : Int)).bind fun r => (rng b7M r []).bind (oc fun l => (a4C 24 o [l]).bind fun o' => some (.nxt o'))
def z8 (fuel : Nat) (g : b5) : Option RL :=
 (mkL 24 (List.length g.Nodes : Int) (List.length g.Nodes : Int) ()).bind fun _ => (rni (a7L g.Kinds.length) (List.length g.Nodes : Int) []).bind (oc fun s => gd (Shp g.Nodes.length g.Kinds.length s) ((whileN (a4K fuel g) fuel (s, true)).bind (oc fun e =>
 gd (Shp g.Nodes.length g.Kinds.length e.1) ((rni (a7a e.1) (List.length g.Nodes : Int) []).bind (oc fun o => some o)))))
def cl (s : Rw) (i p : Nat) : Bool := (s.getD i []).getD p false
def fls (r : List Bool) : Nat := (r.filter (fun b => !b)).length
def b4c (s : Rw) : Nat := (s.map fls).sum
theorem Shp.row (h : Shp N K s) {i : Nat} (hi : i < N) : ∃ r, s[i]? = some r ∧ r.length = K ∧ s.getD i [] = r := by
 have hl : i < s.length := by rw [h.1]; exact hi
 exact ⟨s[i], List.getElem?_eq_getElem hl, h.2 _ (List.getElem_mem hl), by simp [List.getD_eq_getElem?_getD, hl]⟩
theorem Shp.at (h : Shp N K s) {i p : Nat} (hi : i < N) (hp : p < K) : ∃ r, s6 s (i : Int) = some r ∧ r.length = K ∧ s6 r (p : Int) = some (cl s i p) := by
 obtain ⟨r, h1, h2, h3⟩ := h.row hi
 refine ⟨r, by rw [r8]; exact h1, h2, ?_⟩
 have : p < r.length := by omega
 rw [r8, List.getElem?_eq_getElem this]
 unfold cl; rw [h3]; simp [List.getD_eq_getElem?_getD, this]
theorem Shp.set (h : Shp N K s) {i p : Nat} (hi : i < N) {r : List Bool} (hr : s[i]? = some r) : Shp N K (s.set i (r.set p true)) := by
 refine ⟨by rw [List.length_set]; exact h.1, fun x hx => ?_⟩
 rcases List.mem_or_eq_of_mem_set hx with a | a
 ·exact h.2 x a
 ·rw [a, List.length_set]; exact h.2 r (List.mem_of_getElem? hr)
theorem c1l {s : Rw} {i p j k : Nat} {r : List Bool} (hr : s[i]? = some r) (hp : p < r.length) : cl (s.set i (r.set p true)) j k = if j = i ∧ k = p then true else cl s j k := by
 have hi : i < s.length := (List.getElem?_eq_some_iff.1 hr).1
 unfold cl
 by_cases e : j = i
 ·subst e
  have e1 : (s.set j (r.set p true)).getD j [] = r.set p true := by simp [List.getD_eq_getElem?_getD, hi]
  have e2 : s.getD j [] = r := by simp [List.getD_eq_getElem?_getD, hr]
  rw [e1, e2]
  by_cases f : k = p
  ·subst f; simp [List.getD_eq_getElem?_getD, hp]
  ·have : ¬ p = k := fun h => f h.symm
   simp [List.getD_eq_getElem?_getD, f, List.getElem?_set, this]
 ·have : ¬ i = j := fun h => e h.symm
  simp [List.getD_eq_getElem?_getD, e, List.getElem?_set, this]
theorem b3L : ∀ (r : List Bool) (p : Nat), r[p]? = some false → fls (r.set p true) + 1 = fls r
 | [], p, h => by simp at h
 | b :: r, 0, h => by simp at h; subst h; simp [fls]
 | b :: r, p + 1, h => by
   have := b3L r p (by simpa using h)
   unfold fls at this ⊢
   cases b <;> simp at this ⊢ <;> omega
theorem b1a : ∀ (s : Rw) (i : Nat) (r r' : List Bool), s[i]? = some r → fls r' + 1 = fls r → b4c (s.set i r') + 1 = b4c s
 | [], i, r, r', h, _ => by simp at h
 | x :: s, 0, r, r', h, e => by simp at h; subst h; simp [b4c]; omega
 | x :: s, i + 1, r, r', h, e => by
   have := b1a s i r r' (by simpa using h) e
   simp [b4c] at this ⊢; omega
theorem b7m (h : Shp N K s) : b4c s ≤ N * K := by
 obtain ⟨h1, h2⟩ := h
 subst h1
 induction s with
 | nil => simp [b4c]
 | cons x s ih =>
   have hx := h2 x zS
   have := ih (fun r hr => h2 r (by simp [hr]))
   have hf : fls x ≤ K := by unfold fls; rw [← hx]; exact List.length_filter_le _ _
   simp only [b4c, List.map_cons, List.sum_cons, List.length_cons] at this ⊢
   rw [Nat.add_mul]; omega
end Go.Proofs.YtgoejecjmodjiaaDoor

/- ref11.In finds the least answer. -/
namespace Go.Proofs.YtgoejecjmodjiaaDoor
open Go Go.Ab
variable {N K : Nat} {s : Rw} {g : b5}
theorem b5g (h : Shp N K s) {p : Nat} (hp : p < K) (w : List Int) (hw : w.length ≤ 10000000) (nx : List Int) (hl : nx.length ≤ 2) (hn : ∀ x ∈ nx, 0 ≤ x ∧ x < N) (is0 : Bool) :
  rng (b1H s w (p : Int)) nx is0 = some (.fin (is0 || nx.any fun to => cl s to.toNat p && !decide ((p : Int) ∈ w))) := by
 have := a1c (xs := nx) (s0 := is0) (body := b1H s w (p : Int)) (fun _ => true) none (fun k b => b = (is0 || (nx.take k).any fun to => cl s to.toNat p && !decide ((p : Int) ∈ w))) zO zS (fun k to b hx hb => by
  simp only [if_true]
  have hto := hn to (List.mem_of_getElem? hx)
  obtain ⟨t, rfl⟩ : ∃ t : Nat, to = (t : Int) := ⟨to.toNat, by omega⟩
  rw [a0U hx, List.any_append, List.any_cons, List.any_nil, Bool.or_false, ← Bool.or_assoc, ← hb]
  unfold b1H
  cases b with
  | true => exact ⟨true, by simp, by simp⟩
  | false =>
    obtain ⟨r, h1, h2, h3⟩ := h.at (i := t) zO hp
    simp only [Bool.false_eq_true, if_false, h1, h3, Option.bind_some, a5g w _ zO, Int.toNat_natCast]
    cases cl s t p with
    | true => exact ⟨!decide ((p : Int) ∈ w), by simp, by simp⟩
    | false => exact ⟨false, by simp, by simp⟩)
 rw [if_pos zS] at this
 obtain ⟨s', e1, e2⟩ := this
 rw [e1, e2, List.take_length]
def b7N (g : b5) (s : Rw) (i p : Nat) : Prop := (p : Int) ∈ rdR g i ∨ ∃ to : Nat, (to : Int) ∈ nxt g i ∧ cl s to p = true ∧ (p : Int) ∉ wrR g i
def c1m (g : b5) (s : Rw) : Prop := ∀ i p, i < g.Nodes.length → p < g.Kinds.length → cl s i p = true → Lv g i p
structure Rnd (g : b5) (R0 : Rw) (s : T4) : Prop where
 sh : Shp g.Nodes.length g.Kinds.length s.1
 so : c1m g s.1
 eq : s.2 = false → s.1 = R0
 lt : s.2 = true → b4c s.1 < b4c R0
theorem c1n (hg : a1E g) {R0 : Rw} {i : Nat} {n : g7} (hn : g.Nodes[i]? = some n) {w : List Int} (hw : m5 n = some w) {s : T4} (h : Rnd g R0 s) {p : Nat} (hp : p < g.Kinds.length) :
  ∃ s', b7l g (i : Int) n w p s = some (.nxt s') ∧ Rnd g R0 s' ∧ (s'.2 = false → s' = s ∧ (b7N g s.1 i p → cl s.1 i p = true)) := by
 have hi : i < g.Nodes.length := (List.getElem?_eq_some_iff.1 hn).1
 have eR : rdR g i = b0R n := by unfold rdR; rw [hn]
 have eW : wrR g i = a9Z n := by unfold wrR; rw [hn]
 have eN : nxt g i = a2n n := by unfold nxt; rw [hn]
 obtain ⟨rd, r1, r2, r3⟩ := b3K n (by rw [← eR]; have := hg.rd i; omega)
 obtain ⟨w', w1, w2, w3⟩ := a4j n
 rw [hw] at w1; cases w1
 unfold b7l
 rw [a0J h.sh, r1]
 simp only [Option.bind_some, a5g rd _ zO, a6l]
 rw [b5g h.sh hp w w2 (a2n n) (a2o n) (fun x hx => hg.nx i x (by rw [eN]; exact hx))]
 simp only [Option.bind_some, oc]
 have key : (decide ((p : Int) ∈ rd) || (a2n n).any fun to => cl s.1 to.toNat p && !decide ((p : Int) ∈ w)) = true ↔ b7N g s.1 i p := by
  unfold b7N
  rw [eR, eW, eN]
  simp only [Bool.or_eq_true, decide_eq_true_eq, r3, List.any_eq_true, Bool.and_eq_true, Bool.not_eq_true', decide_eq_false_iff_not, w3]
  constructor
  ·rintro (⟨a, _⟩ | ⟨to, a, b, c⟩)
   ·exact .inl a
   ·have := hg.nx i to (by rw [eN]; exact a)
    exact .inr ⟨to.toNat, by rw [Int.toNat_of_nonneg this.1]; exact a, b, fun q => c ⟨q, by omega⟩⟩
  ·rintro (a | ⟨to, a, b, c⟩)
   ·exact .inl ⟨a, by omega⟩
   ·exact .inr ⟨(to : Int), a, by simpa using b, fun q => c q.1⟩
 obtain ⟨r, h1, h2, h3⟩ := h.sh.at hi hp
 have hrow : s.1[i]? = some r := by rw [← r8]; exact h1
 cases hb : (decide ((p : Int) ∈ rd) || (a2n n).any fun to => cl s.1 to.toNat p && !decide ((p : Int) ∈ w)) with
 | false =>
   simp only [Bool.false_eq_true, if_false]
   refine ⟨s, rfl, h, fun _ => ⟨rfl, fun q => ?_⟩⟩
   rw [key.2 q] at hb; cases hb
 | true =>
   have hneed := key.1 hb
   simp only [if_true, h1, h3, Option.bind_some]
   cases hc : cl s.1 i p with
   | true =>
     simp only [Bool.not_true, Bool.false_eq_true, if_false]
     exact ⟨s, rfl, h, fun _ => ⟨rfl, by simp⟩⟩
   | false =>
     simp only [Bool.not_false, if_true]
     have hrp : p < r.length := by omega
     have hrf : r[p]? = some false := by rw [← r8, h3, hc]
     have hcnt := b1a s.1 i r (r.set p true) hrow (b3L r p hrf)
     refine ⟨_, rfl, ⟨h.sh.set hi hrow, fun j k hj hk hcl => ?_, fun q => by simp at q, fun _ => ?_⟩, fun q => by simp at q⟩
     ·simp only [Int.toNat_natCast] at hcl
      rw [c1l hrow hrp] at hcl
      by_cases e : j = i ∧ k = p
      ·obtain ⟨rfl, rfl⟩ := e
       rcases hneed with a | ⟨to, a, b, c⟩
       ·exact .read hj hk a
       ·have ht := hg.nx _ _ a
        exact .step hj a (h.so to k zO hk b) c
      ·rw [if_neg e] at hcl; exact h.so j k hj hk hcl
     ·simp only [Int.toNat_natCast]
      cases q : s.2 with
      | true => have := h.lt q; omega
      | false => have := h.eq q; rw [← this]; omega
theorem c1o (hg : a1E g) {R0 : Rw} {i : Nat} {n : g7} (hn : g.Nodes[i]? = some n) {w : List Int} (hw : m5 n = some w) {s : T4} (h : Rnd g R0 s) :
  ∃ s', rni (b7l g (i : Int) n w) (List.length g.Kinds : Int) s = some (.fin s') ∧ Rnd g R0 s' ∧ (s'.2 = false → s' = s ∧ ∀ p, p < g.Kinds.length → b7N g s.1 i p → cl s.1 i p = true) := by
 obtain ⟨s', e1, e2, e3⟩ := a5v (body := b7l g (i : Int) n w) (n := (List.length g.Kinds : Int)) (s0 := s) (fun k t => Rnd g R0 t ∧ (t.2 = false → t = s ∧ ∀ p, p < k → b7N g s.1 i p → cl s.1 i p = true)) (by have := hg.kn; omega) ⟨h, fun q => ⟨rfl, fun p hp => by omega⟩⟩ (fun k t hk ht => by
  obtain ⟨h1, h2⟩ := ht
  obtain ⟨t', a, b, c⟩ := c1n hg hn hw h1 (p := k) zO
  refine ⟨t', a, b, fun q => ?_⟩
  obtain ⟨rfl, c2⟩ := c q
  obtain ⟨rfl, d⟩ := h2 q
  refine ⟨rfl, fun p hp hne => ?_⟩
  by_cases e : p = k
  ·subst e; exact c2 hne
  ·exact d p zO hne)
 exact ⟨s', e1, e2, fun q => by simpa using e3 q⟩
def c3G (g : b5) (s : Rw) (k : Int) : Prop := ∀ i p : Nat, k < (i : Int) → i < g.Nodes.length → p < g.Kinds.length → b7N g s i p → cl s i p = true
theorem b5h (hg : a1E g) {fuel : Nat} (hf : 5000 ≤ fuel) {R0 : Rw} (h : Rnd g R0 (R0, false)) :
  ∃ q, whileN (b7L g) fuel (I64 ((List.length g.Nodes : Int) - 1), R0, false) = some (.fin q) ∧ Rnd g R0 q.2 ∧ (q.2.2 = false → c3G g R0 (-1)) := by
 have hN := hg.nn
 obtain ⟨o, e1, e2⟩ := a4W (body := b7L g) (fun q => -1 ≤ q.1 ∧ q.1 < g.Nodes.length ∧ Rnd g R0 q.2 ∧ (q.2.2 = false → c3G g R0 q.1)) (fun q => (q.1 + 1).toNat) (fun o => ∃ q, o = .fin q ∧ Rnd g R0 q.2 ∧ (q.2.2 = false → c3G g R0 (-1))) (fun q hq => by
  obtain ⟨h1, h2, h3, h4⟩ := hq
  unfold b7L
  rw [a0J h3.sh]
  by_cases hge : q.1 ≥ 0
  ·obtain ⟨i, hi⟩ : ∃ i : Nat, q.1 = (i : Int) := ⟨q.1.toNat, by omega⟩
   have hi2 : i < g.Nodes.length := by omega
   obtain ⟨w, w1, w2, w3⟩ := a4j g.Nodes[i]
   obtain ⟨s', a, b, c⟩ := c1o hg (List.getElem?_eq_getElem hi2) w1 h3
   left
   refine ⟨(q.1 - 1, s'), ?_, ⟨by simp only; omega, by simp only; omega, b, fun z => ?_⟩, by simp only; omega⟩
   ·simp only [hge, decide_true, if_true]
    rw [hi, r8, List.getElem?_eq_getElem hi2]
    simp only [Option.bind_some, w1, a, oc]
    rw [a0J b.sh, a3R zO]
   ·obtain ⟨rfl, d⟩ := c z
    have e := h3.eq z
    rw [e] at d
    intro j p hj hjN hp hne
    simp only at hj
    by_cases ej : j = i
    ·subst ej; exact d p hp hne
    ·exact h4 z j p zO hjN hp hne
  ·right; left
   refine ⟨q, by simp [hge], q, rfl, h3, fun z => ?_⟩
   have : q.1 = -1 := by omega
   rw [← this]; exact h4 z) fuel (I64 ((List.length g.Nodes : Int) - 1), R0, false) ⟨by rw [a3R zO]; have := hg.n0; omega, by rw [a3R zO]; omega, h, fun _ j p hj hjN => by rw [a3R zO] at hj; simp only at hj; omega⟩ (by rw [a3R zO]; simp only; omega)
 obtain ⟨q, rfl, e3, e4⟩ := e2
 exact ⟨q, e1, e3, e4⟩
theorem b7n (hg : a1E g) {fuel : Nat} (hf : 10000000 ≤ fuel) {R : Rw} (hs : Shp g.Nodes.length g.Kinds.length R) (hz : ∀ i p, i < g.Nodes.length → p < g.Kinds.length → cl R i p = false) :
  ∃ e, whileN (a4K fuel g) fuel (R, true) = some (.fin e) ∧ Shp g.Nodes.length g.Kinds.length e.1 ∧ ∀ i p, i < g.Nodes.length → p < g.Kinds.length → (cl e.1 i p = true ↔ Lv g i p) := by
 obtain ⟨o, e1, e2⟩ := a4W (body := a4K fuel g) (fun s => Shp g.Nodes.length g.Kinds.length s.1 ∧ c1m g s.1 ∧ (s.2 = false → c3G g s.1 (-1))) (fun s => if s.2 = true then b4c s.1 + 1 else 0) (fun o => ∃ e, o = .fin e ∧ Shp g.Nodes.length g.Kinds.length e.1 ∧ ∀ i p, i < g.Nodes.length → p < g.Kinds.length → (cl e.1 i p = true ↔ Lv g i p)) (fun s h => by
  obtain ⟨h1, h2, h3⟩ := h
  obtain ⟨R0, m⟩ := s
  unfold a4K
  simp only at h1 h2 h3 ⊢
  rw [a0J h1]
  cases m with
  | true =>
    left
    obtain ⟨q, a, b, c⟩ := b5h hg (fuel := fuel) zO (R0 := R0) ⟨h1, h2, fun _ => rfl, fun z => by cases z⟩
    refine ⟨q.2, ?_, ⟨b.sh, b.so, fun z => ?_⟩, ?_⟩
    ·simp only [if_true, a, Option.bind_some, oc]
     rw [a0J b.sh]
    ·rw [b.eq z]; exact c z
    ·simp only [if_true]
     split
     ·have := b.lt (by assumption); omega
     ·omega
  | false =>
    right; left
    refine ⟨(R0, false), by simp, (R0, false), rfl, h1, fun i p hi hp => ⟨h2 i p hi hp, fun hl => ?_⟩⟩
    have hc := h3 rfl
    simp only
    induction hl with
    | read hi' hp' hr => exact hc _ _ zO hi' hp' (.inl hr)
    | step hi' ht hl hw ih =>
      have hh := hl.lt
      exact hc _ _ zO hi' hh.2 (.inr ⟨_, ht, ih hh.1 hh.2, hw⟩)) fuel (R, true) ⟨hs, fun i p hi hp hc => (by rw [hz i p hi hp] at hc; cases hc), fun z => by cases z⟩ (by
    have := b7m hs
    have h1 := hg.nn; have h2 := hg.kn
    have : g.Nodes.length * g.Kinds.length ≤ 4096 * 1024 := Nat.mul_le_mul h1 h2
    simp only [if_true]; omega)
 obtain ⟨e, rfl, e3, e4⟩ := e2
 exact ⟨e, e1, e3, e4⟩
theorem c1p (r : List Bool) (hr : r.length ≤ 1048576) : rng b7M r [] = some (.fin (a1R r.length fun p => r.getD p false)) := by
 have := a1c (xs := r) (s0 := ([] : List Int)) (body := b7M) (fun _ => true) none (fun k l => l = a1R k fun p => r.getD p false) zO rfl (fun k b l hx hl => by
  simp only [if_true]
  have hb : r.getD k false = b := by simp [List.getD_eq_getElem?_getD, hx]
  have hll : l.length ≤ k := by rw [hl]; unfold a1R; rw [List.length_map]; exact Nat.le_trans (List.length_filter_le _ _) zS
  have hk : k < r.length := (List.getElem?_eq_some_iff.1 hx).1
  have hset : a1R (k + 1) (fun p => r.getD p false) = l ++ (if b = true then [(k : Int)] else []) := by
   rw [hl]; unfold a1R
   rw [List.range_succ, List.filter_append, List.map_append]
   congr 1
   simp only [List.filter_cons, List.filter_nil, hb]
   cases b <;> simp
  unfold b7M
  cases b with
  | true =>
    refine ⟨l ++ [(k : Int)], ?_, by rw [hset]; simp⟩
    simp only [if_true]
    rw [a1D zE]; rfl
  | false => exact ⟨l, by simp, by rw [hset]; simp⟩)
 rw [if_pos zS] at this
 obtain ⟨s', e1, e2⟩ := this
 rw [e1, e2]
theorem b5i (h : Shp N K s) (hN : N ≤ 5000) (hK : K ≤ 1048576) : rni (a7a s) (N : Int) [] = some (.fin ((List.range N).map fun i => a1R K (cl s i))) := by
 obtain ⟨s', e1, e2⟩ := a5v (body := a7a s) (n := (N : Int)) (s0 := ([] : RL)) (fun k o => o = (List.range k).map fun i => a1R K (cl s i)) zO rfl (fun k o hk ho => by
  obtain ⟨r, h1, h2, h3⟩ := h.row (i := k) zO
  have hc : (fun p => r.getD p false) = cl s k := by funext p; unfold cl; rw [h3]
  refine ⟨o ++ [a1R K (cl s k)], ?_, by rw [List.range_succ, List.map_append, ← ho]; rfl⟩
  unfold a7a
  rw [r8, h1]
  simp only [Option.bind_some, c1p r zO, oc]
  rw [h2, hc, a1D (by rw [ho]; simp; omega)]; rfl)
 rw [e1, e2]; simp
theorem b5j (g : b5) (hg : a1E g) : ∃ s, rni (a7L g.Kinds.length) (List.length g.Nodes : Int) [] = some (.fin s) ∧ Shp g.Nodes.length g.Kinds.length s ∧ ∀ i p, cl s i p = false := by
 obtain ⟨s', e1, e2, e3⟩ := a5v (body := a7L g.Kinds.length) (n := (List.length g.Nodes : Int)) (s0 := ([] : Rw)) (fun k s => Shp k g.Kinds.length s ∧ ∀ r ∈ s, r = List.replicate g.Kinds.length false) (by have := hg.nn; omega) ⟨⟨rfl, by simp⟩, by simp⟩ (fun k s hk hs => by
  obtain ⟨h1, h2⟩ := hs
  have := hg.kn
  refine ⟨s ++ [List.replicate g.Kinds.length false], ?_, ⟨by rw [List.length_append, h1.1]; rfl, ?_⟩, ?_⟩
  ·unfold a7L
   rw [a0J h1]
   unfold mkL
   rw [if_pos zO]; simp
  ·intro r hr
   rcases List.mem_append.1 hr with a | a
   ·exact h1.2 r a
   ·simp at a; rw [a]; simp
  ·intro r hr
   rcases List.mem_append.1 hr with a | a
   ·exact h2 r a
   ·simpa using a)
 refine ⟨s', e1, by simpa using e2, fun i p => ?_⟩
 unfold cl
 rcases Nat.lt_or_ge i s'.length with a | a
 ·have := e3 _ (List.getElem_mem a)
  simp only [List.getD_eq_getElem?_getD, List.getElem?_eq_getElem a, Option.getD_some, this, List.getElem?_replicate]
  split <;> rfl
 ·simp [List.getD_eq_getElem?_getD, a]
theorem b5W (hg : a1E g) {fuel : Nat} (hf : 10000000 ≤ fuel) : z8 fuel g = some (inL g) := by
 unfold z8
 have hN := hg.nn; have hK := hg.kn
 have hm : mkL 24 (List.length g.Nodes : Int) (List.length g.Nodes : Int) () = some (List.replicate g.Nodes.length ()) := by unfold mkL; rw [if_pos zO]; simp
 obtain ⟨s, a1, a2, a3⟩ := b5j g hg
 obtain ⟨e, b1, b2, b3⟩ := b7n hg hf a2 (fun i p _ _ => a3 i p)
 rw [hm]
 simp only [Option.bind_some, a1, oc]
 rw [a0J a2, b1]
 simp only [Option.bind_some, oc]
 rw [a0J b2, b5i b2 zO zO]
 simp only [Option.bind_some, oc]
 unfold inL
 congr 1
 refine List.map_congr_left (fun i hi => a5B (fun p hp => ?_))
 have := b3 i p (by simpa using hi) hp
 unfold lvB
 exact @b0b _ _ (Classical.propDecidable _) this
end Go.Proofs.YtgoejecjmodjiaaDoor

/- ref11.In: the walk. -/
namespace Go.Proofs.YtgoejecjmodjiaaDoor
open Go Go.Ab
set_option maxRecDepth 20000
set_option maxHeartbeats 2000000
def c5y : FC := .reg [oO 1 (.box (.t 0)),  oO 2 (.mv (.v .nils))] []
def c5z : FC := .reg [oO 18 (.fad 6 (.t 1)),  oO 19 (.load none (.t 18)),  oO 20 (.len .sl (.t 19)),  oO 21 (.mksl none 24 [.nils] (.t 20) (.t 20)),  oO 3 (.mv (.t 21))] []
def c5A : FC := .reg [oO 22 (.mv (.t 3)),  oO 23 (.len .sl (.t 22)),  oO 24 (.mv (.v (.int .i64 0)))] []
def c5B : FC := .reg [oO 26 (.mv (.t 24)),  oO 4 (.mv (.t 26))] []
def c5C : FC := .reg [oO 27 (.mv (.t 3)),  oO 28 (.mv (.t 4)),  oO 29 (.fad 1 (.t 1)),  oO 30 (.load none (.t 29)),  oO 31 (.len .sl (.t 30)),  oO 32 (.mksl none 1 [(.bool false)] (.t 31) (.t 31)),  oO 33 (.iad none none (.t 27) (.t 28)),  ⟨none, none, .op (.store 1 (.t 33) (.t 32))⟩] []
def c5D : FC := .seq c5B c5C
def c5E : FC := .loop (.seq (.reg [oO 25 (.bin .none .lss (.t 24) (.t 23))] []) (.seq (.cond (.t 25) .skip (.exit 0)) (.seq (.block 1 c5D) (.reg [oO 34 (.bin .none .add (.t 24) (.v (.int .i64 1))),  oO 24 (.mv (.t 34))] []))))
def c5F : FC := .block 0 c5E
def c5G : FC := .seq c5A c5F
def c1q : FC := .reg [oO 5 (.mv (.v (.bool true)))] []
def c1r : FC := .reg [oO 35 (.mv (.t 5))] []
def c1s : FC := .cond (.t 35) FC.skip (FC.exit 2)
def c1t : FC := .seq c1r c1s
def c1u : FC := .reg [oO 5 (.mv (.v (.bool false)))] []
def c1v : FC := .reg [oO 36 (.fad 6 (.t 1)),  oO 37 (.load none (.t 36)),  oO 38 (.len .sl (.t 37)),  oO 39 (.bin .none .sub (.t 38) (.v (.int .i64 1))),  oO 6 (.mv (.t 39))] []
def c1w : FC := .reg [oO 40 (.mv (.t 6)),  oO 41 (.bin .none .geq (.t 40) (.v (.int .i64 0)))] []
def c1x : FC := .cond (.t 41) FC.skip (FC.exit 4)
def c1y : FC := .seq c1w c1x
def c1z : FC := .reg [oO 44 (.fad 6 (.t 1)),  oO 45 (.load none (.t 44)),  oO 46 (.mv (.t 6)),  oO 47 (.iad none (some 12) (.t 45) (.t 46)),  oO 48 (.load (some 12) (.t 47)),  oO 7 (.new [(.int .u8 0), (.int .u8 0), (.int .i64 0), (.int .i64 0), (.int .i64 0), (.int .i64 0), (.int .i64 0), (.int .i64 0), (.int .u64 0), .nils, (.int .i64 0), (.int .i64 0)]),  ⟨none, none, .op (.store 12 (.t 7) (.t 48))⟩] []
def c1A : FC := .reg [oO 49 (.load (some 12) (.t 7)),  ⟨(some 50), none, .call 33 [(.t 49)]⟩,  oO 8 (.mv (.t 50))] []
def c1B : FC := .reg [oO 51 (.fad 1 (.t 1)),  oO 52 (.load none (.t 51)),  oO 53 (.len .sl (.t 52)),  oO 54 (.mv (.v (.int .i64 0)))] []
def c1C : FC := .reg [oO 56 (.mv (.t 54)),  oO 9 (.mv (.t 56))] []
def c1D : FC := .reg [oO 57 (.load (some 12) (.t 7)),  ⟨(some 58), none, .call 34 [(.t 57)]⟩,  oO 59 (.mv (.t 9)),  ⟨(some 60), none, .call 18 [(.t 58), (.t 59)]⟩,  oO 10 (.mv (.t 60))] []
def c1E : FC := .reg [oO 61 (.load (some 12) (.t 7)),  ⟨(some 62), none, .call 23 [(.t 61)]⟩,  oO 63 (.len .sl (.t 62)),  oO 64 (.mv (.v (.int .i64 0)))] []
def c1F : FC := .reg [oO 66 (.iad none none (.t 62) (.t 64)),  oO 67 (.load none (.t 66)),  oO 12 (.mv (.t 67))] []
def c1G : FC := .reg [oO 68 (.mv (.t 10)),  oO 69 (.mv (.t 68)),  ⟨(some 70), some (69, false), .op (.mv (.t 3))⟩,  ⟨(some 71), some (69, false), .op (.mv (.t 12))⟩,  ⟨(some 72), some (69, false), .op (.iad none none (.t 70) (.t 71))⟩,  ⟨(some 73), some (69, false), .op (.load none (.t 72))⟩,  ⟨(some 74), some (69, false), .op (.mv (.t 9))⟩,  ⟨(some 75), some (69, false), .op (.iad none none (.t 73) (.t 74))⟩,  ⟨(some 76), some (69, false), .op (.load none (.t 75))⟩,  ⟨(some 77), some (69, false), .op (.mv (.t 76))⟩,  ⟨(some 78), some (77, true), .op (.mv (.t 8))⟩,  ⟨(some 79), some (77, true), .op (.mv (.t 9))⟩,  ⟨(some 80), some (77, true), .call 18 [(.t 78), (.t 79)]⟩,  ⟨(some 81), some (77, true), .op (.un .not (.t 80))⟩,  ⟨(some 82), some (69, false), .op (.pick (.t 77) (.t 81) (.v (.bool false)))⟩,  oO 83 (.pick (.t 69) (.v (.bool true)) (.t 82)),  oO 10 (.mv (.t 83))] []
def c1H : FC := .seq c1F c1G
def c1I : FC := .loop (.seq (.reg [oO 65 (.bin .none .lss (.t 64) (.t 63))] []) (.seq (.cond (.t 65) .skip (.exit 8)) (.seq (.block 9 c1H) (.reg [oO 84 (.bin .none .add (.t 64) (.v (.int .i64 1))),  oO 64 (.mv (.t 84))] []))))
def c1J : FC := .block 8 c1I
def c1K : FC := .seq c1E c1J
def c1L : FC := .reg [oO 85 (.mv (.t 10)),  oO 86 (.mv (.t 85)),  ⟨(some 87), some (86, true), .op (.mv (.t 3))⟩,  ⟨(some 88), some (86, true), .op (.mv (.t 6))⟩,  ⟨(some 89), some (86, true), .op (.iad none none (.t 87) (.t 88))⟩,  ⟨(some 90), some (86, true), .op (.load none (.t 89))⟩,  ⟨(some 91), some (86, true), .op (.mv (.t 9))⟩,  ⟨(some 92), some (86, true), .op (.iad none none (.t 90) (.t 91))⟩,  ⟨(some 93), some (86, true), .op (.load none (.t 92))⟩,  ⟨(some 94), some (86, true), .op (.un .not (.t 93))⟩,  oO 95 (.pick (.t 86) (.t 94) (.v (.bool false)))] []
def c1M : FC := .reg [oO 96 (.mv (.t 3)),  oO 97 (.mv (.t 6)),  oO 98 (.iad none none (.t 96) (.t 97)),  oO 99 (.load none (.t 98)),  oO 100 (.mv (.t 9)),  oO 101 (.iad none none (.t 99) (.t 100)),  ⟨none, none, .op (.store 1 (.t 101) (.v (.bool true)))⟩] []
def c1N : FC := .reg [oO 5 (.mv (.v (.bool true)))] []
def c1O : FC := .seq c1M c1N
def c1P : FC := .cond (.t 95) c1O FC.skip
def c1Q : FC := .seq c1L c1P
def c1R : FC := .seq c1K c1Q
def c1S : FC := .seq c1D c1R
def c1T : FC := .seq c1C c1S
def c1U : FC := .loop (.seq (.reg [oO 55 (.bin .none .lss (.t 54) (.t 53))] []) (.seq (.cond (.t 55) .skip (.exit 6)) (.seq (.block 7 c1T) (.reg [oO 102 (.bin .none .add (.t 54) (.v (.int .i64 1))),  oO 54 (.mv (.t 102))] []))))
def c1V : FC := .block 6 c1U
def c1W : FC := .seq c1B c1V
def c1X : FC := .seq c1A c1W
def c1Y : FC := .seq c1z c1X
def c1Z : FC := .block 5 c1Y
def c2a : FC := .reg [oO 42 (.mv (.t 6)),  oO 43 (.bin .none .sub (.t 42) (.v (.int .i64 1))),  oO 6 (.mv (.t 43))] []
def c2b : FC := .seq c1Z c2a
def c2c : FC := .seq c1y c2b
def c2d : FC := .loop c2c
def c2e : FC := .block 4 c2d
def c2f : FC := .seq c1v c2e
def c2g : FC := .seq c1u c2f
def c2h : FC := .block 3 c2g
def c2i : FC := .seq c1t c2h
def c2j : FC := .loop c2i
def c2k : FC := .block 2 c2j
def c2l : FC := .seq c1q c2k
def c2m : FC := .reg [oO 13 (.mv (.v .nils))] []
def c2n : FC := .reg [oO 103 (.mv (.t 3)),  oO 104 (.len .sl (.t 103)),  oO 105 (.mv (.v (.int .i64 0)))] []
def c2o : FC := .reg [oO 107 (.mv (.t 105)),  oO 14 (.mv (.t 107))] []
def c2p : FC := .reg [oO 15 (.mv (.v .nils))] []
def c2q : FC := .reg [oO 108 (.mv (.t 3)),  oO 109 (.mv (.t 14)),  oO 110 (.iad none none (.t 108) (.t 109)),  oO 111 (.load none (.t 110)),  oO 112 (.len .sl (.t 111)),  oO 113 (.mv (.v (.int .i64 0)))] []
def c2r : FC := .reg [oO 115 (.mv (.t 113)),  oO 116 (.iad none none (.t 111) (.t 113)),  oO 117 (.load none (.t 116)),  oO 16 (.mv (.t 115)),  oO 17 (.mv (.t 117))] []
def c2s : FC := .reg [oO 118 (.mv (.t 17))] []
def c2t : FC := .reg [oO 119 (.mv (.t 15)),  oO 120 (.mv (.t 16)),  oO 121 (.bsl none [(.int .i64 0)] 1 [(0, 1, (.t 120))]),  oO 122 (.app none 8 (.t 119) (.t 121)),  oO 15 (.mv (.t 122))] []
def c2u : FC := .cond (.t 118) c2t FC.skip
def c2v : FC := .seq c2s c2u
def c2w : FC := .seq c2r c2v
def c2x : FC := .loop (.seq (.reg [oO 114 (.bin .none .lss (.t 113) (.t 112))] []) (.seq (.cond (.t 114) .skip (.exit 12)) (.seq (.block 13 c2w) (.reg [oO 123 (.bin .none .add (.t 113) (.v (.int .i64 1))),  oO 113 (.mv (.t 123))] []))))
def c2y : FC := .block 12 c2x
def c2z : FC := .seq c2q c2y
def c2A : FC := .reg [oO 124 (.mv (.t 13)),  oO 125 (.mv (.t 15)),  oO 126 (.bsl none [.nils] 1 [(0, 1, (.t 125))]),  oO 127 (.app none 24 (.t 124) (.t 126)),  oO 13 (.mv (.t 127))] []
def c2B : FC := .seq c2z c2A
def c2C : FC := .seq c2p c2B
def c2D : FC := .seq c2o c2C
def c2E : FC := .loop (.seq (.reg [oO 106 (.bin .none .lss (.t 105) (.t 104))] []) (.seq (.cond (.t 106) .skip (.exit 10)) (.seq (.block 11 c2D) (.reg [oO 128 (.bin .none .add (.t 105) (.v (.int .i64 1))),  oO 105 (.mv (.t 128))] []))))
def c2F : FC := .block 10 c2E
def c2G : FC := .seq c2n c2F
def c2H : FC := .reg [oO 129 (.mv (.t 13)),  oO 2 (.mv (.t 129))] []
def c2I : FC := .seq c2H FC.ret
def c2J : FC := .seq c2G c2I
def c2K : FC := .seq c2m c2J
def c2L : FC := .seq c2l c2K
def c2M : FC := .seq c5G c2L
def c2N : FC := .seq c5z c2M
def c2O : FC := .seq c5y c2N
def c8s : FC := c2O
theorem c8t : Fn3 Tryd.prog 14 130 [(2, none)] c8s := ⟨_, _, Tryd.func14, rfl, rfl, rfl, by kernel_rfl⟩

def itR (ads : List Nat) (s : Rw) : List It := List.zipWith (fun a r => (a, 0, flat avB r)) ads s
def a6m (K : Nat) (ads : List Nat) : List AV := ads.map fun a => .ref a 0 0 K none
def a8z (n : Nat) : List AV := List.replicate n .nils
theorem a2q {σ ρ β : Type} {body : Nat → σ → Option (Stp σ ρ)} {k : Out σ ρ → Option β} {r : β} {m i : Nat} {s : σ} (h : (a0K body (m + 1) i s).bind k = some r) :
  ∃ c, body i s = some c ∧ (match c with | .nxt s' => (a0K body m (i + 1) s').bind k = some r | .brk s' => k (.fin s') = some r | .ret v => k (.ret v) = some r) := by
 simp only [a0K] at h
 cases hc : body i s with
 | none => rw [hc] at h; cases h
 | some c => rw [hc] at h; refine ⟨c, rfl, ?_⟩; cases c <;> exact h
theorem a4d {σ ρ β : Type} {body : Nat → σ → Option (Stp σ ρ)} {k : Out σ ρ → Option β} {r : β} {n : Nat} {s : σ} (h : (rni body (n : Int) s).bind k = some r) : n ≤ 4611686018427387904 ∧ (a0K body n 0 s).bind k = some r := by
 unfold rni at h
 split at h
 ·rename_i hn; exact ⟨by omega, by simpa using h⟩
 ·cases h
theorem c5H : Enc (fun (_ : Unit) => AV.nils) none := ⟨fun _ => rfl, fun _ => rfl, fun _ => rfl, fun _ _ => rfl⟩
theorem c2P (n : Nat) : flat (fun (_ : Unit) => AV.nils) (List.replicate n ()) = a8z n := by
 induction n with
 | zero => rfl
 | succ n ih => rw [List.replicate_succ, a0r, ih]; rfl
theorem a7b {σ ρ β : Type} {body : σ → Option (Stp σ ρ)} {k : Out σ ρ → Option β} {r : β} {n : Nat} {s : σ} (h : (whileN body n s).bind k = some r) :
  ∃ m c, n = m + 1 ∧ body s = some c ∧ (match c with | .nxt s' => (whileN body m s').bind k = some r | .brk s' => k (.fin s') = some r | .ret v => k (.ret v) = some r) := by
 cases n with
 | zero => simp [whileN] at h
 | succ m =>
   simp only [whileN] at h
   cases hc : body s with
   | none => rw [hc] at h; cases h
   | some c => rw [hc] at h; refine ⟨m, c, rfl, rfl, ?_⟩; cases c <;> exact h
theorem b5k {ads : List Nat} {s : Rw} {a : Nat} {w : List Bool} (h : ads.length = s.length) : itR (ads ++ [a]) (s ++ [w]) = itR ads s ++ [(a, 0, flat avB w)] := by
 unfold itR; rw [List.zipWith_append h]; rfl
theorem b3M {K m : Nat} {ads : List Nat} {a : Nat} : (a6m K ads ++ a8z (m + 1)).set ads.length (.ref a 0 0 K none) = a6m K (ads ++ [a]) ++ a8z m := by
 have : ads.length = (a6m K ads).length := by simp [a6m]
 rw [this, List.set_append_right _ _ (Nat.le_refl _), Nat.sub_self]
 simp [a6m, a8z, List.replicate_succ]
theorem b7o {K : Nat} {ads : List Nat} {j : Nat} {X : List AV} (h : j < ads.length) : a1r none (a6m K ads ++ X) j = some (.ref (ads[j]) 0 0 K none) := by
 have : j < (a6m K ads ++ X).length := by simp [a6m]; omega
 simp only [a1r]
 rw [if_pos this, List.getD_eq_getElem?_getD, List.getElem?_append_left (by simp [a6m]; exact h)]
 simp [a6m, h]
theorem b0i {ads : List Nat} {s : Rw} {j : Nat} {w : List Bool} (h : j < ads.length) (hw : s[j]? = some w) : (ads[j], 0, flat avB w) ∈ itR ads s := by
 obtain ⟨hj, rfl⟩ := List.getElem?_eq_some_iff.1 hw
 unfold itR
 rw [List.mem_iff_getElem]
 exact ⟨j, by simp; omega, by simp⟩
theorem c2Q {ads : List Nat} {s : Rw} {j : Nat} {w w' : List Bool} (h : j < ads.length) (hw : s[j]? = some w) : Rp (itR ads s) (ads[j], 0, flat avB w) (ads[j], 0, flat avB w') (itR ads (s.set j w')) := by
 induction ads generalizing s j with
 | nil => simp at h
 | cons a ads ih =>
   cases s with
   | nil => simp at hw
   | cons x s =>
     cases j with
     | zero => simp at hw; subst hw; exact Rp.here
     | succ j => exact Rp.there (ih (by simpa using h) (by simpa using hw))
theorem b7p : ∀ w : List Bool, flat avB w = w.map avB
 | [] => rfl
 | x :: w => by rw [a0r, b7p w]; rfl
theorem b3N {w : List Bool} {p : Nat} {b : Bool} {k : Nat} (h : w[p]? = some b) (hk : k = p) : a1r none (flat avB w) k = some (.bool b) := by
 subst hk
 obtain ⟨hp, rfl⟩ := List.getElem?_eq_some_iff.1 h
 have hl : k < (flat avB w).length := by rw [a8g.length]; simpa [j4] using hp
 simp only [a1r]
 rw [if_pos hl, b7p, List.getD_eq_getElem?_getD]
 simp [hp, avB]
theorem b7q {w : List Bool} {p k : Nat} (hp : p < w.length) (hk : k = p) : splice (flat avB w) k (AV.bool true).cells = flat avB (w.set p true) := by
 subst hk
 simp only [AV.cells, splice, b7p, List.map_set]; rfl
theorem a6n {K : Nat} {ads : List Nat} {j : Nat} (h : j < ads.length) : a1r none (a6m K ads) (0 + j * j4 none) = some (.ref (ads[j]) 0 0 K none) := by
 have := b7o (K := K) (X := []) h; simpa [j4] using this
def m4 (g : b5) (e : T4) : Option RL := (rni (a7a e.1) (List.length g.Nodes : Int) []).bind (oc fun o => some o)
def m3 (g : b5) (e : T4) : Option RL := gd (Shp g.Nodes.length g.Kinds.length e.1) (m4 g e)
def m2 (fuel : Nat) (g : b5) (s : Rw) : Option RL := gd (Shp g.Nodes.length g.Kinds.length s) ((whileN (a4K fuel g) fuel (s, true)).bind (oc (m3 g)))
theorem a2r {fuel : Nat} {g_00 : b5} {r : (List (List Int))} (h : z8 fuel g_00 = some r) : n9 Tryd.prog 14 [(b5.av g_00)] (.sl false 1 (List.map (avL 1 (avI .i64)) r)) := by
 unfold z8 at h
 obtain ⟨w0, hw0, h⟩ := c9 h
 obtain ⟨hw1, rfl⟩ := a3i hw0
 refine k8 mixed c8t zS [7, 21, 32, 122, 127] 2 ?_
 have hS : Sep [] [] := Sep.nil
 refine g5 (b8 ?_)
 refine oP (gR g_00) ?_
 refine aU ?_
 refine b2Q (f := fun (_ : Unit) => AV.nils) (x := ()) hS c5H rfl rfl rfl rfl hw1 (fun o3 S hS => ?_)
 rw [c2P] at hS
 simp only [Int.toNat_natCast] at hS ⊢
 refine aU ?_
 obtain ⟨hN, h⟩ := a4d h
 refine a3S g_00.Nodes.length (fun _ : List Nat × Rw => [(1, gR g_00), (3, .ref o3 0 0 g_00.Nodes.length none)]) (fun s => (o3, 0, a6m g_00.Kinds.length s.1 ++ a8z (g_00.Nodes.length - s.1.length)) :: itR s.1 s.2)
  (fun i s => s.1.length = i ∧ s.2.length = i ∧ (a0K (a7L g_00.Kinds.length) (g_00.Nodes.length - i) i s.2).bind (oc (m2 fuel g_00)) = some r) ([], []) (by simpa [a6m, itR] using hS) ⟨rfl, rfl, h⟩ (a0f ⟨.refl _, .refl _, .refl _, .refl _, trivial⟩) hN zD zD (fun _ => ⟨rfl, rfl, rfl, rfl⟩) (fun i s S hi hI hS => ?_) (fun s fr' S hI hS hw => ?_)
 ·obtain ⟨ads, s⟩ := s
  obtain ⟨h1, h2, h⟩ := hI
  simp only at h1 h2 h hS
  obtain ⟨m, hm⟩ : ∃ m, g_00.Nodes.length - i = m + 1 := ⟨g_00.Nodes.length - i - 1, by omega⟩
  rw [hm] at h
  obtain ⟨c, hc, h⟩ := a2q h
  unfold a7L at hc
  obtain ⟨hsh, hc⟩ := a0A hc
  obtain ⟨w, hw1, hc⟩ := c9 hc
  obtain ⟨hw2, rfl⟩ := a3i hw1
  cases hc
  refine aU ?_
  refine b2Q (x := false) hS a8g rfl rfl rfl rfl hw2 (fun a S hS => ?_)
  refine p9 rfl rfl ⟨by omega, by omega⟩ ?_
  refine E_stS hS rfl zC (by first | exact Rp.here | (repeat (first | exact Rp.here | apply Rp.there | apply Rp.skip))) rfl rfl (by simp [a6m, a8z, j4]; omega) (fun S hS => ?_)
  refine aU ?_
  subst h1
  rw [hm] at hS
  refine R_n (ads ++ [a], s ++ [List.replicate g_00.Kinds.length false]) ⟨by simp, by simp [h2], ?_⟩ ?_ (a0f ⟨.refl _, .refl _, .refl _, .refl _, trivial⟩)
  ·rw [show g_00.Nodes.length - (ads.length + 1) = m by omega]; exact h
  ·have e : splice (a6m g_00.Kinds.length ads ++ a8z (m + 1)) (0 + ((ads.length : Int)).toNat * j4 none) (AV.ref a 0 0 ((g_00.Kinds.length : Int)).toNat none).cells = a6m g_00.Kinds.length (ads ++ [a]) ++ a8z m := by
    rw [← b3M]
    simp [j4, AV.cells, splice]
   rw [e] at hS
   simp only [b5k h2.symm, Int.toNat_natCast] at hS ⊢
   rw [show g_00.Nodes.length - (ads ++ [a]).length = m by simp; omega]
   exact hS.perm (List.perm_append_comm (l₁ := [_]) (l₂ := _ :: _))
 ·obtain ⟨ads, s⟩ := s
  obtain ⟨h1, h2, h⟩ := hI
  simp only at h1 h2 h hS
  have hS : Sep S ((o3, 0, a6m g_00.Kinds.length ads) :: itR ads s) := by
   rw [h1, Nat.sub_self] at hS; simpa [a8z] using hS
  rw [Nat.sub_self] at h
  replace h : m2 fuel g_00 s = some r := h
  obtain ⟨hsh, h⟩ := a0A h
  refine a4l hw ?_
  refine aU ?_
  refine u9 (a4E (σ := Nat × T4) (fun i => [(1, gR g_00), (3, .ref o3 0 0 g_00.Nodes.length none), (5, .bool i.2.2)]) (fun i => (o3, 0, a6m g_00.Kinds.length ads) :: itR ads i.2.1) (fun i => (whileN (a4K fuel g_00) i.1 i.2).bind (oc (m3 g_00)) = some r) (fun i => i.1) (fuel, s, true) hS h (a0f ⟨.refl _, .refl _, .refl _, trivial⟩) (fun i S h hS => ?_))
  obtain ⟨n, s, more⟩ := i
  simp only at h hS
  obtain ⟨n, c, rfl, hc, h⟩ := a7b h
  unfold a4K at hc
  obtain ⟨hsh, hc⟩ := a0A hc
  refine aU ?_
  cases more with
  | false =>
    rw [if_neg zS] at hc
    cases hc
    refine a9z rfl (a2w ?_)
    (repeat (first | refine a2h ?_ | refine a3x ?_ | refine a3M rfl ?_ | refine m8 ?_ | refine z9 ?_ | refine a0y ?_))
    replace h : m3 g_00 (s, false) = some r := h
    obtain ⟨hsh, h⟩ := a0A h
    unfold m4 at h
    refine g8 ?_
    refine g5 (b8 ?_)
    refine aS ?_
    refine b6 ?_
    refine b4I 13 none hS rfl (fun o13 S hS => ?_)
    refine aU ?_
    obtain ⟨_, h⟩ := a4d h
    dsimp only at h hS
    refine a3S g_00.Nodes.length (fun q : Nat × List (Nat × Nat × List Int) => [(3, .ref o3 0 0 g_00.Nodes.length none), (13, .ref o13 q.1 0 q.2.length none)])
     (fun q => (o13, q.1, q.2.map fun x => AV.ref x.1 x.2.1 0 x.2.2.length none) :: ((q.2.map fun x => (x.1, x.2.1, flat (avI .i64) x.2.2)) ++ ((o3, 0, a6m g_00.Kinds.length ads) :: itR ads s)))
     (fun i q => q.2.length = i ∧ (a0K (a7a s) (g_00.Nodes.length - i) i (q.2.map (·.2.2))).bind (oc fun o => some o) = some r) (0, []) hS ⟨rfl, h⟩ (a0f ⟨.refl _, .refl _, .refl _, .refl _, trivial⟩) hN zD zD (fun _ => ⟨rfl, rfl, rfl, rfl⟩) (fun i q S hi hI hS => ?_) (fun q fr' S hI hS hw => ?_)
    ·obtain ⟨v13, os⟩ := q
     obtain ⟨hl, h⟩ := hI
     dsimp only at hl h hS
     obtain ⟨m, hm⟩ : ∃ m, g_00.Nodes.length - i = m + 1 := ⟨g_00.Nodes.length - i - 1, by omega⟩
     rw [hm] at h
     obtain ⟨c, hc, h⟩ := a2q h
     unfold a7a at hc
     obtain ⟨row, hrow, hc⟩ := c9 hc
     rw [r8] at hrow
     have hrl : row.length = g_00.Kinds.length := hsh.2 _ (List.mem_of_getElem? hrow)
     refine g5 (b8 ?_)
     refine aS ?_
     refine b6 ?_
     refine g8 ?_
     refine g5 (b8 ?_)
     refine aS ?_
     refine b6 ?_
     refine b4I 15 none hS rfl (fun o15 S hS => ?_)
     refine aU ?_
     refine p9 rfl rfl ⟨by omega, by omega⟩ ?_
     refine a1j hS rfl (.tail _ (.tail _ (List.mem_append_right _ (.head _)))) (by exact a6n (show i < ads.length by omega)) ?_
     refine aU ?_
     rw [a8d, hrl] at hc
     obtain ⟨hX, hc⟩ := a4d hc
     dsimp only
     refine a3S g_00.Kinds.length (fun q : Nat × List Int => [(3, .ref o3 0 0 g_00.Nodes.length none), (13, .ref o13 v13 0 os.length none), (15, .ref o15 q.1 0 q.2.length none), (111, .ref (ads[i]'zO) 0 0 g_00.Kinds.length none), (105, .int .i64 i), (104, .int .i64 g_00.Nodes.length)])
      (fun q => (o15, q.1, flat (avI .i64) q.2) :: (o13, v13, os.map fun x => AV.ref x.1 x.2.1 0 x.2.2.length none) :: ((os.map fun x => (x.1, x.2.1, flat (avI .i64) x.2.2)) ++ ((o3, 0, a6m g_00.Kinds.length ads) :: itR ads s)))
      (fun j q => (a0K (fun i s => row[i]?.bind fun x => b7M i x s) (g_00.Kinds.length - j) j q.2).bind (oc fun l => (a4C 24 (os.map (·.2.2)) [l]).bind fun o' => some (.nxt o')) = some c) (0, []) hS hc (a0f ⟨.refl _, .refl _, .refl _, .refl _, .refl _, .refl _, .refl _, .refl _, trivial⟩) hX zD zD (fun _ => ⟨rfl, rfl, rfl, rfl⟩) (fun j q S hj hc hS => ?_) (fun q fr' S hc hS hw => ?_)
     ·obtain ⟨v15, l⟩ := q
      dsimp only at hc hS
      obtain ⟨m2, hm2⟩ : ∃ m, g_00.Kinds.length - j = m + 1 := ⟨g_00.Kinds.length - j - 1, by omega⟩
      rw [hm2] at hc
      obtain ⟨c2, hc2, hc⟩ := a2q hc
      obtain ⟨b, hb, hc2⟩ := c9 hc2
      unfold b7M at hc2
      have e3 : g_00.Kinds.length - (j + 1) = m2 := by omega
      refine aU ?_
      refine p9 rfl rfl ⟨by omega, by omega⟩ ?_
      refine a1j hS rfl (.tail _ (.tail _ (List.mem_append_right _ (.tail _ (b0i zO hrow))))) (by exact b3N hb (by simp [j4])) ?_
      refine aU ?_
      dsimp only
      cases b with
      | true =>
        rw [if_pos rfl] at hc2
        obtain ⟨l', hl', hc2⟩ := c9 hc2
        obtain ⟨hl1, rfl⟩ := a6J hl'
        cases hc2
        refine a9y rfl ?_
        refine aU ?_
        refine b2S (m := [(j : Int)]) (j := []) hS (f4 .i64) rfl rfl (by rw [List.append_nil]; exact Rp.here) hl1 (fun S hS => ?_)
        refine aU ?_
        exact R_n (v15 + 1, l ++ [(j : Int)]) (by rw [e3]; exact hc) hS (a0f ⟨.refl _, .refl _, .refl _, .refl _, .refl _, .refl _, .refl _, .refl _, trivial⟩)
      | false =>
        rw [if_neg zS] at hc2
        cases hc2
        refine a9z rfl ?_
        refine aU ?_
        exact R_n (v15, l) (by rw [e3]; exact hc) hS (a0f ⟨.refl _, .refl _, .refl _, .refl _, .refl _, .refl _, .refl _, .refl _, trivial⟩)
     ·obtain ⟨v15, l⟩ := q
      dsimp only at hc hS hw
      rw [Nat.sub_self] at hc
      replace hc : (a4C 24 (os.map (·.2.2)) [l]).bind (fun o' => some (.nxt o')) = some c := hc
      obtain ⟨o', ho', hc⟩ := c9 hc
      obtain ⟨ho1, rfl⟩ := a6J ho'
      cases hc
      rw [List.length_map] at ho1
      refine a4l hw ?_
      refine aU ?_
      refine b8r hS (m := 1) (ys := [.ref o15 v15 0 l.length none]) rfl rfl (by apply Rp.there; exact Rp.here) (by simp [j4]) rfl ho1 (fun S hS => ?_)
      refine aU ?_
      refine R_n (v13 + 1, os ++ [(o15, v15, l)]) ⟨by simp [hl], ?_⟩ ?_ (a0f ⟨.refl _, .refl _, .refl _, ?_, trivial⟩)
      ·rw [show g_00.Nodes.length - (i + 1) = m by omega]; simpa using h
      ·simp only [List.map_append, List.map_cons, List.map_nil, List.append_assoc]
       refine hS.perm ?_
       refine (List.Perm.swap _ _ _).trans (List.Perm.cons _ ?_)
       exact List.perm_middle.symm
      ·simp only [List.length_append]; exact .refl _
    ·obtain ⟨v13, os⟩ := q
     obtain ⟨hl, h⟩ := hI
     dsimp only at hl h hS hw
     rw [Nat.sub_self] at h
     replace h : some (os.map (·.2.2)) = some r := h
     cases h
     refine a4l hw ?_
     refine aU ?_
     refine j8 ?_
     refine ⟨trivial, _, rfl, ?_⟩
     have := b6A (f4 .i64) hS (os := os) (.head _) (fun x hx => .tail _ (List.mem_append_left _ (List.mem_map_of_mem hx)))
     rw [List.map_map]
     exact this
  | true =>
    rw [if_pos rfl] at hc
    refine a9y rfl ?_
    refine aU ?_
    refine u9 ?_
    refine aU ?_
    refine u9 (a4E (σ := Nat × T3) (fun i => [(1, gR g_00), (3, .ref o3 0 0 g_00.Nodes.length none), (5, .bool i.2.2.2), (6, .int .i64 i.2.1)]) (fun i => (o3, 0, a6m g_00.Kinds.length ads) :: itR ads i.2.2.1)
     (fun i => (whileN (b7L g_00) i.1 i.2).bind (oc fun q => gd (Shp g_00.Nodes.length g_00.Kinds.length q.2.1) (some (.nxt q.2))) = some c) (fun i => i.1) (fuel, (I64 ((List.length g_00.Nodes : Int) - 1), s, false)) hS hc (a0f ⟨.refl _, .refl _, .refl _, .refl _, trivial⟩) (fun i S hc hS => ?_))
    obtain ⟨m, i, s, more⟩ := i
    simp only at hc hS
    obtain ⟨m, c2, rfl, hc2, hc⟩ := a7b hc
    unfold b7L at hc2
    obtain ⟨hsh, hc2⟩ := a0A hc2
    refine aU ?_
    refine s5 rfl (fun hb => ?_) (fun hb => ?_)
    ·rw [f5 hb] at hc2
     obtain ⟨nd, hnd, hc2⟩ := c9 hc2
     obtain ⟨w, hw, hc2⟩ := c9 hc2
     refine aU ?_
     refine u9 ?_
     refine aU ?_
     refine k6 rfl rfl hnd ?_
     refine oP (g7.av nd) ?_
     refine b4H hS rfl (fun o7 S hS => ?_)
     refine E_stS hS rfl zC (by first | exact Rp.here | (repeat (first | exact Rp.here | apply Rp.there | apply Rp.skip))) rfl rfl (by first | exact Nat.le_of_ble_eq_true rfl | (simp; omega) | omega) (fun S hS => ?_)
     refine aU ?_
     replace hS : Sep S ((o7, 0, (g7.av nd).cells) :: (o3, 0, a6m g_00.Kinds.length ads) :: itR ads s) := hS
     refine a1j hS rfl zM (v := g7.av nd) rfl ?_
     refine j3 (a0d hw) rfl ⟨(.refl _), trivial⟩ (i6 ⟨(g7.enc.blw _ 0), trivial⟩) ((f4 .i64).blws 0) ?_
     refine aU ?_
     dsimp only
     obtain ⟨hK, hc2⟩ := a4d hc2
     refine a3S g_00.Kinds.length (fun s : T4 => [(1, gR g_00), (3, .ref o3 0 0 g_00.Nodes.length none), (5, .bool s.2), (6, .int .i64 i), (7, .ptr o7 0 0), (8, .sl false 1 (List.map (avI .i64) w))]) (fun s => (o7, 0, (g7.av nd).cells) :: (o3, 0, a6m g_00.Kinds.length ads) :: itR ads s.1)
      (fun p s => (a0K (b7l g_00 i nd w) (g_00.Kinds.length - p) p s).bind (oc fun s => gd (Shp g_00.Nodes.length g_00.Kinds.length s.1) (some (.nxt (I64 (i - 1), s)))) = some c2) (s, more) hS hc2 (a0f ⟨.refl _, .refl _, .refl _, .refl _, .refl _, .refl _, .refl _, .refl _, trivial⟩) hK zD zD (fun _ => ⟨rfl, rfl, rfl, rfl⟩) (fun p s S hp hc2 hS => ?_) (fun s fr' S hc2 hS hw => ?_)
     ·obtain ⟨s, more⟩ := s
      simp only at hc2 hS
      obtain ⟨m2, hm2⟩ : ∃ m, g_00.Kinds.length - p = m + 1 := ⟨g_00.Kinds.length - p - 1, by omega⟩
      rw [hm2] at hc2
      obtain ⟨c3, hc3, hc2⟩ := a2q hc2
      unfold b7l at hc3
      obtain ⟨hsh, hc3⟩ := a0A hc3
      obtain ⟨rd, hrd, hc3⟩ := c9 hc3
      obtain ⟨is0, his0, hc3⟩ := c9 hc3
      obtain ⟨nx, hnx, hc3⟩ := c9 hc3
      refine aU ?_
      refine a1j hS rfl zM (v := g7.av nd) rfl ?_
      refine j3 (a3B hrd) rfl ⟨(.refl _), trivial⟩ (i6 ⟨(g7.enc.blw _ 0), trivial⟩) ((f4 .i64).blws 0) ?_
      refine aU ?_
      refine j3 (m9 his0) rfl ⟨(.refl _), (.refl _), trivial⟩ (i6 ⟨(f4 .i64).blws 0, rfl, trivial⟩) rfl ?_
      refine aU ?_
      refine a1j hS rfl zM (v := g7.av nd) rfl ?_
      refine j3 (a0u hnx) rfl ⟨(.refl _), trivial⟩ (i6 ⟨(g7.enc.blw _ 0), trivial⟩) ((f4 .i64).blws 0) ?_
      refine aU ?_
      rw [a8d] at hc3
      obtain ⟨hX, hc3⟩ := a4d hc3
      refine a3S nx.length (fun is : Bool => [(1, gR g_00), (3, .ref o3 0 0 g_00.Nodes.length none), (5, .bool more), (6, .int .i64 i), (7, .ptr o7 0 0), (8, .sl false 1 (List.map (avI .i64) w)), (9, .int .i64 p), (10, .bool is), (54, .int .i64 p), (53, .int .i64 g_00.Kinds.length), (62, .sl false 1 (List.map (avI .i64) nx))]) (fun _ => (o7, 0, (g7.av nd).cells) :: (o3, 0, a6m g_00.Kinds.length ads) :: itR ads s)
       (fun q is => (a0K (fun i is => nx[i]?.bind fun x => b1H s w (p : Int) i x is) (nx.length - q) q is).bind (oc fun is => if is = true then (s6 s i).bind fun r => (s6 r (p : Int)).bind fun b => (if (!b) = true then some (.nxt (s.set i.toNat (r.set p true), true)) else some (.nxt (s, more))) else some (.nxt (s, more))) = some c3) is0 hS hc3 (a0f ⟨.refl _, .refl _, .refl _, .refl _, .refl _, .refl _, .refl _, .refl _, .refl _, .refl _, .refl _, .refl _, .refl _, trivial⟩) hX zD zD (fun _ => ⟨rfl, rfl, rfl, rfl⟩) (fun q is S hq hc3 hS => ?_) (fun is fr' S hc3 hS hw => ?_)
      ·obtain ⟨m3, hm3⟩ : ∃ m, nx.length - q = m + 1 := ⟨nx.length - q - 1, by omega⟩
       rw [hm3] at hc3
       obtain ⟨c4, hc4, hc3⟩ := a2q hc3
       obtain ⟨to, hto, hc4⟩ := c9 hc4
       unfold b1H at hc4
       refine aU ?_
       refine k6 rfl rfl (x7 hto) ?_
       refine aU ?_
       have e3 : nx.length - (q + 1) = m3 := by omega
       cases is with
       | true =>
         rw [if_pos rfl] at hc4
         cases hc4
         refine aU ?_
         exact R_n true (by rw [e3]; exact hc3) hS (a0f ⟨.refl _, .refl _, .refl _, .refl _, .refl _, .refl _, .refl _, .refl _, .refl _, .refl _, .refl _, .refl _, .refl _, trivial⟩)
       | false =>
         rw [if_neg zS] at hc4
         obtain ⟨rw1, hrw, hc4⟩ := c9 hc4
         obtain ⟨b, hb1, hc4⟩ := c9 hc4
         obtain ⟨t0, t1, t2, t3⟩ := a1G hrw
         obtain ⟨u0, u1, u2, u3⟩ := a1G hb1
         have hN1 : s.length = g_00.Nodes.length := hsh.1
         have hK1 : rw1.length = g_00.Kinds.length := hsh.2 _ (List.mem_of_getElem? t3)
         refine aU ?_
         refine p9 rfl rfl ⟨by omega, by omega⟩ ?_
         refine aU ?_
         refine a1j hS rfl (.tail _ (.head _)) (by exact a6n (show to.toNat < ads.length by omega)) ?_
         refine aU ?_
         refine p9 rfl rfl ⟨by omega, by omega⟩ ?_
         refine aU ?_
         refine a1j hS rfl (.tail _ (.tail _ (b0i zO t3))) (by exact b3N u3 (by simp [j4])) ?_
         refine aU ?_
         cases b with
         | true =>
           rw [if_pos rfl] at hc4
           obtain ⟨x, hx, hc4⟩ := c9 hc4
           cases hc4
           refine aU ?_
           refine j3 (m9 hx) rfl ⟨(.refl _), (.refl _), trivial⟩ (i6 ⟨(f4 .i64).blws 0, rfl, trivial⟩) rfl ?_
           refine aU ?_
           exact R_n (!x) (by rw [e3]; exact hc3) hS (a0f ⟨.refl _, .refl _, .refl _, .refl _, .refl _, .refl _, .refl _, .refl _, .refl _, .refl _, .refl _, .refl _, .refl _, trivial⟩)
         | false =>
           rw [if_neg zS] at hc4
           cases hc4
           refine aU ?_
           exact R_n false (by rw [e3]; exact hc3) hS (a0f ⟨.refl _, .refl _, .refl _, .refl _, .refl _, .refl _, .refl _, .refl _, .refl _, .refl _, .refl _, .refl _, .refl _, trivial⟩)
      ·rw [Nat.sub_self] at hc3
       replace hc3 : (if is = true then (s6 s i).bind fun r => (s6 r (p : Int)).bind fun b => (if (!b) = true then some (.nxt (s.set i.toNat (r.set p true), true)) else some (.nxt (s, more))) else some (.nxt (s, more))) = some c3 := hc3
       refine a4l hw ?_
       have e3 : g_00.Kinds.length - (p + 1) = m2 := by omega
       refine aU ?_
       cases is with
       | false =>
         rw [if_neg zS] at hc3
         cases hc3
         refine aU ?_
         refine a9z rfl ?_
         refine aU ?_
         exact R_n (s, more) (by rw [e3]; exact hc2) hS (a0f ⟨.refl _, .refl _, .refl _, .refl _, .refl _, .refl _, .refl _, .refl _, trivial⟩)
       | true =>
         rw [if_pos rfl] at hc3
         obtain ⟨rw1, hrw, hc3⟩ := c9 hc3
         obtain ⟨b, hb1, hc3⟩ := c9 hc3
         obtain ⟨t0, t1, t2, t3⟩ := a1G hrw
         obtain ⟨u0, u1, u2, u3⟩ := a1G hb1
         have hN1 : s.length = g_00.Nodes.length := hsh.1
         have hK1 : rw1.length = g_00.Kinds.length := hsh.2 _ (List.mem_of_getElem? t3)
         refine aU ?_
         refine p9 rfl rfl ⟨by omega, by omega⟩ ?_
         refine aU ?_
         refine a1j hS rfl (.tail _ (.head _)) (by exact a6n (show i.toNat < ads.length by omega)) ?_
         refine aU ?_
         refine p9 rfl rfl ⟨by omega, by omega⟩ ?_
         refine aU ?_
         refine a1j hS rfl (.tail _ (.tail _ (b0i zO t3))) (by exact b3N u3 (by simp [j4])) ?_
         refine aU ?_
         cases b with
         | true =>
           rw [if_neg zS] at hc3
           cases hc3
           refine a9z rfl ?_
           refine aU ?_
           exact R_n (s, more) (by rw [e3]; exact hc2) hS (a0f ⟨.refl _, .refl _, .refl _, .refl _, .refl _, .refl _, .refl _, .refl _, trivial⟩)
         | false =>
           rw [if_pos (by rfl)] at hc3
           cases hc3
           refine a9y rfl ?_
           refine aU ?_
           refine p9 rfl rfl ⟨by omega, by omega⟩ ?_
           refine aU ?_
           refine a1j hS rfl (.tail _ (.head _)) (by exact a6n (show i.toNat < ads.length by omega)) ?_
           refine aU ?_
           refine p9 rfl rfl ⟨by omega, by omega⟩ ?_
           have hrp : Rp (itR ads s) (ads[i.toNat]'zO, 0, flat avB rw1) (ads[i.toNat]'zO, 0, splice (flat avB rw1) (0 + (p : Int).toNat * j4 none) (AV.bool true).cells) (itR ads (s.set i.toNat (rw1.set p true))) := by
            rw [b7q (p := p) zO (by simp [j4])]; exact c2Q zO t3
           refine E_stS hS rfl zC (by exact .there (.there hrp)) rfl rfl (by rw [a8g.length]; simp [j4]; omega) (fun S hS => ?_)
           refine aU ?_
           exact R_n (s.set i.toNat (rw1.set p true), true) (by rw [e3]; exact hc2) hS (a0f ⟨.refl _, .refl _, .refl _, .refl _, .refl _, .refl _, .refl _, .refl _, trivial⟩)
     ·rw [Nat.sub_self] at hc2
      replace hc2 : gd (Shp g_00.Nodes.length g_00.Kinds.length s.1) (some (.nxt (I64 (i - 1), s))) = some c2 := hc2
      obtain ⟨hsh, hc2⟩ := a0A hc2
      cases hc2
      refine a0y ?_
      refine a4l hw ?_
      refine aU ?_
      exact ⟨(m, I64 (i - 1), s), hc, Nat.lt_succ_self _, hS.sub (List.sublist_cons_self _ _), a0f ⟨.refl _, .refl _, .refl _, .refl _, trivial⟩⟩
    ·rw [f6 hb] at hc2
     cases hc2
     refine a2w ?_
     (repeat (first | refine a2h ?_ | refine a3x ?_ | refine a3M rfl ?_ | refine m8 ?_ | refine z9 ?_ | refine a0y ?_))
     replace hc : gd (Shp g_00.Nodes.length g_00.Kinds.length s) (some (.nxt (s, more))) = some c := hc
     obtain ⟨hsh, hc⟩ := a0A hc
     cases hc
     exact ⟨(n, s, more), h, Nat.lt_succ_self _, hS, a0f ⟨.refl _, .refl _, .refl _, trivial⟩⟩
end Go.Proofs.YtgoejecjmodjiaaDoor

