/- What ref7.Right says: the same as ir.Check. -/
import Derived.Test.YtepdcebjobjjgaaDoorGenR
import Derived.Test.YtepdcebjobjjgaaDoorWlTz
import Derived.Test.YtepdcebjobjjgaaDoorRows
set_option linter.unusedVariables false
set_option linter.unusedSimpArgs false
namespace Go.Proofs.YtepdcebjobjjgaaDoor
open Go Go.Ab
theorem a5o (l : List Int) (v : Int) (hl : l.length <= 4611686018427387904) : j8 l v = some (decide (v ∈ l)) := by
 unfold j8
 refine (a0y (xs := l) v (fun _ x => !(x == v)) true hl (fun i x hx => ?_)).trans ?_
 ·cases x == v <;> simp
 ·rw [a2u]
  by_cases h : v ∈ l
  ·have : (l.all fun x => !(x == v)) = false := by
    rw [List.all_eq_false]; exact ⟨v, h, by simp⟩
   rw [this]; simp [h]
  ·have : (l.all fun x => !(x == v)) = true := by
    rw [List.all_eq_true]; intro x hx
    have : x ≠ v := fun e => h (e ▸ hx)
    simpa using this
   rw [this]; simp [h]
theorem a1m (g : b5) (p k : Int) : c9 g false p k = some (a1Q g k p) := by
 unfold c9
 simp only [jp, decide_eq_true_eq]
 by_cases h1 : p >= 0
 case neg =>
  have : a1Q g k p = false := by unfold a1Q; simp; omega
  simp [this, h1]
 by_cases h2 : p < (List.length g.Kinds : Int)
 case neg =>
  have : a1Q g k p = false := by unfold a1Q; simp; omega
  simp [this, h1, h2]
 obtain ⟨q, rfl⟩ : ∃ i : Nat, p = (i : Int) := ⟨p.toNat, by omega⟩
 have hq : q < g.Kinds.length := by omega
 have e : a1Q g k (q : Int) = (g.Kinds[q] == k) := by
  unfold a1Q
  rw [n8, List.getElem?_eq_getElem hq]
  simp [hq]
 rw [e, if_pos h1, if_pos h2, n8, List.getElem?_eq_getElem hq]
 simp
theorem a6G (n : g6) : o9 n = some (a2s n) := by
 unfold o9 a2s
 simp only [jp, beq_iff_eq, decide_eq_true_eq, bne_iff_ne, ne_eq]
 by_cases h12 : n.Op = 12
 ·simp [h12]
 by_cases h14 : n.Op = 14
 ·simp [h14]
 by_cases h18 : n.Op = 18
 ·simp [h18]
 by_cases h9 : n.Op = 9
 ·by_cases he : n.Else = n.Next <;> simp [h9, he]
 by_cases h1 : n.Op < 1
 ·simp [h1, h12, h14, h18, h9]
 by_cases h2 : n.Op > 18 <;> simp [h1, h2, h12, h14, h18, h9]
theorem b6E (g : b5) : a0f g false = some (a3L g) := by
 unfold a0f a3L
 simp only [jp, Bool.false_eq_true, if_false]
 by_cases h1 : g.Kinds.length <= 1024
 case neg =>
  have h1' : (g.Kinds.length : Int) > 1024 := by omega
  simp [h1, h1']
 have h1' : ¬ ((g.Kinds.length : Int) > 1024) := by omega
 simp only [h1', decide_false, Bool.false_eq_true, if_false, h1, decide_true, Bool.true_and]
 have hk : ∀ (f : Unit -> Option Bool), ((rng (fun (i_4 : Nat) (k_5 : Int) (s_3 : Unit) => ((if (decide (k_5 > 1)) then (some (.ret (some false))) else (some (.nxt ()))) : Option (Stp Unit (Option Bool)))) g.Kinds ()).bind (oc f)) = if (g.Kinds.any fun k => decide (k > 1)) = true then some false else f () := fun f => by
  refine (a0y (xs := g.Kinds) () (fun _ x => !decide (x > 1)) false zO (fun i x hx => ?_)).trans ?_
  ·by_cases h : x > 1 <;> simp [h]
  ·rw [a2u]
   have e : (g.Kinds.all fun x => !decide (x > 1)) = !(g.Kinds.any fun k => decide (k > 1)) := by
    rw [List.not_any_eq_all_not]
   rw [e]
   cases g.Kinds.any fun k => decide (k > 1) <;> simp
 by_cases h3 : g.Params.length <= 4
 case neg =>
  have h3' : (g.Params.length : Int) > 4 := by omega
  simp [h3, h3']
 have h3' : ¬ ((g.Params.length : Int) > 4) := by omega
 simp only [h3', decide_false, Bool.false_eq_true, if_false, h3, decide_true, Bool.true_and]
 by_cases h4 : g.Init.length = g.Params.length
 case neg =>
  have h4' : ((g.Init.length : Int) != (g.Params.length : Int)) = true := by simp; omega
  simp [h4, h4']
 have h4' : ((g.Init.length : Int) != (g.Params.length : Int)) = false := by simp; omega
 simp only [h4', Bool.false_eq_true, if_false]
 simp only [h4, decide_true, Bool.true_and]
 by_cases h5 : 0 <= g.Cells
 case neg =>
  have h5' : g.Cells < 0 := by omega
  simp [h5, h5']
 have h5' : ¬ (g.Cells < 0) := by omega
 by_cases h6 : g.Cells <= 64
 case neg =>
  have h6' : g.Cells > 64 := by omega
  simp [h5', h6, h6']
 have h6' : ¬ (g.Cells > 64) := by omega
 simp only [h5', h6', decide_false, Bool.false_eq_true, if_false, h5, h6, and_self, decide_true, Bool.true_and]
 by_cases h7 : g.Keep < -1
 ·have : (decide (g.Keep = -1) || a1F g g.Keep) = false := by unfold a1F; simp; omega
  simp [h7, this]
 by_cases h8 : g.Keep >= g.Cells
 ·have : (decide (g.Keep = -1) || a1F g g.Keep) = false := by unfold a1F; simp; omega
  simp [h7, h8, this]
 have : (decide (g.Keep = -1) || a1F g g.Keep) = true := by unfold a1F; simp; omega
 simp only [this, h7, h8, decide_false, Bool.false_eq_true, if_false, Bool.true_and]
 rw [hk]
 cases h2 : g.Kinds.any fun k => decide (k > 1) with
 | true => simp
 | false =>
 simp only [Bool.false_eq_true, if_false, Bool.not_false, Bool.true_and]
 refine (a0y () (b7H g) false zO (fun i p hx => ?_)).trans ?_
 ·have hi : i < g.Params.length := (List.getElem?_eq_some_iff.1 hx).1
  have hi2 : i < g.Init.length := by omega
  have hsub : b2K g.Params 0 (i : Int) = some (g.Params.take i) := by
   unfold b2K; rw [if_pos zO]; simp
  simp only [b7H, List.getElem?_eq_getElem hi2, hsub, Option.bind_some, n8]
  by_cases q1 : 0 <= p
  case neg =>
   have q1' : p < 0 := by omega
   simp [q1, q1']
  have q1' : ¬ (p < 0) := by omega
  by_cases q2 : p < (g.Kinds.length : Int)
  case neg =>
   have q2' : p >= (g.Kinds.length : Int) := by omega
   simp [q1', q2, q2']
  have q2' : ¬ (p >= (g.Kinds.length : Int)) := by omega
  simp only [q1', q2', decide_false, Bool.false_eq_true, if_false, q1, q2, and_self, decide_true, Bool.true_and]
  rw [a5o _ _ zE]
  by_cases q3 : p ∈ g.Params.take i
  ·simp [q3]
  simp only [q3, decide_false, Option.bind_some, Bool.false_eq_true, if_false, Bool.not_false, Bool.true_and]
  by_cases q4 : g.Init[i] < -1
  ·have e1 : ¬ g.Init[i] = -1 := by omega
   have e2 : a1F g g.Init[i] = false := by unfold a1F; simp; omega
   simp [q4, e1, e2]
  by_cases q5 : g.Init[i] >= g.Cells
  ·have e1 : ¬ g.Init[i] = -1 := by omega
   have e2 : a1F g g.Init[i] = false := by unfold a1F; simp; omega
   simp [q4, q5, e1, e2]
  by_cases q6 : g.Init[i] >= 0
  ·have e1 : ¬ g.Init[i] = -1 := by omega
   have e2 : a1F g g.Init[i] = true := by unfold a1F; simp; omega
   simp only [q4, q5, q6, e1, e2, decide_false, decide_true, Bool.false_eq_true, if_false, if_true, a1m, Option.bind_some, Bool.false_or, Bool.true_and]
   cases a1Q g 0 p <;> simp
  ·have e1 : g.Init[i] = -1 := by omega
   have e2 : -1 < g.Cells := by omega
   simp [q4, q5, q6, e1, e2]
 ·cases u5 (b7H g) 0 g.Params with
  | false => simp
  | true =>
    simp only [if_true, Bool.true_and, c1R]
    by_cases r1 : 1 <= g.Nodes.length
    case neg =>
     have r1' : ¬ ((g.Nodes.length : Int) >= 1) := by omega
     simp only [r1, r1', decide_false, Bool.false_eq_true, if_false, false_and]
    have r1' : (g.Nodes.length : Int) >= 1 := by omega
    by_cases r2 : g.Nodes.length <= 4096
    case neg =>
     have r2' : ¬ ((g.Nodes.length : Int) <= 4096) := by omega
     simp only [r1', r2, r2', decide_true, decide_false, Bool.false_eq_true, if_true, if_false, false_and, and_false]
    have r2' : (g.Nodes.length : Int) <= 4096 := by omega
    by_cases r3 : 0 <= g.Entry
    case neg =>
     have r3' : ¬ (g.Entry >= 0) := by omega
     simp only [r1', r2', r3, r3', decide_true, decide_false, Bool.false_eq_true, if_true, if_false, false_and, and_false]
    have r3' : g.Entry >= 0 := r3
    simp only [r1, r1', r2, r2', r3, r3', decide_true, if_true, true_and]
def chk (g : b5) (b p : Int) : Bool := if b = 110 then a1Q g 0 p else if b = 112 then a1Q g 1 p else true
theorem x6 (g : b5) (w : ByteArray) (bs : List Int) (hb : bs.length = 4) (hw : ∀ i : Nat, i < 4 -> a6y w (i : Int) = some (bs.getD i 0)) (ps : List Int) (hp : ps.length = 4) (f : Unit -> Option Bool) :
  ((rng (fun (i_12 : Nat) (p_13 : Int) (s_11 : Unit) => (((a6y w (i_12 : Int)).bind fun b_15 => (if (b_15 == 110) then ((c9 g false p_13 0).bind fun fit_16 => (if (!fit_16) then (some (.ret (some false))) else (some (.nxt ())))) else (if (b_15 == 112) then ((c9 g false p_13 1).bind fun fit_17 => (if (!fit_17) then (some (.ret (some false))) else (some (.nxt ())))) else (some (.nxt ()))))) : Option (Stp Unit (Option Bool)))) ps ()).bind (oc f)) = if u5 (fun i p => chk g (bs.getD i 0) p) 0 ps = true then f () else some false := by
 refine a0y () (fun i p => chk g (bs.getD i 0) p) false zO (fun i p hx => ?_)
 have hi : i < ps.length := (List.getElem?_eq_some_iff.1 hx).1
 rw [hw i zO]
 simp only [Option.bind_some, chk, a1m, beq_iff_eq]
 generalize bs.getD i 0 = b
 by_cases h1 : b = 110
 ·simp only [h1, if_true]; cases a1Q g 0 p <;> simp
 ·by_cases h2 : b = 112
  ·simp only [h2]; cases a1Q g 1 p <;> simp
  ·simp [h1, h2]
theorem b4X {all : List b5} {g : b5} {n : g6} (h : n.Op < 1 \/ n.Op > 18) : opB all g n = false := by
 have k : ∀ j : Int, 1 <= j -> j <= 18 -> ¬ n.Op = j := fun j _ _ => by omega
 unfold opB
 simp [k 1 zD zD, k 2 zD zD, k 3 zD zD, k 4 zD zD, k 5 zD zD, k 6 zD zD, k 7 zD zD, k 8 zD zD, k 9 zD zD, k 10 zD zD, k 11 zD zD, k 12 zD zD, k 13 zD zD, k 14 zD zD, k 15 zD zD, k 16 zD zD, k 17 zD zD, k 18 zD zD]
theorem a8t (g f : b5) (l : List Int) (hp : a6n f) (hl : l.length = f.Params.length) (h4 : f.Params.length <= 4) (F : Unit -> Option Bool) :
  ((rng (fun (i_44 : Nat) (p_45 : Int) (s_43 : Unit) => (((o6 f.Params (i_44 : Int)).bind fun y_52 => ((o6 f.Kinds y_52).bind fun y_53 => (if a1Q g y_53 p_45 = false then (some (.ret (some false))) else (some (.nxt ()))))) : Option (Stp Unit (Option Bool)))) l ()).bind (oc F)) = if u5 (b4M g f) 0 l = true then F () else some false := by
 refine a0y () (b4M g f) false zO (fun i p hx => ?_)
 have hi : i < l.length := (List.getElem?_eq_some_iff.1 hx).1
 have hip : i < f.Params.length := by omega
 have hr := hp _ (List.getElem_mem hip)
 obtain ⟨q, hq⟩ : ∃ q : Nat, f.Params[i] = (q : Int) := ⟨f.Params[i].toNat, by omega⟩
 have hqk : q < f.Kinds.length := by omega
 simp only [n8, List.getElem?_eq_getElem hip, Option.bind_some, hq, List.getElem?_eq_getElem hqk, b4M, a1m]
 cases a1Q g f.Kinds[q] p <;> simp
theorem c0X (g : b5) (n : g6) (h : n.Op = 1) (F : Unit -> Option Bool) : ((d8 n.Op).bind fun wan_10 => ((rng (fun (i_12 : Nat) (p_13 : Int) (s_11 : Unit) => (((a6y wan_10 (i_12 : Int)).bind fun b_15 => (if (b_15 == 110) then ((c9 g false p_13 0).bind fun fit_16 => (if (!fit_16) then (some (.ret (some false))) else (some (.nxt ())))) else (if (b_15 == 112) then ((c9 g false p_13 1).bind fun fit_17 => (if (!fit_17) then (some (.ret (some false))) else (some (.nxt ())))) else (some (.nxt ()))))) : Option (Stp Unit (Option Bool)))) [n.D, n.E, n.A, n.B] ()).bind (oc F))) = if u5 (fun i p => chk g ([110, 45, 45, 45].getD i 0) p) 0 [n.D, n.E, n.A, n.B] = true then F () else some false := by
 have e : d8 n.Op = some (ByteArray.mk #[110, 45, 45, 45]) := by rw [h]; rfl
 rw [e]
 exact x6 g (ByteArray.mk #[110, 45, 45, 45]) [110, 45, 45, 45] rfl (fun i hi => by match i, hi with | 0, _ => rfl | 1, _ => rfl | 2, _ => rfl | 3, _ => rfl) [n.D, n.E, n.A, n.B] rfl F
theorem c0Y (g : b5) (n : g6) (h : n.Op = 2) (F : Unit -> Option Bool) : ((d8 n.Op).bind fun wan_10 => ((rng (fun (i_12 : Nat) (p_13 : Int) (s_11 : Unit) => (((a6y wan_10 (i_12 : Int)).bind fun b_15 => (if (b_15 == 110) then ((c9 g false p_13 0).bind fun fit_16 => (if (!fit_16) then (some (.ret (some false))) else (some (.nxt ())))) else (if (b_15 == 112) then ((c9 g false p_13 1).bind fun fit_17 => (if (!fit_17) then (some (.ret (some false))) else (some (.nxt ())))) else (some (.nxt ()))))) : Option (Stp Unit (Option Bool)))) [n.D, n.E, n.A, n.B] ()).bind (oc F))) = if u5 (fun i p => chk g ([61, 45, 61, 45].getD i 0) p) 0 [n.D, n.E, n.A, n.B] = true then F () else some false := by
 have e : d8 n.Op = some (ByteArray.mk #[61, 45, 61, 45]) := by rw [h]; rfl
 rw [e]
 exact x6 g (ByteArray.mk #[61, 45, 61, 45]) [61, 45, 61, 45] rfl (fun i hi => by match i, hi with | 0, _ => rfl | 1, _ => rfl | 2, _ => rfl | 3, _ => rfl) [n.D, n.E, n.A, n.B] rfl F
theorem c0Z (g : b5) (n : g6) (h : n.Op = 3) (F : Unit -> Option Bool) : ((d8 n.Op).bind fun wan_10 => ((rng (fun (i_12 : Nat) (p_13 : Int) (s_11 : Unit) => (((a6y wan_10 (i_12 : Int)).bind fun b_15 => (if (b_15 == 110) then ((c9 g false p_13 0).bind fun fit_16 => (if (!fit_16) then (some (.ret (some false))) else (some (.nxt ())))) else (if (b_15 == 112) then ((c9 g false p_13 1).bind fun fit_17 => (if (!fit_17) then (some (.ret (some false))) else (some (.nxt ())))) else (some (.nxt ()))))) : Option (Stp Unit (Option Bool)))) [n.D, n.E, n.A, n.B] ()).bind (oc F))) = if u5 (fun i p => chk g ([110, 45, 110, 110].getD i 0) p) 0 [n.D, n.E, n.A, n.B] = true then F () else some false := by
 have e : d8 n.Op = some (ByteArray.mk #[110, 45, 110, 110]) := by rw [h]; rfl
 rw [e]
 exact x6 g (ByteArray.mk #[110, 45, 110, 110]) [110, 45, 110, 110] rfl (fun i hi => by match i, hi with | 0, _ => rfl | 1, _ => rfl | 2, _ => rfl | 3, _ => rfl) [n.D, n.E, n.A, n.B] rfl F
theorem c1a (g : b5) (n : g6) (h : n.Op = 4) (F : Unit -> Option Bool) : ((d8 n.Op).bind fun wan_10 => ((rng (fun (i_12 : Nat) (p_13 : Int) (s_11 : Unit) => (((a6y wan_10 (i_12 : Int)).bind fun b_15 => (if (b_15 == 110) then ((c9 g false p_13 0).bind fun fit_16 => (if (!fit_16) then (some (.ret (some false))) else (some (.nxt ())))) else (if (b_15 == 112) then ((c9 g false p_13 1).bind fun fit_17 => (if (!fit_17) then (some (.ret (some false))) else (some (.nxt ())))) else (some (.nxt ()))))) : Option (Stp Unit (Option Bool)))) [n.D, n.E, n.A, n.B] ()).bind (oc F))) = if u5 (fun i p => chk g ([110, 45, 45, 45].getD i 0) p) 0 [n.D, n.E, n.A, n.B] = true then F () else some false := by
 have e : d8 n.Op = some (ByteArray.mk #[110, 45, 45, 45]) := by rw [h]; rfl
 rw [e]
 exact x6 g (ByteArray.mk #[110, 45, 45, 45]) [110, 45, 45, 45] rfl (fun i hi => by match i, hi with | 0, _ => rfl | 1, _ => rfl | 2, _ => rfl | 3, _ => rfl) [n.D, n.E, n.A, n.B] rfl F
theorem c1b (g : b5) (n : g6) (h : n.Op = 5) (F : Unit -> Option Bool) : ((d8 n.Op).bind fun wan_10 => ((rng (fun (i_12 : Nat) (p_13 : Int) (s_11 : Unit) => (((a6y wan_10 (i_12 : Int)).bind fun b_15 => (if (b_15 == 110) then ((c9 g false p_13 0).bind fun fit_16 => (if (!fit_16) then (some (.ret (some false))) else (some (.nxt ())))) else (if (b_15 == 112) then ((c9 g false p_13 1).bind fun fit_17 => (if (!fit_17) then (some (.ret (some false))) else (some (.nxt ())))) else (some (.nxt ()))))) : Option (Stp Unit (Option Bool)))) [n.D, n.E, n.A, n.B] ()).bind (oc F))) = if u5 (fun i p => chk g ([45, 45, 110, 45].getD i 0) p) 0 [n.D, n.E, n.A, n.B] = true then F () else some false := by
 have e : d8 n.Op = some (ByteArray.mk #[45, 45, 110, 45]) := by rw [h]; rfl
 rw [e]
 exact x6 g (ByteArray.mk #[45, 45, 110, 45]) [45, 45, 110, 45] rfl (fun i hi => by match i, hi with | 0, _ => rfl | 1, _ => rfl | 2, _ => rfl | 3, _ => rfl) [n.D, n.E, n.A, n.B] rfl F
theorem c1c (g : b5) (n : g6) (h : n.Op = 6) (F : Unit -> Option Bool) : ((d8 n.Op).bind fun wan_10 => ((rng (fun (i_12 : Nat) (p_13 : Int) (s_11 : Unit) => (((a6y wan_10 (i_12 : Int)).bind fun b_15 => (if (b_15 == 110) then ((c9 g false p_13 0).bind fun fit_16 => (if (!fit_16) then (some (.ret (some false))) else (some (.nxt ())))) else (if (b_15 == 112) then ((c9 g false p_13 1).bind fun fit_17 => (if (!fit_17) then (some (.ret (some false))) else (some (.nxt ())))) else (some (.nxt ()))))) : Option (Stp Unit (Option Bool)))) [n.D, n.E, n.A, n.B] ()).bind (oc F))) = if u5 (fun i p => chk g ([112, 45, 45, 45].getD i 0) p) 0 [n.D, n.E, n.A, n.B] = true then F () else some false := by
 have e : d8 n.Op = some (ByteArray.mk #[112, 45, 45, 45]) := by rw [h]; rfl
 rw [e]
 exact x6 g (ByteArray.mk #[112, 45, 45, 45]) [112, 45, 45, 45] rfl (fun i hi => by match i, hi with | 0, _ => rfl | 1, _ => rfl | 2, _ => rfl | 3, _ => rfl) [n.D, n.E, n.A, n.B] rfl F
theorem c1d (g : b5) (n : g6) (h : n.Op = 7) (F : Unit -> Option Bool) : ((d8 n.Op).bind fun wan_10 => ((rng (fun (i_12 : Nat) (p_13 : Int) (s_11 : Unit) => (((a6y wan_10 (i_12 : Int)).bind fun b_15 => (if (b_15 == 110) then ((c9 g false p_13 0).bind fun fit_16 => (if (!fit_16) then (some (.ret (some false))) else (some (.nxt ())))) else (if (b_15 == 112) then ((c9 g false p_13 1).bind fun fit_17 => (if (!fit_17) then (some (.ret (some false))) else (some (.nxt ())))) else (some (.nxt ()))))) : Option (Stp Unit (Option Bool)))) [n.D, n.E, n.A, n.B] ()).bind (oc F))) = if u5 (fun i p => chk g ([110, 45, 112, 45].getD i 0) p) 0 [n.D, n.E, n.A, n.B] = true then F () else some false := by
 have e : d8 n.Op = some (ByteArray.mk #[110, 45, 112, 45]) := by rw [h]; rfl
 rw [e]
 exact x6 g (ByteArray.mk #[110, 45, 112, 45]) [110, 45, 112, 45] rfl (fun i hi => by match i, hi with | 0, _ => rfl | 1, _ => rfl | 2, _ => rfl | 3, _ => rfl) [n.D, n.E, n.A, n.B] rfl F
theorem c1e (g : b5) (n : g6) (h : n.Op = 8) (F : Unit -> Option Bool) : ((d8 n.Op).bind fun wan_10 => ((rng (fun (i_12 : Nat) (p_13 : Int) (s_11 : Unit) => (((a6y wan_10 (i_12 : Int)).bind fun b_15 => (if (b_15 == 110) then ((c9 g false p_13 0).bind fun fit_16 => (if (!fit_16) then (some (.ret (some false))) else (some (.nxt ())))) else (if (b_15 == 112) then ((c9 g false p_13 1).bind fun fit_17 => (if (!fit_17) then (some (.ret (some false))) else (some (.nxt ())))) else (some (.nxt ()))))) : Option (Stp Unit (Option Bool)))) [n.D, n.E, n.A, n.B] ()).bind (oc F))) = if u5 (fun i p => chk g ([45, 45, 112, 110].getD i 0) p) 0 [n.D, n.E, n.A, n.B] = true then F () else some false := by
 have e : d8 n.Op = some (ByteArray.mk #[45, 45, 112, 110]) := by rw [h]; rfl
 rw [e]
 exact x6 g (ByteArray.mk #[45, 45, 112, 110]) [45, 45, 112, 110] rfl (fun i hi => by match i, hi with | 0, _ => rfl | 1, _ => rfl | 2, _ => rfl | 3, _ => rfl) [n.D, n.E, n.A, n.B] rfl F
theorem c1f (g : b5) (n : g6) (h : n.Op = 9) (F : Unit -> Option Bool) : ((d8 n.Op).bind fun wan_10 => ((rng (fun (i_12 : Nat) (p_13 : Int) (s_11 : Unit) => (((a6y wan_10 (i_12 : Int)).bind fun b_15 => (if (b_15 == 110) then ((c9 g false p_13 0).bind fun fit_16 => (if (!fit_16) then (some (.ret (some false))) else (some (.nxt ())))) else (if (b_15 == 112) then ((c9 g false p_13 1).bind fun fit_17 => (if (!fit_17) then (some (.ret (some false))) else (some (.nxt ())))) else (some (.nxt ()))))) : Option (Stp Unit (Option Bool)))) [n.D, n.E, n.A, n.B] ()).bind (oc F))) = if u5 (fun i p => chk g ([45, 45, 110, 45].getD i 0) p) 0 [n.D, n.E, n.A, n.B] = true then F () else some false := by
 have e : d8 n.Op = some (ByteArray.mk #[45, 45, 110, 45]) := by rw [h]; rfl
 rw [e]
 exact x6 g (ByteArray.mk #[45, 45, 110, 45]) [45, 45, 110, 45] rfl (fun i hi => by match i, hi with | 0, _ => rfl | 1, _ => rfl | 2, _ => rfl | 3, _ => rfl) [n.D, n.E, n.A, n.B] rfl F
theorem b8N (g : b5) (n : g6) (h : n.Op = 10) (F : Unit -> Option Bool) : ((d8 n.Op).bind fun wan_10 => ((rng (fun (i_12 : Nat) (p_13 : Int) (s_11 : Unit) => (((a6y wan_10 (i_12 : Int)).bind fun b_15 => (if (b_15 == 110) then ((c9 g false p_13 0).bind fun fit_16 => (if (!fit_16) then (some (.ret (some false))) else (some (.nxt ())))) else (if (b_15 == 112) then ((c9 g false p_13 1).bind fun fit_17 => (if (!fit_17) then (some (.ret (some false))) else (some (.nxt ())))) else (some (.nxt ()))))) : Option (Stp Unit (Option Bool)))) [n.D, n.E, n.A, n.B] ()).bind (oc F))) = if u5 (fun i p => chk g ([45, 45, 45, 45].getD i 0) p) 0 [n.D, n.E, n.A, n.B] = true then F () else some false := by
 have e : d8 n.Op = some (ByteArray.mk #[45, 45, 45, 45]) := by rw [h]; rfl
 rw [e]
 exact x6 g (ByteArray.mk #[45, 45, 45, 45]) [45, 45, 45, 45] rfl (fun i hi => by match i, hi with | 0, _ => rfl | 1, _ => rfl | 2, _ => rfl | 3, _ => rfl) [n.D, n.E, n.A, n.B] rfl F
theorem b8O (g : b5) (n : g6) (h : n.Op = 11) (F : Unit -> Option Bool) : ((d8 n.Op).bind fun wan_10 => ((rng (fun (i_12 : Nat) (p_13 : Int) (s_11 : Unit) => (((a6y wan_10 (i_12 : Int)).bind fun b_15 => (if (b_15 == 110) then ((c9 g false p_13 0).bind fun fit_16 => (if (!fit_16) then (some (.ret (some false))) else (some (.nxt ())))) else (if (b_15 == 112) then ((c9 g false p_13 1).bind fun fit_17 => (if (!fit_17) then (some (.ret (some false))) else (some (.nxt ())))) else (some (.nxt ()))))) : Option (Stp Unit (Option Bool)))) [n.D, n.E, n.A, n.B] ()).bind (oc F))) = if u5 (fun i p => chk g ([45, 45, 45, 45].getD i 0) p) 0 [n.D, n.E, n.A, n.B] = true then F () else some false := by
 have e : d8 n.Op = some (ByteArray.mk #[45, 45, 45, 45]) := by rw [h]; rfl
 rw [e]
 exact x6 g (ByteArray.mk #[45, 45, 45, 45]) [45, 45, 45, 45] rfl (fun i hi => by match i, hi with | 0, _ => rfl | 1, _ => rfl | 2, _ => rfl | 3, _ => rfl) [n.D, n.E, n.A, n.B] rfl F
theorem b8P (g : b5) (n : g6) (h : n.Op = 12) (F : Unit -> Option Bool) : ((d8 n.Op).bind fun wan_10 => ((rng (fun (i_12 : Nat) (p_13 : Int) (s_11 : Unit) => (((a6y wan_10 (i_12 : Int)).bind fun b_15 => (if (b_15 == 110) then ((c9 g false p_13 0).bind fun fit_16 => (if (!fit_16) then (some (.ret (some false))) else (some (.nxt ())))) else (if (b_15 == 112) then ((c9 g false p_13 1).bind fun fit_17 => (if (!fit_17) then (some (.ret (some false))) else (some (.nxt ())))) else (some (.nxt ()))))) : Option (Stp Unit (Option Bool)))) [n.D, n.E, n.A, n.B] ()).bind (oc F))) = if u5 (fun i p => chk g ([45, 45, 45, 45].getD i 0) p) 0 [n.D, n.E, n.A, n.B] = true then F () else some false := by
 have e : d8 n.Op = some (ByteArray.mk #[45, 45, 45, 45]) := by rw [h]; rfl
 rw [e]
 exact x6 g (ByteArray.mk #[45, 45, 45, 45]) [45, 45, 45, 45] rfl (fun i hi => by match i, hi with | 0, _ => rfl | 1, _ => rfl | 2, _ => rfl | 3, _ => rfl) [n.D, n.E, n.A, n.B] rfl F
theorem b8Q (g : b5) (n : g6) (h : n.Op = 13) (F : Unit -> Option Bool) : ((d8 n.Op).bind fun wan_10 => ((rng (fun (i_12 : Nat) (p_13 : Int) (s_11 : Unit) => (((a6y wan_10 (i_12 : Int)).bind fun b_15 => (if (b_15 == 110) then ((c9 g false p_13 0).bind fun fit_16 => (if (!fit_16) then (some (.ret (some false))) else (some (.nxt ())))) else (if (b_15 == 112) then ((c9 g false p_13 1).bind fun fit_17 => (if (!fit_17) then (some (.ret (some false))) else (some (.nxt ())))) else (some (.nxt ()))))) : Option (Stp Unit (Option Bool)))) [n.D, n.E, n.A, n.B] ()).bind (oc F))) = if u5 (fun i p => chk g ([45, 45, 45, 45].getD i 0) p) 0 [n.D, n.E, n.A, n.B] = true then F () else some false := by
 have e : d8 n.Op = some (ByteArray.mk #[45, 45, 45, 45]) := by rw [h]; rfl
 rw [e]
 exact x6 g (ByteArray.mk #[45, 45, 45, 45]) [45, 45, 45, 45] rfl (fun i hi => by match i, hi with | 0, _ => rfl | 1, _ => rfl | 2, _ => rfl | 3, _ => rfl) [n.D, n.E, n.A, n.B] rfl F
theorem b8R (g : b5) (n : g6) (h : n.Op = 14) (F : Unit -> Option Bool) : ((d8 n.Op).bind fun wan_10 => ((rng (fun (i_12 : Nat) (p_13 : Int) (s_11 : Unit) => (((a6y wan_10 (i_12 : Int)).bind fun b_15 => (if (b_15 == 110) then ((c9 g false p_13 0).bind fun fit_16 => (if (!fit_16) then (some (.ret (some false))) else (some (.nxt ())))) else (if (b_15 == 112) then ((c9 g false p_13 1).bind fun fit_17 => (if (!fit_17) then (some (.ret (some false))) else (some (.nxt ())))) else (some (.nxt ()))))) : Option (Stp Unit (Option Bool)))) [n.D, n.E, n.A, n.B] ()).bind (oc F))) = if u5 (fun i p => chk g ([45, 45, 110, 45].getD i 0) p) 0 [n.D, n.E, n.A, n.B] = true then F () else some false := by
 have e : d8 n.Op = some (ByteArray.mk #[45, 45, 110, 45]) := by rw [h]; rfl
 rw [e]
 exact x6 g (ByteArray.mk #[45, 45, 110, 45]) [45, 45, 110, 45] rfl (fun i hi => by match i, hi with | 0, _ => rfl | 1, _ => rfl | 2, _ => rfl | 3, _ => rfl) [n.D, n.E, n.A, n.B] rfl F
theorem b8S (g : b5) (n : g6) (h : n.Op = 15) (F : Unit -> Option Bool) : ((d8 n.Op).bind fun wan_10 => ((rng (fun (i_12 : Nat) (p_13 : Int) (s_11 : Unit) => (((a6y wan_10 (i_12 : Int)).bind fun b_15 => (if (b_15 == 110) then ((c9 g false p_13 0).bind fun fit_16 => (if (!fit_16) then (some (.ret (some false))) else (some (.nxt ())))) else (if (b_15 == 112) then ((c9 g false p_13 1).bind fun fit_17 => (if (!fit_17) then (some (.ret (some false))) else (some (.nxt ())))) else (some (.nxt ()))))) : Option (Stp Unit (Option Bool)))) [n.D, n.E, n.A, n.B] ()).bind (oc F))) = if u5 (fun i p => chk g ([110, 110, 45, 45].getD i 0) p) 0 [n.D, n.E, n.A, n.B] = true then F () else some false := by
 have e : d8 n.Op = some (ByteArray.mk #[110, 110, 45, 45]) := by rw [h]; rfl
 rw [e]
 exact x6 g (ByteArray.mk #[110, 110, 45, 45]) [110, 110, 45, 45] rfl (fun i hi => by match i, hi with | 0, _ => rfl | 1, _ => rfl | 2, _ => rfl | 3, _ => rfl) [n.D, n.E, n.A, n.B] rfl F
theorem b8T (g : b5) (n : g6) (h : n.Op = 16) (F : Unit -> Option Bool) : ((d8 n.Op).bind fun wan_10 => ((rng (fun (i_12 : Nat) (p_13 : Int) (s_11 : Unit) => (((a6y wan_10 (i_12 : Int)).bind fun b_15 => (if (b_15 == 110) then ((c9 g false p_13 0).bind fun fit_16 => (if (!fit_16) then (some (.ret (some false))) else (some (.nxt ())))) else (if (b_15 == 112) then ((c9 g false p_13 1).bind fun fit_17 => (if (!fit_17) then (some (.ret (some false))) else (some (.nxt ())))) else (some (.nxt ()))))) : Option (Stp Unit (Option Bool)))) [n.D, n.E, n.A, n.B] ()).bind (oc F))) = if u5 (fun i p => chk g ([110, 45, 45, 45].getD i 0) p) 0 [n.D, n.E, n.A, n.B] = true then F () else some false := by
 have e : d8 n.Op = some (ByteArray.mk #[110, 45, 45, 45]) := by rw [h]; rfl
 rw [e]
 exact x6 g (ByteArray.mk #[110, 45, 45, 45]) [110, 45, 45, 45] rfl (fun i hi => by match i, hi with | 0, _ => rfl | 1, _ => rfl | 2, _ => rfl | 3, _ => rfl) [n.D, n.E, n.A, n.B] rfl F
theorem b8U (g : b5) (n : g6) (h : n.Op = 17) (F : Unit -> Option Bool) : ((d8 n.Op).bind fun wan_10 => ((rng (fun (i_12 : Nat) (p_13 : Int) (s_11 : Unit) => (((a6y wan_10 (i_12 : Int)).bind fun b_15 => (if (b_15 == 110) then ((c9 g false p_13 0).bind fun fit_16 => (if (!fit_16) then (some (.ret (some false))) else (some (.nxt ())))) else (if (b_15 == 112) then ((c9 g false p_13 1).bind fun fit_17 => (if (!fit_17) then (some (.ret (some false))) else (some (.nxt ())))) else (some (.nxt ()))))) : Option (Stp Unit (Option Bool)))) [n.D, n.E, n.A, n.B] ()).bind (oc F))) = if u5 (fun i p => chk g ([45, 45, 110, 45].getD i 0) p) 0 [n.D, n.E, n.A, n.B] = true then F () else some false := by
 have e : d8 n.Op = some (ByteArray.mk #[45, 45, 110, 45]) := by rw [h]; rfl
 rw [e]
 exact x6 g (ByteArray.mk #[45, 45, 110, 45]) [45, 45, 110, 45] rfl (fun i hi => by match i, hi with | 0, _ => rfl | 1, _ => rfl | 2, _ => rfl | 3, _ => rfl) [n.D, n.E, n.A, n.B] rfl F
theorem b8V (g : b5) (n : g6) (h : n.Op = 18) (F : Unit -> Option Bool) : ((d8 n.Op).bind fun wan_10 => ((rng (fun (i_12 : Nat) (p_13 : Int) (s_11 : Unit) => (((a6y wan_10 (i_12 : Int)).bind fun b_15 => (if (b_15 == 110) then ((c9 g false p_13 0).bind fun fit_16 => (if (!fit_16) then (some (.ret (some false))) else (some (.nxt ())))) else (if (b_15 == 112) then ((c9 g false p_13 1).bind fun fit_17 => (if (!fit_17) then (some (.ret (some false))) else (some (.nxt ())))) else (some (.nxt ()))))) : Option (Stp Unit (Option Bool)))) [n.D, n.E, n.A, n.B] ()).bind (oc F))) = if u5 (fun i p => chk g ([45, 45, 110, 45].getD i 0) p) 0 [n.D, n.E, n.A, n.B] = true then F () else some false := by
 have e : d8 n.Op = some (ByteArray.mk #[45, 45, 110, 45]) := by rw [h]; rfl
 rw [e]
 exact x6 g (ByteArray.mk #[45, 45, 110, 45]) [45, 45, 110, 45] rfl (fun i hi => by match i, hi with | 0, _ => rfl | 1, _ => rfl | 2, _ => rfl | 3, _ => rfl) [n.D, n.E, n.A, n.B] rfl F
theorem b6F (all : List b5) (g : b5) (n : g6) (hp : ∀ f ∈ all, a6n f /\ f.Params.length <= 4) : a0g all g false n = some (a3i all g n) := by
 unfold a0g a3i
 simp only [jp]
 by_cases o1 : n.Op < 1
 ·simp [o1, b4X (.inl o1)]
 by_cases o2 : n.Op > 18
 ·simp [o1, o2, b4X (.inr o2)]
 simp only [o1, o2, decide_false, Bool.false_eq_true, if_false, a6G, Option.bind_some]
 refine (a0y (xs := a2s n) () (fun _ to => decide (0 <= to /\ to < g.Nodes.length)) false (by have := a2t n; omega) (fun i to hx => ?_)).trans ?_
 ·by_cases q1 : 0 <= to
  case neg =>
   have q1' : to < 0 := by omega
   simp [q1, q1']
  have q1' : ¬ (to < 0) := by omega
  by_cases q2 : to < (g.Nodes.length : Int)
  case neg =>
   have q2' : to >= (g.Nodes.length : Int) := by omega
   simp [q1', q2, q2']
  have q2' : ¬ (to >= (g.Nodes.length : Int)) := by omega
  simp [q1, q1', q2, q2']
 rw [a2u]
 cases (a2s n).all fun to => decide (0 <= to /\ to < g.Nodes.length) with
 | false => simp
 | true =>
 simp only [if_true, Bool.true_and]
 have hop : n.Op = 1 \/ n.Op = 2 \/ n.Op = 3 \/ n.Op = 4 \/ n.Op = 5 \/ n.Op = 6 \/ n.Op = 7 \/ n.Op = 8 \/ n.Op = 9 \/ n.Op = 10 \/ n.Op = 11 \/ n.Op = 12 \/ n.Op = 13 \/ n.Op = 14 \/ n.Op = 15 \/ n.Op = 16 \/ n.Op = 17 \/ n.Op = 18 := by omega
 rcases hop with h | h | h | h | h | h | h | h | h | h | h | h | h | h | h | h | h | h
 ·refine (c0X g n h _).trans ?_
  cases a0 : a1Q g 0 n.D <;> simp [u5, chk, opB, isB, h, a0, a1m]
 ·refine (c0Y g n h _).trans ?_
  cases a0 : a1Q g 0 n.D <;> cases a1 : a1Q g 0 n.A <;> cases a2 : a1Q g 1 n.D <;> cases a3 : a1Q g 1 n.A <;> simp [u5, chk, opB, isB, h, a0, a1, a2, a3, a1m]
 ·refine (c0Z g n h _).trans ?_
  cases a0 : a1Q g 0 n.D <;> cases a1 : a1Q g 0 n.A <;> cases a2 : a1Q g 0 n.B <;> by_cases q1 : n.By >= 7 <;> by_cases q2 : n.By <= 20 <;> simp [u5, chk, opB, isB, h, a0, a1, a2, q1, q2] <;> omega
 ·refine (c1a g n h _).trans ?_
  cases a0 : a1Q g 0 n.D <;> by_cases q1 : n.Cell >= 0 <;> by_cases q2 : n.Cell < g.Cells <;> simp [u5, chk, opB, isB, a1F, h, a0, q1, q2] <;> omega
 ·refine (c1b g n h _).trans ?_
  cases a0 : a1Q g 0 n.A <;> by_cases q1 : n.Cell >= 0 <;> by_cases q2 : n.Cell < g.Cells <;> simp [u5, chk, opB, isB, a1F, h, a0, q1, q2] <;> omega
 ·refine (c1c g n h _).trans ?_
  cases a0 : a1Q g 1 n.D <;> by_cases q1 : n.Cell >= 0 <;> by_cases q2 : n.Cell < g.Cells <;> simp [u5, chk, opB, isB, a1F, h, a0, q1, q2] <;> omega
 ·refine (c1d g n h _).trans ?_
  cases a0 : a1Q g 0 n.D <;> cases a1 : a1Q g 1 n.A <;> simp [u5, chk, opB, isB, h, a0, a1, a1m]
 ·refine (c1e g n h _).trans ?_
  cases a0 : a1Q g 1 n.A <;> cases a1 : a1Q g 0 n.B <;> simp [u5, chk, opB, isB, h, a0, a1, a1m]
 ·refine (c1f g n h _).trans ?_
  cases a0 : a1Q g 0 n.A <;> simp [u5, chk, opB, isB, h, a0, a1m]
 ·refine (b8N g n h _).trans ?_
  simp [u5, chk, opB, isB, h, a1m]
 ·refine (b8O g n h _).trans ?_
  have hc : u5 (fun i p => chk g ([45, 45, 45, 45].getD i 0) p) 0 [n.D, n.E, n.A, n.B] = true := by simp [u5, chk]
  rw [if_pos hc]
  by_cases h1 : n.F < 0
  ·have e : o6 all n.F = none := by unfold o6; rw [if_neg zO]
   have ho : opB all g n = false := by simp [opB, b2h, h, e]
   rw [ho]; simp [h, h1]
  obtain ⟨F, hF⟩ : ∃ i : Nat, n.F = (i : Int) := ⟨n.F.toNat, by omega⟩
  by_cases h2 : F < all.length
  case neg =>
   have h2' : n.F >= (all.length : Int) := by omega
   have e : o6 all n.F = none := by rw [hF, n8]; exact List.getElem?_eq_none zO
   have ho : opB all g n = false := by simp [opB, b2h, h, e]
   rw [ho]; simp [h, h1, h2']
  have h2' : ¬ (n.F >= (all.length : Int)) := by omega
  have e : o6 all n.F = some all[F] := by rw [hF, n8]; exact List.getElem?_eq_getElem h2
  obtain ⟨hpF, hp4⟩ := hp _ (List.getElem_mem h2)
  generalize all[F] = f at hpF hp4 e
  have ho : opB all g n = ((decide (n.Args.length = f.Params.length) && u5 (b4M g f) 0 n.Args) && (decide (n.D = -1) || (a1Q g 0 n.D && f.Result))) := by simp [opB, b2h, h, e, isB]
  rw [ho]
  by_cases h3 : n.Args.length = f.Params.length
  case neg =>
   have h3' : ((n.Args.length : Int) != (f.Params.length : Int)) = true := by simp; omega
   simp [h, h1, h2', e, h3, h3']
   intro hh; exact absurd zO h3
  have h3' : ((n.Args.length : Int) != (f.Params.length : Int)) = false := by simp [h3]
  simp [h, h1, h2', e, h3', h3, a1m]
  refine (a8t g f n.Args hpF h3 hp4 _).trans ?_
  cases ha : u5 (b4M g f) 0 n.Args with
  | false => simp
  | true =>
    cases a0 : a1Q g 0 n.D <;> by_cases q : n.D = -1 <;> cases r : f.Result <;> simp [q, a0, r]
 ·refine (b8P g n h _).trans ?_
  simp only [u5, chk, h, a1m]
  cases a0 : a1Q g 0 n.A <;> by_cases q : n.A = -1 <;> cases r : g.Result <;> simp [opB, isB, h, a0, q, r]
 ·refine (b8Q g n h _).trans ?_
  have hc : u5 (fun i p => chk g ([45, 45, 45, 45].getD i 0) p) 0 [n.D, n.E, n.A, n.B] = true := by simp [u5, chk]
  rw [if_pos hc]
  by_cases h1 : n.F < 0
  ·have e : o6 all n.F = none := by unfold o6; rw [if_neg zO]
   have ho : opB all g n = false := by simp [opB, b2h, h, e]
   rw [ho]; simp [h, h1]
  obtain ⟨F, hF⟩ : ∃ i : Nat, n.F = (i : Int) := ⟨n.F.toNat, by omega⟩
  by_cases h2 : F < all.length
  case neg =>
   have h2' : n.F >= (all.length : Int) := by omega
   have e : o6 all n.F = none := by rw [hF, n8]; exact List.getElem?_eq_none zO
   have ho : opB all g n = false := by simp [opB, b2h, h, e]
   rw [ho]; simp [h, h1, h2']
  have h2' : ¬ (n.F >= (all.length : Int)) := by omega
  have e : o6 all n.F = some all[F] := by rw [hF, n8]; exact List.getElem?_eq_getElem h2
  obtain ⟨hpF, hp4⟩ := hp _ (List.getElem_mem h2)
  generalize all[F] = f at hpF hp4 e
  have ho : opB all g n = (decide (n.Args.length = f.Params.length) && u5 (b4M g f) 0 n.Args) := by simp [opB, b2h, h, e, isB]
  rw [ho]
  by_cases h3 : n.Args.length = f.Params.length
  case neg =>
   have h3' : ((n.Args.length : Int) != (f.Params.length : Int)) = true := by simp; omega
   simp [h, h1, h2', e, h3, h3']
   intro hh; exact absurd zO h3
  have h3' : ((n.Args.length : Int) != (f.Params.length : Int)) = false := by simp [h3]
  simp [h, h1, h2', e, h3', h3, a1m]
  refine (a8t g f n.Args hpF h3 hp4 _).trans ?_
  cases ha : u5 (b4M g f) 0 n.Args with
  | false => simp
  | true =>
    cases a0 : a1Q g 0 n.D <;> by_cases q : n.D = -1 <;> cases r : f.Result <;> simp [q, a0, r]
 ·refine (b8R g n h _).trans ?_
  cases a0 : a1Q g 0 n.A <;> simp [u5, chk, opB, isB, h, a0, a1m]
 ·refine (b8S g n h _).trans ?_
  cases a0 : a1Q g 0 n.D <;> cases a1 : a1Q g 0 n.E <;> by_cases q : n.D = n.E <;> simp [u5, chk, opB, isB, h, a0, a1, q]
 ·refine (b8T g n h _).trans ?_
  cases a0 : a1Q g 0 n.D <;> simp [u5, chk, opB, isB, h, a0, a1m]
 ·refine (b8U g n h _).trans ?_
  cases a0 : a1Q g 0 n.A <;> simp [u5, chk, opB, isB, h, a0, a1m]
 ·refine (b8V g n h _).trans ?_
  cases a0 : a1Q g 0 n.A <;> simp [u5, chk, opB, isB, h, a0, a1m]
theorem b6G (G : f7) : y8 G false = some (a1h G) := by
 unfold y8 a1h
 simp only [jp]
 by_cases h1 : 1 <= G.Funcs.length
 case neg =>
  have h1' : (G.Funcs.length : Int) < 1 := by omega
  simp [h1, h1']
 have h1' : ¬ (G.Funcs.length : Int) < 1 := by omega
 by_cases h2 : G.Funcs.length <= 16
 case neg =>
  have h2' : (G.Funcs.length : Int) > 16 := by omega
  simp [h1', h2, h2']
 have h2' : ¬ (G.Funcs.length : Int) > 16 := by omega
 obtain ⟨f0, hf0⟩ : ∃ f, G.Funcs[0]? = some f := ⟨_, List.getElem?_eq_getElem (show 0 < G.Funcs.length by omega)⟩
 have hg0 : o6 G.Funcs 0 = some f0 := by
  have := n8 (l := G.Funcs) (i := 0)
  rw [hf0] at this; exact this
 have hm : b4N G = (decide (f0.Params.length = 0) && !f0.Result) := by unfold b4N; rw [hf0]
 simp only [h1', h2', decide_false, Bool.false_eq_true, if_false, hg0, Option.bind_some, h1, h2, and_self, decide_true, Bool.true_and, hm]
 by_cases h3 : f0.Params.length = 0
 case neg =>
  have h3' : ((f0.Params.length : Int) != 0) = true := by simp; intro e; exact h3 (by simp [e])
  simp [h3, h3']
 have h3' : ((f0.Params.length : Int) != 0) = false := by simp [h3]
 simp only [h3', Bool.false_eq_true, if_false, h3, decide_true, Bool.true_and]
 cases h4 : f0.Result with
 | true => simp
 | false =>
 simp only [Bool.false_eq_true, if_false, Bool.not_false, Bool.true_and]
 refine (a0y (xs := G.Funcs) () (fun _ f => a3L f) false zO (fun i f hx => ?_)).trans ?_
 ·simp only [b6E, Option.bind_some]
  cases a3L f <;> simp
 rw [a1N]
 cases h5 : G.Funcs.all a3L with
 | false => simp
 | true =>
 simp only [if_true, Bool.true_and]
 have hh : ∀ f ∈ G.Funcs, a3L f = true := List.all_eq_true.1 h5
 have hp : ∀ f ∈ G.Funcs, a6n f /\ f.Params.length <= 4 := fun f hf => ⟨(a0d (hh f hf)).2.2.1, (a0d (hh f hf)).2.1⟩
 refine (a0y (xs := G.Funcs) () (fun _ f => f.Nodes.all (a3i G.Funcs f)) false zO (fun i f hx => ?_)).trans ?_
 ·have hn := a0d (hh f (List.mem_of_getElem? hx))
  refine (a0y () (fun _ n => a3i G.Funcs f n) (Stp.ret (some false)) zO (fun j n hy => ?_)).trans ?_
  ·simp only [b6F _ _ _ hp, Option.bind_some]
   cases a3i G.Funcs f n <;> simp
  ·rw [a1N]
   cases f.Nodes.all (a3i G.Funcs f) <;> simp
 ·rw [a1N]
  cases (G.Funcs.all fun f => f.Nodes.all (a3i G.Funcs f)) <;> simp
theorem b8W (l : List Int) (v : Int) (hl : l.length <= 4611686018427387904) : w7 l v = some (decide (v ∈ l)) := by
 unfold w7
 refine (a7y (xs := l) v (fun _ x => !(x == v)) true hl (fun i x hx => ?_)).trans ?_
 ·simp only [n8, hx, Option.bind_some]
  cases x == v <;> simp
 ·rw [a2u]
  by_cases h : v ∈ l
  ·have : (l.all fun x => !(x == v)) = false := by
    rw [List.all_eq_false]; exact ⟨v, h, by simp⟩
   rw [this]; simp [h]
  ·have : (l.all fun x => !(x == v)) = true := by
    rw [List.all_eq_true]; intro x hx
    have : x ≠ v := fun e => h (e ▸ hx)
    simpa using this
   rw [this]; simp [h]
theorem b2k (l : List Int) (hl : l.length <= 10000000) : ∃ r, l0 l = some r /\ r.length <= l.length /\ ∀ x, x ∈ r ↔ (x ∈ l /\ 0 <= x) := by
 unfold l0
 have := a1j (xs := l) (s0 := (l, ([] : List Int))) (body := (fun (i_2 : Nat) (n_3 : Int) (s_1 : ((List Int) × (List Int))) => (((o6 s_1.1 (i_2 : Int)).bind fun y_5 => (jp (fun (s_7 : Bool) => (if s_7 then ((a4R 8 s_1.2 [y_5]).bind fun l_9 => (some (.nxt (s_1.1, l_9)))) else (some (.nxt (s_1.1, s_1.2))))) (fun k_6 => (if (decide (y_5 >= 0)) then ((w7 s_1.2 y_5).bind fun (vin_8 : Bool) => (k_6 (!vin_8))) else (k_6 false))))) : Option (Stp ((List Int) × (List Int)) (Option (List Int)))))) (fun _ => true) none
  (fun k s => s.1 = l /\ s.2.length <= k /\ ∀ x, x ∈ s.2 ↔ (x ∈ l.take k /\ 0 <= x)) zO ⟨rfl, by simp, by simp⟩ (fun k x s hx hr => by
   obtain ⟨sl, r⟩ := s
   obtain ⟨h0, h1, h2⟩ := hr
   simp only at h0 h1 h2
   subst h0
   have hk : k < sl.length := (List.getElem?_eq_some_iff.1 hx).1
   have ht : sl.take (k + 1) = sl.take k ++ [x] := by rw [List.take_add_one, hx]; rfl
   simp only [if_true, jp, decide_eq_true_eq, n8, hx, Option.bind_some]
   by_cases h0 : x >= 0
   ·rw [if_pos h0, b8W _ _ zO]
    simp only [Option.bind_some]
    by_cases hm : x ∈ r
    ·refine ⟨(sl, r), by simp [hm], rfl, by simp only; omega, fun y => ?_⟩
     simp only
     rw [h2, ht]
     simp only [List.mem_append, List.mem_singleton]
     constructor
     ·rintro ⟨a, b⟩; exact ⟨.inl a, b⟩
     ·rintro ⟨a | a, b⟩
      ·exact ⟨a, b⟩
      ·subst a; exact (h2 y).1 hm
    ·refine ⟨(sl, r ++ [x]), ?_, rfl, by simp; omega, fun y => ?_⟩
     ·simp only [hm, decide_false, Bool.not_false, if_true]
      rw [a1L zE]; rfl
     ·simp only
      rw [ht]
      simp only [List.mem_append, List.mem_singleton, h2]
      constructor
      ·rintro (⟨a, b⟩ | a)
       ·exact ⟨.inl a, b⟩
       ·subst a; exact ⟨.inr rfl, h0⟩
      ·rintro ⟨a | a, b⟩
       ·exact .inl ⟨a, b⟩
       ·exact .inr a
   ·refine ⟨(sl, r), by rw [if_neg h0]; simp, rfl, by simp only; omega, fun y => ?_⟩
    simp only
    rw [h2, ht]
    simp only [List.mem_append, List.mem_singleton]
    constructor
    ·rintro ⟨a, b⟩; exact ⟨.inl a, b⟩
    ·rintro ⟨a | a, b⟩
     ·exact ⟨a, b⟩
     ·subst a; exact (h0 b).elim)
 rw [if_pos zS] at this
 obtain ⟨s, e1, e0, e2, e3⟩ := this
 rw [e1]
 exact ⟨s.2, rfl, e2, fun x => by rw [e3, List.take_length]⟩
theorem b4Y (n : g6) (hl : (b2d n).length <= 10000000) : ∃ r, y9 n = some r /\ r.length <= 10000000 /\ ∀ x, x ∈ r ↔ (x ∈ b2d n /\ 0 <= x) := by
 obtain ⟨r, h1, h0, h2⟩ := b2k (b2d n) hl
 refine ⟨r, ?_, by omega, h2⟩
 rw [<- h1]
 have e0 : l0 [] = some [] := by
  obtain ⟨r, a, _, b⟩ := b2k [] zS
  rw [a]
  cases r with
  | nil => rfl
  | cons x l => have := (b x).1 zS; simp at this
 unfold y9 b2d
 simp only [jp, beq_iff_eq]
 have bs : ∀ o : Option (List Int), (o.bind fun x => some x) = o := fun o => by cases o <;> rfl
 simp only [bs]
 by_cases h2 : n.Op = 2
 ·simp [h2]
 by_cases h5 : n.Op = 5
 ·simp [h5]
 by_cases h7 : n.Op = 7
 ·simp [h7]
 by_cases h9 : n.Op = 9
 ·simp [h9]
 by_cases h12 : n.Op = 12
 ·simp [h12]
 by_cases h14 : n.Op = 14
 ·simp [h14]
 by_cases h17 : n.Op = 17
 ·simp [h17]
 by_cases h18 : n.Op = 18
 ·simp [h18]
 by_cases h3 : n.Op = 3
 ·simp [h3]
 by_cases h8 : n.Op = 8
 ·simp [h8]
 by_cases h11 : n.Op = 11
 ·simp [h11]
 by_cases h13 : n.Op = 13
 ·simp [h13]
 simp [h2, h5, h7, h9, h12, h14, h17, h18, h3, h8, h11, h13, e0]
theorem a4z (n : g6) : ∃ r, l9 n = some r /\ r.length <= 10000000 /\ ∀ x, x ∈ r ↔ (x ∈ b0B n /\ 0 <= x) := by
 obtain ⟨r, h1, h0, h2⟩ := b2k (b0B n) (by have := a6B n; omega)
 refine ⟨r, ?_, by have := a6B n; omega, h2⟩
 rw [<- h1]
 have e0 : l0 [] = some [] := by
  obtain ⟨r, a, _, b⟩ := b2k [] zS
  rw [a]
  cases r with
  | nil => rfl
  | cons x l => have := (b x).1 zS; simp at this
 unfold l9 b0B
 simp only [jp, beq_iff_eq]
 have bs : ∀ o : Option (List Int), (o.bind fun x => some x) = o := fun o => by cases o <;> rfl
 simp only [bs]
 by_cases h1 : n.Op = 1
 ·simp [h1]
 by_cases h2 : n.Op = 2
 ·simp [h2]
 by_cases h3 : n.Op = 3
 ·simp [h3]
 by_cases h4 : n.Op = 4
 ·simp [h4]
 by_cases h6 : n.Op = 6
 ·simp [h6]
 by_cases h7 : n.Op = 7
 ·simp [h7]
 by_cases h11 : n.Op = 11
 ·simp [h11]
 by_cases h16 : n.Op = 16
 ·simp [h16]
 by_cases h15 : n.Op = 15
 ·simp [h15]
 simp [h1, h2, h3, h4, h6, h7, h11, h16, h15, e0]
abbrev Rw := List (List Bool)
variable {N K : Nat} {s : List (List Bool)}
abbrev RL := List (List Int)
abbrev T4 := Rw × Bool
abbrev T3 := Int × Rw × Bool
abbrev B3 := Stp T4 (Option RL)
abbrev B2 := Stp T3 (Option B3)
abbrev B1 := Stp T4 (Option B2)
def Shp (N K : Nat) (s : Rw) : Prop := s.length = N /\ ∀ r ∈ s, r.length = K
instance : Decidable (Shp N K s) := by unfold Shp; infer_instance
def a8u (K : Nat) (i : Nat) (s : Rw) : Option (Stp Rw (Option RL)) := gd (Shp i K s) ((mkL 1 (K : Int) (K : Int) false).bind fun w => some (.nxt (s ++ [w])))
def b2U (rows : Rw) (w : List Int) (p : Int) (_ : Nat) (to : Int) (is : Bool) : Option (Stp Bool (Option B1)) :=
 if is = true then some (.nxt true) else (o6 rows to).bind fun r => (o6 r p).bind fun b => if b = true then (j8 w p).bind fun x => some (.nxt (!x)) else some (.nxt false)
def b8X (g : b5) (i : Int) (n : g6) (w : List Int) (p : Nat) (s : T4) : Option (Stp T4 (Option B2)) :=
 gd (Shp g.Nodes.length g.Kinds.length s.1) ((y9 n).bind fun rd => (j8 rd (p : Int)).bind fun is0 => (o9 n).bind fun nx =>
 (rng (b2U s.1 w (p : Int)) nx is0).bind (oc fun is => if is = true then (o6 s.1 i).bind fun r => (o6 r (p : Int)).bind fun b => (if (!b) = true then some (.nxt (s.1.set i.toNat (r.set p true), true)) else some (.nxt s)) else some (.nxt s)))
def b9F (g : b5) (q : T3) : Option (Stp T3 (Option B3)) :=
 gd (Shp g.Nodes.length g.Kinds.length q.2.1) (if (decide (q.1 >= 0)) = true then (o6 g.Nodes q.1).bind fun n => (l9 n).bind fun w => (rni (b8X g q.1 n w) (List.length g.Kinds : Int) q.2).bind (oc fun s => gd (Shp g.Nodes.length g.Kinds.length s.1) (some (.nxt (I64 (q.1 - 1), s)))) else some (.brk q))
def a4Y (fuel : Nat) (g : b5) (s : T4) : Option (Stp T4 (Option RL)) :=
 gd (Shp g.Nodes.length g.Kinds.length s.1) (if s.2 = true then (whileN (b9F g) fuel (I64 ((List.length g.Nodes : Int) - 1), s.1, false)).bind (oc fun q => gd (Shp g.Nodes.length g.Kinds.length q.2.1) (some (.nxt q.2))) else some (.brk s))
def b9G (p : Nat) (b : Bool) (l : List Int) : Option (Stp (List Int) (Option (Stp RL (Option RL)))) := if b = true then (a4R 8 l [(p : Int)]).bind fun l' => some (.nxt l') else some (.nxt l)
def a7z (rows : Rw) (i : Nat) (o : RL) : Option (Stp RL (Option RL)) := (o6 rows (i : Int)).bind fun r => (rng b9G r []).bind (oc fun l => (a4R 24 o [l]).bind fun o' => some (.nxt o'))
def a0c (fuel : Nat) (g : b5) : Option RL :=
 (mkL 24 (List.length g.Nodes : Int) (List.length g.Nodes : Int) ()).bind fun _ => (rni (a8u g.Kinds.length) (List.length g.Nodes : Int) []).bind (oc fun s => gd (Shp g.Nodes.length g.Kinds.length s) ((whileN (a4Y fuel g) fuel (s, true)).bind (oc fun e =>
 gd (Shp g.Nodes.length g.Kinds.length e.1) ((rni (a7z e.1) (List.length g.Nodes : Int) []).bind (oc fun o => some o)))))
def cl (s : Rw) (i p : Nat) : Bool := (s.getD i []).getD p false
def fls (r : List Bool) : Nat := (r.filter (fun b => !b)).length
def b5A (s : Rw) : Nat := (s.map fls).sum
theorem Shp.row (h : Shp N K s) {i : Nat} (hi : i < N) : ∃ r, s[i]? = some r /\ r.length = K /\ s.getD i [] = r := by
 have hl : i < s.length := by rw [h.1]; exact hi
 exact ⟨s[i], List.getElem?_eq_getElem hl, h.2 _ (List.getElem_mem hl), by simp [List.getD_eq_getElem?_getD, hl]⟩
theorem Shp.at (h : Shp N K s) {i p : Nat} (hi : i < N) (hp : p < K) : ∃ r, o6 s (i : Int) = some r /\ r.length = K /\ o6 r (p : Int) = some (cl s i p) := by
 obtain ⟨r, h1, h2, h3⟩ := h.row hi
 refine ⟨r, by rw [n8]; exact h1, h2, ?_⟩
 have : p < r.length := by omega
 rw [n8, List.getElem?_eq_getElem this]
 unfold cl; rw [h3]; simp [List.getD_eq_getElem?_getD, this]
theorem Shp.set (h : Shp N K s) {i p : Nat} (hi : i < N) {r : List Bool} (hr : s[i]? = some r) : Shp N K (s.set i (r.set p true)) := by
 refine ⟨by rw [List.length_set]; exact h.1, fun x hx => ?_⟩
 rcases List.mem_or_eq_of_mem_set hx with a | a
 ·exact h.2 x a
 ·rw [a, List.length_set]; exact h.2 r (List.mem_of_getElem? hr)
theorem c1g {s : Rw} {i p j k : Nat} {r : List Bool} (hr : s[i]? = some r) (hp : p < r.length) : cl (s.set i (r.set p true)) j k = if j = i /\ k = p then true else cl s j k := by
 have hi : i < s.length := (List.getElem?_eq_some_iff.1 hr).1
 unfold cl
 by_cases e : j = i
 ·subst e
  have e1 : (s.set j (r.set p true)).getD j [] = r.set p true := by simp [List.getD_eq_getElem?_getD, hi]
  have e2 : s.getD j [] = r := by simp [List.getD_eq_getElem?_getD, hr]
  rw [e1, e2]
  by_cases f : k = p
  ·subst f; simp [List.getD_eq_getElem?_getD, hp]
  ·have : ¬ p = k := fun h => f h.symm
   simp [List.getD_eq_getElem?_getD, f, List.getElem?_set, this]
 ·have : ¬ i = j := fun h => e h.symm
  simp [List.getD_eq_getElem?_getD, e, List.getElem?_set, this]
theorem b4Z : ∀ (r : List Bool) (p : Nat), r[p]? = some false -> fls (r.set p true) + 1 = fls r
 | [], p, h => by simp at h
 | b :: r, 0, h => by simp at h; subst h; simp [fls]
 | b :: r, p + 1, h => by
   have := b4Z r p (by simpa using h)
   unfold fls at this ⊢
   cases b <;> simp at this ⊢ <;> omega
theorem b2l : ∀ (s : Rw) (i : Nat) (r r' : List Bool), s[i]? = some r -> fls r' + 1 = fls r -> b5A (s.set i r') + 1 = b5A s
 | [], i, r, r', h, _ => by simp at h
 | x :: s, 0, r, r', h, e => by simp at h; subst h; simp [b5A]; omega
 | x :: s, i + 1, r, r', h, e => by
   have := b2l s i r r' (by simpa using h) e
   simp [b5A] at this ⊢; omega
theorem b8Y (h : Shp N K s) : b5A s <= N * K := by
 obtain ⟨h1, h2⟩ := h
 subst h1
 induction s with
 | nil => simp [b5A]
 | cons x s ih =>
   have hx := h2 x zS
   have := ih (fun r hr => h2 r (by simp [hr]))
   have hf : fls x <= K := by unfold fls; rw [<- hx]; exact List.length_filter_le _ _
   simp only [b5A, List.map_cons, List.sum_cons, List.length_cons] at this ⊢
   rw [Nat.add_mul]; omega
end Go.Proofs.YtepdcebjobjjgaaDoor

/- ref11.In finds the least answer. -/
namespace Go.Proofs.YtepdcebjobjjgaaDoor
open Go Go.Ab
variable {N K : Nat} {s : Rw} {g : b5}
theorem b6H (h : Shp N K s) {p : Nat} (hp : p < K) (w : List Int) (hw : w.length <= 10000000) (nx : List Int) (hl : nx.length <= 2) (hn : ∀ x ∈ nx, 0 <= x /\ x < N) (is0 : Bool) :
  rng (b2U s w (p : Int)) nx is0 = some (.fin (is0 || nx.any fun to => cl s to.toNat p && !decide ((p : Int) ∈ w))) := by
 have := a1j (xs := nx) (s0 := is0) (body := b2U s w (p : Int)) (fun _ => true) none (fun k b => b = (is0 || (nx.take k).any fun to => cl s to.toNat p && !decide ((p : Int) ∈ w))) zO zS (fun k to b hx hb => by
  simp only [if_true]
  have hto := hn to (List.mem_of_getElem? hx)
  obtain ⟨t, rfl⟩ : ∃ t : Nat, to = (t : Int) := ⟨to.toNat, by omega⟩
  rw [a1a hx, List.any_append, List.any_cons, List.any_nil, Bool.or_false, <- Bool.or_assoc, <- hb]
  unfold b2U
  cases b with
  | true => exact ⟨true, by simp, by simp⟩
  | false =>
    obtain ⟨r, h1, h2, h3⟩ := h.at (i := t) zO hp
    simp only [Bool.false_eq_true, if_false, h1, h3, Option.bind_some, a5o w _ zO, Int.toNat_natCast]
    cases cl s t p with
    | true => exact ⟨!decide ((p : Int) ∈ w), by simp, by simp⟩
    | false => exact ⟨false, by simp, by simp⟩)
 rw [if_pos zS] at this
 obtain ⟨s', e1, e2⟩ := this
 rw [e1, e2, List.take_length]
def b9H (g : b5) (s : Rw) (i p : Nat) : Prop := (p : Int) ∈ rdR g i \/ ∃ to : Nat, (to : Int) ∈ nxt g i /\ cl s to p = true /\ (p : Int) ∉ wrR g i
def c1h (g : b5) (s : Rw) : Prop := ∀ i p, i < g.Nodes.length -> p < g.Kinds.length -> cl s i p = true -> Lv g i p
structure Rnd (g : b5) (R0 : Rw) (s : T4) : Prop where
 sh : Shp g.Nodes.length g.Kinds.length s.1
 so : c1h g s.1
 eq : s.2 = false -> s.1 = R0
 lt : s.2 = true -> b5A s.1 < b5A R0
theorem c1i (hg : a1E g) {R0 : Rw} {i : Nat} {n : g6} (hn : g.Nodes[i]? = some n) {w : List Int} (hw : l9 n = some w) {s : T4} (h : Rnd g R0 s) {p : Nat} (hp : p < g.Kinds.length) :
  ∃ s', b8X g (i : Int) n w p s = some (.nxt s') /\ Rnd g R0 s' /\ (s'.2 = false -> s' = s /\ (b9H g s.1 i p -> cl s.1 i p = true)) := by
 have hi : i < g.Nodes.length := (List.getElem?_eq_some_iff.1 hn).1
 have eR : rdR g i = b2d n := by unfold rdR; rw [hn]
 have eW : wrR g i = b0B n := by unfold wrR; rw [hn]
 have eN : nxt g i = a2s n := by unfold nxt; rw [hn]
 obtain ⟨rd, r1, r2, r3⟩ := b4Y n (by rw [<- eR]; have := hg.rd i; omega)
 obtain ⟨w', w1, w2, w3⟩ := a4z n
 rw [hw] at w1; cases w1
 unfold b8X
 rw [a0N h.sh, r1]
 simp only [Option.bind_some, a5o rd _ zO, a6G]
 rw [b6H h.sh hp w w2 (a2s n) (a2t n) (fun x hx => hg.nx i x (by rw [eN]; exact hx))]
 simp only [Option.bind_some, oc]
 have key : (decide ((p : Int) ∈ rd) || (a2s n).any fun to => cl s.1 to.toNat p && !decide ((p : Int) ∈ w)) = true ↔ b9H g s.1 i p := by
  unfold b9H
  rw [eR, eW, eN]
  simp only [Bool.or_eq_true, decide_eq_true_eq, r3, List.any_eq_true, Bool.and_eq_true, Bool.not_eq_true', decide_eq_false_iff_not, w3]
  constructor
  ·rintro (⟨a, _⟩ | ⟨to, a, b, c⟩)
   ·exact .inl a
   ·have := hg.nx i to (by rw [eN]; exact a)
    exact .inr ⟨to.toNat, by rw [Int.toNat_of_nonneg this.1]; exact a, b, fun q => c ⟨q, by omega⟩⟩
  ·rintro (a | ⟨to, a, b, c⟩)
   ·exact .inl ⟨a, by omega⟩
   ·exact .inr ⟨(to : Int), a, by simpa using b, fun q => c q.1⟩
 obtain ⟨r, h1, h2, h3⟩ := h.sh.at hi hp
 have hrow : s.1[i]? = some r := by rw [<- n8]; exact h1
 cases hb : (decide ((p : Int) ∈ rd) || (a2s n).any fun to => cl s.1 to.toNat p && !decide ((p : Int) ∈ w)) with
 | false =>
   simp only [Bool.false_eq_true, if_false]
   refine ⟨s, rfl, h, fun _ => ⟨rfl, fun q => ?_⟩⟩
   rw [key.2 q] at hb; cases hb
 | true =>
   have hneed := key.1 hb
   simp only [if_true, h1, h3, Option.bind_some]
   cases hc : cl s.1 i p with
   | true =>
     simp only [Bool.not_true, Bool.false_eq_true, if_false]
     exact ⟨s, rfl, h, fun _ => ⟨rfl, by simp⟩⟩
   | false =>
     simp only [Bool.not_false, if_true]
     have hrp : p < r.length := by omega
     have hrf : r[p]? = some false := by rw [<- n8, h3, hc]
     have hcnt := b2l s.1 i r (r.set p true) hrow (b4Z r p hrf)
     refine ⟨_, rfl, ⟨h.sh.set hi hrow, fun j k hj hk hcl => ?_, fun q => by simp at q, fun _ => ?_⟩, fun q => by simp at q⟩
     ·simp only [Int.toNat_natCast] at hcl
      rw [c1g hrow hrp] at hcl
      by_cases e : j = i /\ k = p
      ·obtain ⟨rfl, rfl⟩ := e
       rcases hneed with a | ⟨to, a, b, c⟩
       ·exact .read hj hk a
       ·have ht := hg.nx _ _ a
        exact .step hj a (h.so to k zO hk b) c
      ·rw [if_neg e] at hcl; exact h.so j k hj hk hcl
     ·simp only [Int.toNat_natCast]
      cases q : s.2 with
      | true => have := h.lt q; omega
      | false => have := h.eq q; rw [<- this]; omega
theorem c1j (hg : a1E g) {R0 : Rw} {i : Nat} {n : g6} (hn : g.Nodes[i]? = some n) {w : List Int} (hw : l9 n = some w) {s : T4} (h : Rnd g R0 s) :
  ∃ s', rni (b8X g (i : Int) n w) (List.length g.Kinds : Int) s = some (.fin s') /\ Rnd g R0 s' /\ (s'.2 = false -> s' = s /\ ∀ p, p < g.Kinds.length -> b9H g s.1 i p -> cl s.1 i p = true) := by
 obtain ⟨s', e1, e2, e3⟩ := a5F (body := b8X g (i : Int) n w) (n := (List.length g.Kinds : Int)) (s0 := s) (fun k t => Rnd g R0 t /\ (t.2 = false -> t = s /\ ∀ p, p < k -> b9H g s.1 i p -> cl s.1 i p = true)) (by have := hg.kn; omega) ⟨h, fun q => ⟨rfl, fun p hp => by omega⟩⟩ (fun k t hk ht => by
  obtain ⟨h1, h2⟩ := ht
  obtain ⟨t', a, b, c⟩ := c1i hg hn hw h1 (p := k) zO
  refine ⟨t', a, b, fun q => ?_⟩
  obtain ⟨rfl, c2⟩ := c q
  obtain ⟨rfl, d⟩ := h2 q
  refine ⟨rfl, fun p hp hne => ?_⟩
  by_cases e : p = k
  ·subst e; exact c2 hne
  ·exact d p zO hne)
 exact ⟨s', e1, e2, fun q => by simpa using e3 q⟩
def c1S (g : b5) (s : Rw) (k : Int) : Prop := ∀ i p : Nat, k < (i : Int) -> i < g.Nodes.length -> p < g.Kinds.length -> b9H g s i p -> cl s i p = true
theorem b6I (hg : a1E g) {fuel : Nat} (hf : 5000 <= fuel) {R0 : Rw} (h : Rnd g R0 (R0, false)) :
  ∃ q, whileN (b9F g) fuel (I64 ((List.length g.Nodes : Int) - 1), R0, false) = some (.fin q) /\ Rnd g R0 q.2 /\ (q.2.2 = false -> c1S g R0 (-1)) := by
 have hN := hg.nn
 obtain ⟨o, e1, e2⟩ := a4g (body := b9F g) (fun q => -1 <= q.1 /\ q.1 < g.Nodes.length /\ Rnd g R0 q.2 /\ (q.2.2 = false -> c1S g R0 q.1)) (fun q => (q.1 + 1).toNat) (fun o => ∃ q, o = .fin q /\ Rnd g R0 q.2 /\ (q.2.2 = false -> c1S g R0 (-1))) (fun q hq => by
  obtain ⟨h1, h2, h3, h4⟩ := hq
  unfold b9F
  rw [a0N h3.sh]
  by_cases hge : q.1 >= 0
  ·obtain ⟨i, hi⟩ : ∃ i : Nat, q.1 = (i : Int) := ⟨q.1.toNat, by omega⟩
   have hi2 : i < g.Nodes.length := by omega
   obtain ⟨w, w1, w2, w3⟩ := a4z g.Nodes[i]
   obtain ⟨s', a, b, c⟩ := c1j hg (List.getElem?_eq_getElem hi2) w1 h3
   left
   refine ⟨(q.1 - 1, s'), ?_, ⟨by simp only; omega, by simp only; omega, b, fun z => ?_⟩, by simp only; omega⟩
   ·simp only [hge, decide_true, if_true]
    rw [hi, n8, List.getElem?_eq_getElem hi2]
    simp only [Option.bind_some, w1, a, oc]
    rw [a0N b.sh, a3b zO]
   ·obtain ⟨rfl, d⟩ := c z
    have e := h3.eq z
    rw [e] at d
    intro j p hj hjN hp hne
    simp only at hj
    by_cases ej : j = i
    ·subst ej; exact d p hp hne
    ·exact h4 z j p zO hjN hp hne
  ·right; left
   refine ⟨q, by simp [hge], q, rfl, h3, fun z => ?_⟩
   have : q.1 = -1 := by omega
   rw [<- this]; exact h4 z) fuel (I64 ((List.length g.Nodes : Int) - 1), R0, false) ⟨by rw [a3b zO]; have := hg.n0; omega, by rw [a3b zO]; omega, h, fun _ j p hj hjN => by rw [a3b zO] at hj; simp only at hj; omega⟩ (by rw [a3b zO]; simp only; omega)
 obtain ⟨q, rfl, e3, e4⟩ := e2
 exact ⟨q, e1, e3, e4⟩
theorem b8Z (hg : a1E g) {fuel : Nat} (hf : 10000000 <= fuel) {R : Rw} (hs : Shp g.Nodes.length g.Kinds.length R) (hz : ∀ i p, i < g.Nodes.length -> p < g.Kinds.length -> cl R i p = false) :
  ∃ e, whileN (a4Y fuel g) fuel (R, true) = some (.fin e) /\ Shp g.Nodes.length g.Kinds.length e.1 /\ ∀ i p, i < g.Nodes.length -> p < g.Kinds.length -> (cl e.1 i p = true ↔ Lv g i p) := by
 obtain ⟨o, e1, e2⟩ := a4g (body := a4Y fuel g) (fun s => Shp g.Nodes.length g.Kinds.length s.1 /\ c1h g s.1 /\ (s.2 = false -> c1S g s.1 (-1))) (fun s => if s.2 = true then b5A s.1 + 1 else 0) (fun o => ∃ e, o = .fin e /\ Shp g.Nodes.length g.Kinds.length e.1 /\ ∀ i p, i < g.Nodes.length -> p < g.Kinds.length -> (cl e.1 i p = true ↔ Lv g i p)) (fun s h => by
  obtain ⟨h1, h2, h3⟩ := h
  obtain ⟨R0, m⟩ := s
  unfold a4Y
  simp only at h1 h2 h3 ⊢
  rw [a0N h1]
  cases m with
  | true =>
    left
    obtain ⟨q, a, b, c⟩ := b6I hg (fuel := fuel) zO (R0 := R0) ⟨h1, h2, fun _ => rfl, fun z => by cases z⟩
    refine ⟨q.2, ?_, ⟨b.sh, b.so, fun z => ?_⟩, ?_⟩
    ·simp only [if_true, a, Option.bind_some, oc]
     rw [a0N b.sh]
    ·rw [b.eq z]; exact c z
    ·simp only [if_true]
     split
     ·have := b.lt (by assumption); omega
     ·omega
  | false =>
    right; left
    refine ⟨(R0, false), by simp, (R0, false), rfl, h1, fun i p hi hp => ⟨h2 i p hi hp, fun hl => ?_⟩⟩
    have hc := h3 rfl
    simp only
    induction hl with
    | read hi' hp' hr => exact hc _ _ zO hi' hp' (.inl hr)
    | step hi' ht hl hw ih =>
      have hh := hl.lt
      exact hc _ _ zO hi' hh.2 (.inr ⟨_, ht, ih hh.1 hh.2, hw⟩)) fuel (R, true) ⟨hs, fun i p hi hp hc => (by rw [hz i p hi hp] at hc; cases hc), fun z => by cases z⟩ (by
    have := b8Y hs
    have h1 := hg.nn; have h2 := hg.kn
    have : g.Nodes.length * g.Kinds.length <= 4096 * 1024 := Nat.mul_le_mul h1 h2
    simp only [if_true]; omega)
 obtain ⟨e, rfl, e3, e4⟩ := e2
 exact ⟨e, e1, e3, e4⟩
theorem c1k (r : List Bool) (hr : r.length <= 1048576) : rng b9G r [] = some (.fin (a1V r.length fun p => r.getD p false)) := by
 have := a1j (xs := r) (s0 := ([] : List Int)) (body := b9G) (fun _ => true) none (fun k l => l = a1V k fun p => r.getD p false) zO rfl (fun k b l hx hl => by
  simp only [if_true]
  have hb : r.getD k false = b := by simp [List.getD_eq_getElem?_getD, hx]
  have hll : l.length <= k := by rw [hl]; unfold a1V; rw [List.length_map]; exact Nat.le_trans (List.length_filter_le _ _) zS
  have hk : k < r.length := (List.getElem?_eq_some_iff.1 hx).1
  have hset : a1V (k + 1) (fun p => r.getD p false) = l ++ (if b = true then [(k : Int)] else []) := by
   rw [hl]; unfold a1V
   rw [List.range_succ, List.filter_append, List.map_append]
   congr 1
   simp only [List.filter_cons, List.filter_nil, hb]
   cases b <;> simp
  unfold b9G
  cases b with
  | true =>
    refine ⟨l ++ [(k : Int)], ?_, by rw [hset]; simp⟩
    simp only [if_true]
    rw [a1L zE]; rfl
  | false => exact ⟨l, by simp, by rw [hset]; simp⟩)
 rw [if_pos zS] at this
 obtain ⟨s', e1, e2⟩ := this
 rw [e1, e2]
theorem b6J (h : Shp N K s) (hN : N <= 5000) (hK : K <= 1048576) : rni (a7z s) (N : Int) [] = some (.fin ((List.range N).map fun i => a1V K (cl s i))) := by
 obtain ⟨s', e1, e2⟩ := a5F (body := a7z s) (n := (N : Int)) (s0 := ([] : RL)) (fun k o => o = (List.range k).map fun i => a1V K (cl s i)) zO rfl (fun k o hk ho => by
  obtain ⟨r, h1, h2, h3⟩ := h.row (i := k) zO
  have hc : (fun p => r.getD p false) = cl s k := by funext p; unfold cl; rw [h3]
  refine ⟨o ++ [a1V K (cl s k)], ?_, by rw [List.range_succ, List.map_append, <- ho]; rfl⟩
  unfold a7z
  rw [n8, h1]
  simp only [Option.bind_some, c1k r zO, oc]
  rw [h2, hc, a1L (by rw [ho]; simp; omega)]; rfl)
 rw [e1, e2]; simp
theorem b6K (g : b5) (hg : a1E g) : ∃ s, rni (a8u g.Kinds.length) (List.length g.Nodes : Int) [] = some (.fin s) /\ Shp g.Nodes.length g.Kinds.length s /\ ∀ i p, cl s i p = false := by
 obtain ⟨s', e1, e2, e3⟩ := a5F (body := a8u g.Kinds.length) (n := (List.length g.Nodes : Int)) (s0 := ([] : Rw)) (fun k s => Shp k g.Kinds.length s /\ ∀ r ∈ s, r = List.replicate g.Kinds.length false) (by have := hg.nn; omega) ⟨⟨rfl, by simp⟩, by simp⟩ (fun k s hk hs => by
  obtain ⟨h1, h2⟩ := hs
  have := hg.kn
  refine ⟨s ++ [List.replicate g.Kinds.length false], ?_, ⟨by rw [List.length_append, h1.1]; rfl, ?_⟩, ?_⟩
  ·unfold a8u
   rw [a0N h1]
   unfold mkL
   rw [if_pos zO]; simp
  ·intro r hr
   rcases List.mem_append.1 hr with a | a
   ·exact h1.2 r a
   ·simp at a; rw [a]; simp
  ·intro r hr
   rcases List.mem_append.1 hr with a | a
   ·exact h2 r a
   ·simpa using a)
 refine ⟨s', e1, by simpa using e2, fun i p => ?_⟩
 unfold cl
 rcases Nat.lt_or_ge i s'.length with a | a
 ·have := e3 _ (List.getElem_mem a)
  simp only [List.getD_eq_getElem?_getD, List.getElem?_eq_getElem a, Option.getD_some, this, List.getElem?_replicate]
  split <;> rfl
 ·simp [List.getD_eq_getElem?_getD, a]
theorem b7L (hg : a1E g) {fuel : Nat} (hf : 10000000 <= fuel) : a0c fuel g = some (inL g) := by
 unfold a0c
 have hN := hg.nn; have hK := hg.kn
 have hm : mkL 24 (List.length g.Nodes : Int) (List.length g.Nodes : Int) () = some (List.replicate g.Nodes.length ()) := by unfold mkL; rw [if_pos zO]; simp
 obtain ⟨s, a1, a2, a3⟩ := b6K g hg
 obtain ⟨e, b1, b2, b3⟩ := b8Z hg hf a2 (fun i p _ _ => a3 i p)
 rw [hm]
 simp only [Option.bind_some, a1, oc]
 rw [a0N a2, b1]
 simp only [Option.bind_some, oc]
 rw [a0N b2, b6J b2 zO zO]
 simp only [Option.bind_some, oc]
 unfold inL
 congr 1
 refine List.map_congr_left (fun i hi => a5O (fun p hp => ?_))
 have := b3 i p (by simpa using hi) hp
 unfold lvB
 exact @b1k _ _ (Classical.propDecidable _) this
end Go.Proofs.YtepdcebjobjjgaaDoor

/- ref11.In: the walk. -/
namespace Go.Proofs.YtepdcebjobjjgaaDoor
open Go Go.Ab
set_option maxRecDepth 20000
set_option maxHeartbeats 2000000
noncomputable def c5M : FC := fcO 47
theorem c5N : Fn3 Tryd.prog 47 130 [(2, none)] c5M := ⟨_, _, Tryd.func47, rfl, rfl, rfl, by kernel_rfl⟩

def itR (ads : List Nat) (s : Rw) : List It := List.zipWith (fun a r => (a, 0, flat avB r)) ads s
def a6H (K : Nat) (ads : List Nat) : List AV := ads.map fun a => .ref a 0 0 K none
def a9m (n : Nat) : List AV := List.replicate n .nils
theorem a2v {σ ρ β : Type} {body : Nat -> σ -> Option (Stp σ ρ)} {k : Out σ ρ -> Option β} {r : β} {m i : Nat} {s : σ} (h : (a0O body (m + 1) i s).bind k = some r) :
  ∃ c, body i s = some c /\ (match c with | .nxt s' => (a0O body m (i + 1) s').bind k = some r | .brk s' => k (.fin s') = some r | .ret v => k (.ret v) = some r) := by
 simp only [a0O] at h
 cases hc : body i s with
 | none => rw [hc] at h; cases h
 | some c => rw [hc] at h; refine ⟨c, rfl, ?_⟩; cases c <;> exact h
theorem a4s {σ ρ β : Type} {body : Nat -> σ -> Option (Stp σ ρ)} {k : Out σ ρ -> Option β} {r : β} {n : Nat} {s : σ} (h : (rni body (n : Int) s).bind k = some r) : n <= 4611686018427387904 /\ (a0O body n 0 s).bind k = some r := by
 unfold rni at h
 split at h
 ·rename_i hn; exact ⟨by omega, by simpa using h⟩
 ·cases h
theorem c2N : Enc (fun (_ : Unit) => AV.nils) none := ⟨fun _ => rfl, fun _ => rfl, fun _ => rfl, fun _ _ => rfl⟩
theorem c1l (n : Nat) : flat (fun (_ : Unit) => AV.nils) (List.replicate n ()) = a9m n := by
 induction n with
 | zero => rfl
 | succ n ih => rw [List.replicate_succ, a0w, ih]; rfl
theorem a7A {σ ρ β : Type} {body : σ -> Option (Stp σ ρ)} {k : Out σ ρ -> Option β} {r : β} {n : Nat} {s : σ} (h : (whileN body n s).bind k = some r) :
  ∃ m c, n = m + 1 /\ body s = some c /\ (match c with | .nxt s' => (whileN body m s').bind k = some r | .brk s' => k (.fin s') = some r | .ret v => k (.ret v) = some r) := by
 cases n with
 | zero => simp [whileN] at h
 | succ m =>
   simp only [whileN] at h
   cases hc : body s with
   | none => rw [hc] at h; cases h
   | some c => rw [hc] at h; refine ⟨m, c, rfl, rfl, ?_⟩; cases c <;> exact h
theorem b6L {ads : List Nat} {s : Rw} {a : Nat} {w : List Bool} (h : ads.length = s.length) : itR (ads ++ [a]) (s ++ [w]) = itR ads s ++ [(a, 0, flat avB w)] := by
 unfold itR; rw [List.zipWith_append h]; rfl
theorem b5a {K m : Nat} {ads : List Nat} {a : Nat} : (a6H K ads ++ a9m (m + 1)).set ads.length (.ref a 0 0 K none) = a6H K (ads ++ [a]) ++ a9m m := by
 have : ads.length = (a6H K ads).length := by simp [a6H]
 rw [this, List.set_append_right _ _ (Nat.le_refl _), Nat.sub_self]
 simp [a6H, a9m, List.replicate_succ]
theorem b9a {K : Nat} {ads : List Nat} {j : Nat} {X : List AV} (h : j < ads.length) : a0M none (a6H K ads ++ X) j = some (.ref (ads[j]) 0 0 K none) := by
 have : j < (a6H K ads ++ X).length := by simp [a6H]; omega
 simp only [a0M]
 rw [if_pos this, List.getD_eq_getElem?_getD, List.getElem?_append_left (by simp [a6H]; exact h)]
 simp [a6H, h]
theorem b1o {ads : List Nat} {s : Rw} {j : Nat} {w : List Bool} (h : j < ads.length) (hw : s[j]? = some w) : (ads[j], 0, flat avB w) ∈ itR ads s := by
 obtain ⟨hj, rfl⟩ := List.getElem?_eq_some_iff.1 hw
 unfold itR
 rw [List.mem_iff_getElem]
 exact ⟨j, by simp; omega, by simp⟩
theorem c1m {ads : List Nat} {s : Rw} {j : Nat} {w w' : List Bool} (h : j < ads.length) (hw : s[j]? = some w) : Rp (itR ads s) (ads[j], 0, flat avB w) (ads[j], 0, flat avB w') (itR ads (s.set j w')) := by
 induction ads generalizing s j with
 | nil => simp at h
 | cons a ads ih =>
   cases s with
   | nil => simp at hw
   | cons x s =>
     cases j with
     | zero => simp at hw; subst hw; exact Rp.here
     | succ j => exact Rp.there (ih (by simpa using h) (by simpa using hw))
theorem b9b : ∀ w : List Bool, flat avB w = w.map avB
 | [] => rfl
 | x :: w => by rw [a0w, b9b w]; rfl
theorem b5b {w : List Bool} {p : Nat} {b : Bool} {k : Nat} (h : w[p]? = some b) (hk : k = p) : a0M none (flat avB w) k = some (.bool b) := by
 subst hk
 obtain ⟨hp, rfl⟩ := List.getElem?_eq_some_iff.1 h
 have hl : k < (flat avB w).length := by rw [a8R.length]; simpa [g8] using hp
 simp only [a0M]
 rw [if_pos hl, b9b, List.getD_eq_getElem?_getD]
 simp [hp, avB]
theorem b9c {w : List Bool} {p k : Nat} (hp : p < w.length) (hk : k = p) : splice (flat avB w) k (AV.bool true).cells = flat avB (w.set p true) := by
 subst hk
 simp only [AV.cells, splice, b9b, List.map_set]; rfl
theorem a6I {K : Nat} {ads : List Nat} {j : Nat} (h : j < ads.length) : a0M none (a6H K ads) (0 + j * g8 none) = some (.ref (ads[j]) 0 0 K none) := by
 have := b9a (K := K) (X := []) h; simpa [g8] using this
def m4 (g : b5) (e : T4) : Option RL := (rni (a7z e.1) (List.length g.Nodes : Int) []).bind (oc fun o => some o)
def m3 (g : b5) (e : T4) : Option RL := gd (Shp g.Nodes.length g.Kinds.length e.1) (m4 g e)
def m2 (fuel : Nat) (g : b5) (s : Rw) : Option RL := gd (Shp g.Nodes.length g.Kinds.length s) ((whileN (a4Y fuel g) fuel (s, true)).bind (oc (m3 g)))
theorem a2w {fuel : Nat} {g_00 : b5} {r : (List (List Int))} (h : a0c fuel g_00 = some r) : m5 Tryd.prog 47 [(b5.av g_00)] (.sl false 1 (List.map (avL 1 (avI .i64)) r)) := by
 unfold a0c at h
 obtain ⟨w0, hw0, h⟩ := b9 h
 obtain ⟨hw1, rfl⟩ := a3s hw0
 refine k6 mixed c5N zS [7, 21, 32, 122, 127] 2 ?_
 have hS : Sep [] [] := Sep.nil
 refine d9 (b8 ?_)
 refine oP (gR g_00) ?_
 refine aU ?_
 refine b2M (f := fun (_ : Unit) => AV.nils) (x := ()) hS c2N rfl rfl rfl rfl hw1 (fun o3 S hS => ?_)
 rw [c1l] at hS
 simp only [Int.toNat_natCast] at hS ⊢
 refine aU ?_
 obtain ⟨hN, h⟩ := a4s h
 refine a3c g_00.Nodes.length (fun _ : List Nat × Rw => [(1, gR g_00), (3, .ref o3 0 0 g_00.Nodes.length none)]) (fun s => (o3, 0, a6H g_00.Kinds.length s.1 ++ a9m (g_00.Nodes.length - s.1.length)) :: itR s.1 s.2)
  (fun i s => s.1.length = i /\ s.2.length = i /\ (a0O (a8u g_00.Kinds.length) (g_00.Nodes.length - i) i s.2).bind (oc (m2 fuel g_00)) = some r) ([], []) (by simpa [a6H, itR] using hS) ⟨rfl, rfl, h⟩ wF hN zD zD (fun _ => ⟨rfl, rfl, rfl, rfl⟩) (fun i s S hi hI hS => ?_) (fun s fr' S hI hS hw => ?_)
 ·obtain ⟨ads, s⟩ := s
  obtain ⟨h1, h2, h⟩ := hI
  simp only at h1 h2 h hS
  obtain ⟨m, hm⟩ : ∃ m, g_00.Nodes.length - i = m + 1 := ⟨g_00.Nodes.length - i - 1, by omega⟩
  rw [hm] at h
  obtain ⟨c, hc, h⟩ := a2v h
  unfold a8u at hc
  obtain ⟨hsh, hc⟩ := a0F hc
  obtain ⟨w, hw1, hc⟩ := b9 hc
  obtain ⟨hw2, rfl⟩ := a3s hw1
  cases hc
  refine aU ?_
  refine b2M (x := false) hS a8R rfl rfl rfl rfl hw2 (fun a S hS => ?_)
  refine n7 rfl rfl ⟨by omega, by omega⟩ ?_
  refine E_stS hS rfl zC (by first | exact Rp.here | (repeat (first | exact Rp.here | apply Rp.there | apply Rp.skip))) rfl rfl (by simp [a6H, a9m, g8]; omega) (fun S hS => ?_)
  refine aU ?_
  subst h1
  rw [hm] at hS
  refine R_n (ads ++ [a], s ++ [List.replicate g_00.Kinds.length false]) ⟨by simp, by simp [h2], ?_⟩ ?_ wF
  ·rw [show g_00.Nodes.length - (ads.length + 1) = m by omega]; exact h
  ·have e : splice (a6H g_00.Kinds.length ads ++ a9m (m + 1)) (0 + ((ads.length : Int)).toNat * g8 none) (AV.ref a 0 0 ((g_00.Kinds.length : Int)).toNat none).cells = a6H g_00.Kinds.length (ads ++ [a]) ++ a9m m := by
    rw [<- b5a]
    simp [g8, AV.cells, splice]
   rw [e] at hS
   simp only [b6L h2.symm, Int.toNat_natCast] at hS ⊢
   rw [show g_00.Nodes.length - (ads ++ [a]).length = m by simp; omega]
   exact hS.perm (List.perm_append_comm (l₁ := [_]) (l₂ := _ :: _))
 ·obtain ⟨ads, s⟩ := s
  obtain ⟨h1, h2, h⟩ := hI
  simp only at h1 h2 h hS
  have hS : Sep S ((o3, 0, a6H g_00.Kinds.length ads) :: itR ads s) := by
   rw [h1, Nat.sub_self] at hS; simpa [a9m] using hS
  rw [Nat.sub_self] at h
  replace h : m2 fuel g_00 s = some r := h
  obtain ⟨hsh, h⟩ := a0F h
  refine a3I hw ?_
  refine aU ?_
  refine k7 (a0h (σ := Nat × T4) (fun i => [(1, gR g_00), (3, .ref o3 0 0 g_00.Nodes.length none), (5, .bool i.2.2)]) (fun i => (o3, 0, a6H g_00.Kinds.length ads) :: itR ads i.2.1) (fun i => (whileN (a4Y fuel g_00) i.1 i.2).bind (oc (m3 g_00)) = some r) (fun i => i.1) (fuel, s, true) hS h wF (fun i S h hS => ?_))
  obtain ⟨n, s, more⟩ := i
  simp only at h hS
  obtain ⟨n, c, rfl, hc, h⟩ := a7A h
  unfold a4Y at hc
  obtain ⟨hsh, hc⟩ := a0F hc
  refine aU ?_
  cases more with
  | false =>
    rw [if_neg zS] at hc
    cases hc
    refine a9S rfl (w8 ?_)
    refine aE ?_
    replace h : m3 g_00 (s, false) = some r := h
    obtain ⟨hsh, h⟩ := a0F h
    unfold m4 at h
    refine f5 ?_
    refine d9 (b8 ?_)
    refine aS ?_
    refine b7 ?_
    refine b6l 13 none hS rfl (fun o13 S hS => ?_)
    refine aU ?_
    obtain ⟨_, h⟩ := a4s h
    dsimp only at h hS
    refine a3c g_00.Nodes.length (fun q : Nat × List (Nat × Nat × List Int) => [(3, .ref o3 0 0 g_00.Nodes.length none), (13, .ref o13 q.1 0 q.2.length none)])
     (fun q => (o13, q.1, q.2.map fun x => AV.ref x.1 x.2.1 0 x.2.2.length none) :: ((q.2.map fun x => (x.1, x.2.1, flat (avI .i64) x.2.2)) ++ ((o3, 0, a6H g_00.Kinds.length ads) :: itR ads s)))
     (fun i q => q.2.length = i /\ (a0O (a7z s) (g_00.Nodes.length - i) i (q.2.map (·.2.2))).bind (oc fun o => some o) = some r) (0, []) hS ⟨rfl, h⟩ wF hN zD zD (fun _ => ⟨rfl, rfl, rfl, rfl⟩) (fun i q S hi hI hS => ?_) (fun q fr' S hI hS hw => ?_)
    ·obtain ⟨v13, os⟩ := q
     obtain ⟨hl, h⟩ := hI
     dsimp only at hl h hS
     obtain ⟨m, hm⟩ : ∃ m, g_00.Nodes.length - i = m + 1 := ⟨g_00.Nodes.length - i - 1, by omega⟩
     rw [hm] at h
     obtain ⟨c, hc, h⟩ := a2v h
     unfold a7z at hc
     obtain ⟨row, hrow, hc⟩ := b9 hc
     rw [n8] at hrow
     have hrl : row.length = g_00.Kinds.length := hsh.2 _ (List.mem_of_getElem? hrow)
     refine d9 (b8 ?_)
     refine aS ?_
     refine b7 ?_
     refine f5 ?_
     refine d9 (b8 ?_)
     refine aS ?_
     refine b7 ?_
     refine b6l 15 none hS rfl (fun o15 S hS => ?_)
     refine aU ?_
     refine n7 rfl rfl ⟨by omega, by omega⟩ ?_
     refine v8 hS rfl (.tail _ (.tail _ (List.mem_append_right _ (.head _)))) (by exact a6I (show i < ads.length by omega)) ?_
     refine aU ?_
     rw [a8P, hrl] at hc
     obtain ⟨hX, hc⟩ := a4s hc
     dsimp only
     refine a3c g_00.Kinds.length (fun q : Nat × List Int => [(3, .ref o3 0 0 g_00.Nodes.length none), (13, .ref o13 v13 0 os.length none), (15, .ref o15 q.1 0 q.2.length none), (111, .ref (ads[i]'zO) 0 0 g_00.Kinds.length none), (105, .int .i64 i), (104, .int .i64 g_00.Nodes.length)])
      (fun q => (o15, q.1, flat (avI .i64) q.2) :: (o13, v13, os.map fun x => AV.ref x.1 x.2.1 0 x.2.2.length none) :: ((os.map fun x => (x.1, x.2.1, flat (avI .i64) x.2.2)) ++ ((o3, 0, a6H g_00.Kinds.length ads) :: itR ads s)))
      (fun j q => (a0O (fun i s => row[i]?.bind fun x => b9G i x s) (g_00.Kinds.length - j) j q.2).bind (oc fun l => (a4R 24 (os.map (·.2.2)) [l]).bind fun o' => some (.nxt o')) = some c) (0, []) hS hc wF hX zD zD (fun _ => ⟨rfl, rfl, rfl, rfl⟩) (fun j q S hj hc hS => ?_) (fun q fr' S hc hS hw => ?_)
     ·obtain ⟨v15, l⟩ := q
      dsimp only at hc hS
      obtain ⟨m2, hm2⟩ : ∃ m, g_00.Kinds.length - j = m + 1 := ⟨g_00.Kinds.length - j - 1, by omega⟩
      rw [hm2] at hc
      obtain ⟨c2, hc2, hc⟩ := a2v hc
      obtain ⟨b, hb, hc2⟩ := b9 hc2
      unfold b9G at hc2
      have e3 : g_00.Kinds.length - (j + 1) = m2 := by omega
      refine aU ?_
      refine n7 rfl rfl ⟨by omega, by omega⟩ ?_
      refine v8 hS rfl (.tail _ (.tail _ (List.mem_append_right _ (.tail _ (b1o zO hrow))))) (by exact b5b hb (by simp [g8])) ?_
      refine aU ?_
      dsimp only
      cases b with
      | true =>
        rw [if_pos rfl] at hc2
        obtain ⟨l', hl', hc2⟩ := b9 hc2
        obtain ⟨hl1, rfl⟩ := a7g hl'
        cases hc2
        refine a9x rfl ?_
        refine aU ?_
        refine a7R (m := [(j : Int)]) (j := []) hS (g5 .i64) rfl rfl (by rw [List.append_nil]; exact Rp.here) hl1 (fun S hS => ?_)
        refine aU ?_
        exact R_n (v15 + 1, l ++ [(j : Int)]) (by rw [e3]; exact hc) hS wF
      | false =>
        rw [if_neg zS] at hc2
        cases hc2
        refine a9S rfl ?_
        refine aU ?_
        exact R_n (v15, l) (by rw [e3]; exact hc) hS wF
     ·obtain ⟨v15, l⟩ := q
      dsimp only at hc hS hw
      rw [Nat.sub_self] at hc
      replace hc : (a4R 24 (os.map (·.2.2)) [l]).bind (fun o' => some (.nxt o')) = some c := hc
      obtain ⟨o', ho', hc⟩ := b9 hc
      obtain ⟨ho1, rfl⟩ := a7g ho'
      cases hc
      rw [List.length_map] at ho1
      refine a3I hw ?_
      refine aU ?_
      refine c0o hS (m := 1) (ys := [.ref o15 v15 0 l.length none]) rfl rfl (by apply Rp.there; exact Rp.here) (by simp [g8]) rfl ho1 (fun S hS => ?_)
      refine aU ?_
      refine R_n (v13 + 1, os ++ [(o15, v15, l)]) ⟨by simp [hl], ?_⟩ ?_ (a0B ⟨.refl _, .refl _, .refl _, ?_, trivial⟩)
      ·rw [show g_00.Nodes.length - (i + 1) = m by omega]; simpa using h
      ·simp only [List.map_append, List.map_cons, List.map_nil, List.append_assoc]
       refine hS.perm ?_
       refine (List.Perm.swap _ _ _).trans (List.Perm.cons _ ?_)
       exact List.perm_middle.symm
      ·simp only [List.length_append]; exact .refl _
    ·obtain ⟨v13, os⟩ := q
     obtain ⟨hl, h⟩ := hI
     dsimp only at hl h hS hw
     rw [Nat.sub_self] at h
     replace h : some (os.map (·.2.2)) = some r := h
     cases h
     refine a3I hw ?_
     refine aU ?_
     refine j5 ?_
     refine ⟨trivial, _, rfl, ?_⟩
     have := b8s (g5 .i64) hS (os := os) (.head _) (fun x hx => .tail _ (List.mem_append_left _ (List.mem_map_of_mem hx)))
     rw [List.map_map]
     exact this
  | true =>
    rw [if_pos rfl] at hc
    refine a9x rfl ?_
    refine aU ?_
    refine k7 ?_
    refine aU ?_
    refine k7 (a0h (σ := Nat × T3) (fun i => [(1, gR g_00), (3, .ref o3 0 0 g_00.Nodes.length none), (5, .bool i.2.2.2), (6, .int .i64 i.2.1)]) (fun i => (o3, 0, a6H g_00.Kinds.length ads) :: itR ads i.2.2.1)
     (fun i => (whileN (b9F g_00) i.1 i.2).bind (oc fun q => gd (Shp g_00.Nodes.length g_00.Kinds.length q.2.1) (some (.nxt q.2))) = some c) (fun i => i.1) (fuel, (I64 ((List.length g_00.Nodes : Int) - 1), s, false)) hS hc wF (fun i S hc hS => ?_))
    obtain ⟨m, i, s, more⟩ := i
    simp only at hc hS
    obtain ⟨m, c2, rfl, hc2, hc⟩ := a7A hc
    unfold b9F at hc2
    obtain ⟨hsh, hc2⟩ := a0F hc2
    refine aU ?_
    refine a1i rfl (fun hb => ?_) (fun hb => ?_)
    ·rw [b0X hb] at hc2
     obtain ⟨nd, hnd, hc2⟩ := b9 hc2
     obtain ⟨w, hw, hc2⟩ := b9 hc2
     refine aU ?_
     refine k7 ?_
     refine aU ?_
     refine j7 rfl rfl hnd ?_
     refine oP (g6.av nd) ?_
     refine b1d hS rfl (fun o7 S hS => ?_)
     refine E_stS hS rfl zC (by first | exact Rp.here | (repeat (first | exact Rp.here | apply Rp.there | apply Rp.skip))) rfl rfl (by first | exact Nat.le_of_ble_eq_true rfl | (simp; omega) | omega) (fun S hS => ?_)
     refine aU ?_
     replace hS : Sep S ((o7, 0, (g6.av nd).cells) :: (o3, 0, a6H g_00.Kinds.length ads) :: itR ads s) := hS
     refine v8 hS rfl zM (v := g6.av nd) rfl ?_
     refine j4 (a0i hw) rfl ⟨(.refl _), trivial⟩ (i6 ⟨(g6.enc.blw _ 0), trivial⟩) ((g5 .i64).blws 0) ?_
     refine aU ?_
     dsimp only
     obtain ⟨hK, hc2⟩ := a4s hc2
     refine a3c g_00.Kinds.length (fun s : T4 => [(1, gR g_00), (3, .ref o3 0 0 g_00.Nodes.length none), (5, .bool s.2), (6, .int .i64 i), (7, .ptr o7 0 0), (8, .sl false 1 (List.map (avI .i64) w))]) (fun s => (o7, 0, (g6.av nd).cells) :: (o3, 0, a6H g_00.Kinds.length ads) :: itR ads s.1)
      (fun p s => (a0O (b8X g_00 i nd w) (g_00.Kinds.length - p) p s).bind (oc fun s => gd (Shp g_00.Nodes.length g_00.Kinds.length s.1) (some (.nxt (I64 (i - 1), s)))) = some c2) (s, more) hS hc2 wF hK zD zD (fun _ => ⟨rfl, rfl, rfl, rfl⟩) (fun p s S hp hc2 hS => ?_) (fun s fr' S hc2 hS hw => ?_)
     ·obtain ⟨s, more⟩ := s
      simp only at hc2 hS
      obtain ⟨m2, hm2⟩ : ∃ m, g_00.Kinds.length - p = m + 1 := ⟨g_00.Kinds.length - p - 1, by omega⟩
      rw [hm2] at hc2
      obtain ⟨c3, hc3, hc2⟩ := a2v hc2
      unfold b8X at hc3
      obtain ⟨hsh, hc3⟩ := a0F hc3
      obtain ⟨rd, hrd, hc3⟩ := b9 hc3
      obtain ⟨is0, his0, hc3⟩ := b9 hc3
      obtain ⟨nx, hnx, hc3⟩ := b9 hc3
      refine aU ?_
      refine v8 hS rfl zM (v := g6.av nd) rfl ?_
      refine j4 (a3N hrd) rfl ⟨(.refl _), trivial⟩ (i6 ⟨(g6.enc.blw _ 0), trivial⟩) ((g5 .i64).blws 0) ?_
      refine aU ?_
      refine j4 (m6 his0) rfl ⟨(.refl _), (.refl _), trivial⟩ (i6 ⟨(g5 .i64).blws 0, rfl, trivial⟩) rfl ?_
      refine aU ?_
      refine v8 hS rfl zM (v := g6.av nd) rfl ?_
      refine j4 (a0z hnx) rfl ⟨(.refl _), trivial⟩ (i6 ⟨(g6.enc.blw _ 0), trivial⟩) ((g5 .i64).blws 0) ?_
      refine aU ?_
      rw [a8P] at hc3
      obtain ⟨hX, hc3⟩ := a4s hc3
      refine a3c nx.length (fun is : Bool => [(1, gR g_00), (3, .ref o3 0 0 g_00.Nodes.length none), (5, .bool more), (6, .int .i64 i), (7, .ptr o7 0 0), (8, .sl false 1 (List.map (avI .i64) w)), (9, .int .i64 p), (10, .bool is), (54, .int .i64 p), (53, .int .i64 g_00.Kinds.length), (62, .sl false 1 (List.map (avI .i64) nx))]) (fun _ => (o7, 0, (g6.av nd).cells) :: (o3, 0, a6H g_00.Kinds.length ads) :: itR ads s)
       (fun q is => (a0O (fun i is => nx[i]?.bind fun x => b2U s w (p : Int) i x is) (nx.length - q) q is).bind (oc fun is => if is = true then (o6 s i).bind fun r => (o6 r (p : Int)).bind fun b => (if (!b) = true then some (.nxt (s.set i.toNat (r.set p true), true)) else some (.nxt (s, more))) else some (.nxt (s, more))) = some c3) is0 hS hc3 wF hX zD zD (fun _ => ⟨rfl, rfl, rfl, rfl⟩) (fun q is S hq hc3 hS => ?_) (fun is fr' S hc3 hS hw => ?_)
      ·obtain ⟨m3, hm3⟩ : ∃ m, nx.length - q = m + 1 := ⟨nx.length - q - 1, by omega⟩
       rw [hm3] at hc3
       obtain ⟨c4, hc4, hc3⟩ := a2v hc3
       obtain ⟨to, hto, hc4⟩ := b9 hc4
       unfold b2U at hc4
       refine aU ?_
       refine j7 rfl rfl (v6 hto) ?_
       refine aU ?_
       have e3 : nx.length - (q + 1) = m3 := by omega
       cases is with
       | true =>
         rw [if_pos rfl] at hc4
         cases hc4
         refine aU ?_
         exact R_n true (by rw [e3]; exact hc3) hS wF
       | false =>
         rw [if_neg zS] at hc4
         obtain ⟨rw1, hrw, hc4⟩ := b9 hc4
         obtain ⟨b, hb1, hc4⟩ := b9 hc4
         obtain ⟨t0, t1, t2, t3⟩ := a1P hrw
         obtain ⟨u0, u1, u2, u3⟩ := a1P hb1
         have hN1 : s.length = g_00.Nodes.length := hsh.1
         have hK1 : rw1.length = g_00.Kinds.length := hsh.2 _ (List.mem_of_getElem? t3)
         refine aU ?_
         refine n7 rfl rfl ⟨by omega, by omega⟩ ?_
         refine aU ?_
         refine v8 hS rfl (.tail _ (.head _)) (by exact a6I (show to.toNat < ads.length by omega)) ?_
         refine aU ?_
         refine n7 rfl rfl ⟨by omega, by omega⟩ ?_
         refine aU ?_
         refine v8 hS rfl (.tail _ (.tail _ (b1o zO t3))) (by exact b5b u3 (by simp [g8])) ?_
         refine aU ?_
         cases b with
         | true =>
           rw [if_pos rfl] at hc4
           obtain ⟨x, hx, hc4⟩ := b9 hc4
           cases hc4
           refine aU ?_
           refine j4 (m6 hx) rfl ⟨(.refl _), (.refl _), trivial⟩ (i6 ⟨(g5 .i64).blws 0, rfl, trivial⟩) rfl ?_
           refine aU ?_
           exact R_n (!x) (by rw [e3]; exact hc3) hS wF
         | false =>
           rw [if_neg zS] at hc4
           cases hc4
           refine aU ?_
           exact R_n false (by rw [e3]; exact hc3) hS wF
      ·rw [Nat.sub_self] at hc3
       replace hc3 : (if is = true then (o6 s i).bind fun r => (o6 r (p : Int)).bind fun b => (if (!b) = true then some (.nxt (s.set i.toNat (r.set p true), true)) else some (.nxt (s, more))) else some (.nxt (s, more))) = some c3 := hc3
       refine a3I hw ?_
       have e3 : g_00.Kinds.length - (p + 1) = m2 := by omega
       refine aU ?_
       cases is with
       | false =>
         rw [if_neg zS] at hc3
         cases hc3
         refine aU ?_
         refine a9S rfl ?_
         refine aU ?_
         exact R_n (s, more) (by rw [e3]; exact hc2) hS wF
       | true =>
         rw [if_pos rfl] at hc3
         obtain ⟨rw1, hrw, hc3⟩ := b9 hc3
         obtain ⟨b, hb1, hc3⟩ := b9 hc3
         obtain ⟨t0, t1, t2, t3⟩ := a1P hrw
         obtain ⟨u0, u1, u2, u3⟩ := a1P hb1
         have hN1 : s.length = g_00.Nodes.length := hsh.1
         have hK1 : rw1.length = g_00.Kinds.length := hsh.2 _ (List.mem_of_getElem? t3)
         refine aU ?_
         refine n7 rfl rfl ⟨by omega, by omega⟩ ?_
         refine aU ?_
         refine v8 hS rfl (.tail _ (.head _)) (by exact a6I (show i.toNat < ads.length by omega)) ?_
         refine aU ?_
         refine n7 rfl rfl ⟨by omega, by omega⟩ ?_
         refine aU ?_
         refine v8 hS rfl (.tail _ (.tail _ (b1o zO t3))) (by exact b5b u3 (by simp [g8])) ?_
         refine aU ?_
         cases b with
         | true =>
           rw [if_neg zS] at hc3
           cases hc3
           refine a9S rfl ?_
           refine aU ?_
           exact R_n (s, more) (by rw [e3]; exact hc2) hS wF
         | false =>
           rw [if_pos (by rfl)] at hc3
           cases hc3
           refine a9x rfl ?_
           refine aU ?_
           refine n7 rfl rfl ⟨by omega, by omega⟩ ?_
           refine aU ?_
           refine v8 hS rfl (.tail _ (.head _)) (by exact a6I (show i.toNat < ads.length by omega)) ?_
           refine aU ?_
           refine n7 rfl rfl ⟨by omega, by omega⟩ ?_
           have hrp : Rp (itR ads s) (ads[i.toNat]'zO, 0, flat avB rw1) (ads[i.toNat]'zO, 0, splice (flat avB rw1) (0 + (p : Int).toNat * g8 none) (AV.bool true).cells) (itR ads (s.set i.toNat (rw1.set p true))) := by
            rw [b9c (p := p) zO (by simp [g8])]; exact c1m zO t3
           refine E_stS hS rfl zC (by exact .there (.there hrp)) rfl rfl (by rw [a8R.length]; simp [g8]; omega) (fun S hS => ?_)
           refine aU ?_
           exact R_n (s.set i.toNat (rw1.set p true), true) (by rw [e3]; exact hc2) hS wF
     ·rw [Nat.sub_self] at hc2
      replace hc2 : gd (Shp g_00.Nodes.length g_00.Kinds.length s.1) (some (.nxt (I64 (i - 1), s))) = some c2 := hc2
      obtain ⟨hsh, hc2⟩ := a0F hc2
      cases hc2
      refine a0m ?_
      refine a3I hw ?_
      refine aU ?_
      exact ⟨(m, I64 (i - 1), s), hc, Nat.lt_succ_self _, hS.sub (List.sublist_cons_self _ _), wF⟩
    ·rw [b0Y hb] at hc2
     cases hc2
     refine w8 ?_
     refine aE ?_
     replace hc : gd (Shp g_00.Nodes.length g_00.Kinds.length s) (some (.nxt (s, more))) = some c := hc
     obtain ⟨hsh, hc⟩ := a0F hc
     cases hc
     exact ⟨(n, s, more), h, Nat.lt_succ_self _, hS, wF⟩
end Go.Proofs.YtepdcebjobjjgaaDoor

