/- What ref7.Right says: the same as ir.Check. -/
import Derived.Test.YtipeiholgieclaaDoorGenR
import Derived.Test.YtipeiholgieclaaDoorWlTz
set_option linter.unusedVariables false
set_option linter.unusedSimpArgs false
namespace Go.Proofs.YtipeiholgieclaaDoor
open Go Go.Ab
theorem b6V (l : List Int) (v : Int) (hl : l.length <= 4611686018427387904) : a0E l v = some (decide (v ∈ l)) := by
 unfold a0E
 refine (a0D (xs := l) v (fun _ x => !(x == v)) true hl (fun i x hx => ?_)).trans ?_
 ·cases x == v <;> simp
 ·rw [a3i]
  by_cases h : v ∈ l
  ·have : (l.all fun x => !(x == v)) = false := by
    rw [List.all_eq_false]; exact ⟨v, h, by simp⟩
   rw [this]; simp [h]
  ·have : (l.all fun x => !(x == v)) = true := by
    rw [List.all_eq_true]; intro x hx
    have : x ≠ v := fun e => h (e ▸ hx)
    simpa using this
   rw [this]; simp [h]
theorem a1p (g : b5) (p k : Int) : b7 g false p k = some (a1Y g k p) := by
 unfold b7
 simp only [jp, decide_eq_true_eq]
 by_cases h1 : p >= 0
 case neg =>
  have : a1Y g k p = false := by unfold a1Y; simp; omega
  simp [this, h1]
 by_cases h2 : p < (List.length g.Kinds : Int)
 case neg =>
  have : a1Y g k p = false := by unfold a1Y; simp; omega
  simp [this, h1, h2]
 obtain ⟨q, rfl⟩ : ∃ i : Nat, p = (i : Int) := ⟨p.toNat, by omega⟩
 have hq : q < g.Kinds.length := by omega
 have e : a1Y g k (q : Int) = (g.Kinds[q] == k) := by
  unfold a1Y
  rw [a0d, List.getElem?_eq_getElem hq]
  simp [hq]
 rw [e, if_pos h1, if_pos h2, a0d, List.getElem?_eq_getElem hq]
 simp
theorem b5V (n : f6) : a0m n = some (a0O n) := by
 unfold a0m a0O
 simp only [jp, beq_iff_eq, decide_eq_true_eq, bne_iff_ne, ne_eq]
 by_cases h12 : n.Op = 12
 ·simp [h12]
 by_cases h14 : n.Op = 14
 ·simp [h14]
 by_cases h18 : n.Op = 18
 ·simp [h18]
 by_cases h9 : n.Op = 9
 ·by_cases he : n.Else = n.Next <;> simp [h9, he]
 by_cases h1 : n.Op < 1
 ·simp [h1, h12, h14, h18, h9]
 by_cases h2 : n.Op > 18 <;> simp [h1, h2, h12, h14, h18, h9]
theorem b5W (g : b5) : a0l g false = some (a3h g) := by
 unfold a0l a3h
 simp only [jp, Bool.false_eq_true, if_false]
 by_cases h1 : g.Kinds.length <= 1024
 case neg =>
  have h1' : (g.Kinds.length : Int) > 1024 := by omega
  simp [h1, h1']
 have h1' : ¬ ((g.Kinds.length : Int) > 1024) := by omega
 simp only [h1', decide_false, Bool.false_eq_true, if_false, h1, decide_true, Bool.true_and]
 have hk : ∀ (f : Unit -> Option Bool), ((rng (fun (i_4 : Nat) (k_5 : Int) (s_3 : Unit) => ((if (decide (k_5 > 1)) then (some (.ret (some false))) else (some (.nxt ()))) : Option (Stp Unit (Option Bool)))) g.Kinds ()).bind (oc f)) = if (g.Kinds.any fun k => decide (k > 1)) = true then some false else f () := fun f => by
  refine (a0D (xs := g.Kinds) () (fun _ x => !decide (x > 1)) false zO (fun i x hx => ?_)).trans ?_
  ·by_cases h : x > 1 <;> simp [h]
  ·rw [a3i]
   have e : (g.Kinds.all fun x => !decide (x > 1)) = !(g.Kinds.any fun k => decide (k > 1)) := by
    rw [List.not_any_eq_all_not]
   rw [e]
   cases g.Kinds.any fun k => decide (k > 1) <;> simp
 by_cases h3 : g.Params.length <= 4
 case neg =>
  have h3' : (g.Params.length : Int) > 4 := by omega
  simp [h3, h3']
 have h3' : ¬ ((g.Params.length : Int) > 4) := by omega
 simp only [h3', decide_false, Bool.false_eq_true, if_false, h3, decide_true, Bool.true_and]
 by_cases h4 : g.Init.length = g.Params.length
 case neg =>
  have h4' : ((g.Init.length : Int) != (g.Params.length : Int)) = true := by simp; omega
  simp [h4, h4']
 have h4' : ((g.Init.length : Int) != (g.Params.length : Int)) = false := by simp; omega
 simp only [h4', Bool.false_eq_true, if_false]
 simp only [h4, decide_true, Bool.true_and]
 by_cases h5 : 0 <= g.Cells
 case neg =>
  have h5' : g.Cells < 0 := by omega
  simp [h5, h5']
 have h5' : ¬ (g.Cells < 0) := by omega
 by_cases h6 : g.Cells <= 64
 case neg =>
  have h6' : g.Cells > 64 := by omega
  simp [h5', h6, h6']
 have h6' : ¬ (g.Cells > 64) := by omega
 simp only [h5', h6', decide_false, Bool.false_eq_true, if_false, h5, h6, and_self, decide_true, Bool.true_and]
 by_cases h7 : g.Keep < -1
 ·have : (decide (g.Keep = -1) || a1n g g.Keep) = false := by unfold a1n; simp; omega
  simp [h7, this]
 by_cases h8 : g.Keep >= g.Cells
 ·have : (decide (g.Keep = -1) || a1n g g.Keep) = false := by unfold a1n; simp; omega
  simp [h7, h8, this]
 have : (decide (g.Keep = -1) || a1n g g.Keep) = true := by unfold a1n; simp; omega
 simp only [this, h7, h8, decide_false, Bool.false_eq_true, if_false, Bool.true_and]
 rw [hk]
 cases h2 : g.Kinds.any fun k => decide (k > 1) with
 | true => simp
 | false =>
 simp only [Bool.false_eq_true, if_false, Bool.not_false, Bool.true_and]
 refine (a0D () (b5T g) false zO (fun i p hx => ?_)).trans ?_
 ·have hi : i < g.Params.length := (List.getElem?_eq_some_iff.1 hx).1
  have hi2 : i < g.Init.length := by omega
  have hsub : b2r g.Params 0 (i : Int) = some (g.Params.take i) := by
   unfold b2r; rw [if_pos zO]; simp
  simp only [b5T, List.getElem?_eq_getElem hi2, hsub, Option.bind_some, a0d]
  by_cases q1 : 0 <= p
  case neg =>
   have q1' : p < 0 := by omega
   simp [q1, q1']
  have q1' : ¬ (p < 0) := by omega
  by_cases q2 : p < (g.Kinds.length : Int)
  case neg =>
   have q2' : p >= (g.Kinds.length : Int) := by omega
   simp [q1', q2, q2']
  have q2' : ¬ (p >= (g.Kinds.length : Int)) := by omega
  simp only [q1', q2', decide_false, Bool.false_eq_true, if_false, q1, q2, and_self, decide_true, Bool.true_and]
  rw [b6V _ _ zE]
  by_cases q3 : p ∈ g.Params.take i
  ·simp [q3]
  simp only [q3, decide_false, Option.bind_some, Bool.false_eq_true, if_false, Bool.not_false, Bool.true_and]
  by_cases q4 : g.Init[i] < -1
  ·have e1 : ¬ g.Init[i] = -1 := by omega
   have e2 : a1n g g.Init[i] = false := by unfold a1n; simp; omega
   simp [q4, e1, e2]
  by_cases q5 : g.Init[i] >= g.Cells
  ·have e1 : ¬ g.Init[i] = -1 := by omega
   have e2 : a1n g g.Init[i] = false := by unfold a1n; simp; omega
   simp [q4, q5, e1, e2]
  by_cases q6 : g.Init[i] >= 0
  ·have e1 : ¬ g.Init[i] = -1 := by omega
   have e2 : a1n g g.Init[i] = true := by unfold a1n; simp; omega
   simp only [q4, q5, q6, e1, e2, decide_false, decide_true, Bool.false_eq_true, if_false, if_true, a1p, Option.bind_some, Bool.false_or, Bool.true_and]
   cases a1Y g 0 p <;> simp
  ·have e1 : g.Init[i] = -1 := by omega
   have e2 : -1 < g.Cells := by omega
   simp [q4, q5, q6, e1, e2]
 ·cases w5 (b5T g) 0 g.Params with
  | false => simp
  | true =>
    simp only [if_true, Bool.true_and, c5o]
    by_cases r1 : 1 <= g.Nodes.length
    case neg =>
     have r1' : ¬ ((g.Nodes.length : Int) >= 1) := by omega
     simp only [r1, r1', decide_false, Bool.false_eq_true, if_false, false_and]
    have r1' : (g.Nodes.length : Int) >= 1 := by omega
    by_cases r2 : g.Nodes.length <= 4096
    case neg =>
     have r2' : ¬ ((g.Nodes.length : Int) <= 4096) := by omega
     simp only [r1', r2, r2', decide_true, decide_false, Bool.false_eq_true, if_true, if_false, false_and, and_false]
    have r2' : (g.Nodes.length : Int) <= 4096 := by omega
    by_cases r3 : 0 <= g.Entry
    case neg =>
     have r3' : ¬ (g.Entry >= 0) := by omega
     simp only [r1', r2', r3, r3', decide_true, decide_false, Bool.false_eq_true, if_true, if_false, false_and, and_false]
    have r3' : g.Entry >= 0 := r3
    simp only [r1, r1', r2, r2', r3, r3', decide_true, if_true, true_and]
def chk (g : b5) (b p : Int) : Bool := if b = 110 then a1Y g 0 p else if b = 112 then a1Y g 1 p else true
theorem y7 (g : b5) (w : ByteArray) (bs : List Int) (hb : bs.length = 4) (hw : ∀ i : Nat, i < 4 -> a6p w (i : Int) = some (bs.getD i 0)) (ps : List Int) (hp : ps.length = 4) (f : Unit -> Option Bool) :
  ((rng (fun (i_12 : Nat) (p_13 : Int) (s_11 : Unit) => (((a6p w (i_12 : Int)).bind fun b_15 => (if (b_15 == 110) then ((b7 g false p_13 0).bind fun fit_16 => (if (!fit_16) then (some (.ret (some false))) else (some (.nxt ())))) else (if (b_15 == 112) then ((b7 g false p_13 1).bind fun fit_17 => (if (!fit_17) then (some (.ret (some false))) else (some (.nxt ())))) else (some (.nxt ()))))) : Option (Stp Unit (Option Bool)))) ps ()).bind (oc f)) = if w5 (fun i p => chk g (bs.getD i 0) p) 0 ps = true then f () else some false := by
 refine a0D () (fun i p => chk g (bs.getD i 0) p) false zO (fun i p hx => ?_)
 have hi : i < ps.length := (List.getElem?_eq_some_iff.1 hx).1
 rw [hw i zO]
 simp only [Option.bind_some, chk, a1p, beq_iff_eq]
 generalize bs.getD i 0 = b
 by_cases h1 : b = 110
 ·simp only [h1, if_true]; cases a1Y g 0 p <;> simp
 ·by_cases h2 : b = 112
  ·simp only [h2]; cases a1Y g 1 p <;> simp
  ·simp [h1, h2]
theorem b4x {all : List b5} {g : b5} {n : f6} (h : n.Op < 1 \/ n.Op > 18) : opB all g n = false := by
 have k : ∀ j : Int, 1 <= j -> j <= 18 -> ¬ n.Op = j := fun j _ _ => by omega
 unfold opB
 simp [k 1 zD zD, k 2 zD zD, k 3 zD zD, k 4 zD zD, k 5 zD zD, k 6 zD zD, k 7 zD zD, k 8 zD zD, k 9 zD zD, k 10 zD zD, k 11 zD zD, k 12 zD zD, k 13 zD zD, k 14 zD zD, k 15 zD zD, k 16 zD zD, k 17 zD zD, k 18 zD zD]
theorem a7O (g f : b5) (l : List Int) (hp : b0D f) (hl : l.length = f.Params.length) (h4 : f.Params.length <= 4) (F : Unit -> Option Bool) :
  ((rng (fun (i_44 : Nat) (p_45 : Int) (s_43 : Unit) => (((m0 f.Params (i_44 : Int)).bind fun y_52 => ((m0 f.Kinds y_52).bind fun y_53 => (if a1Y g y_53 p_45 = false then (some (.ret (some false))) else (some (.nxt ()))))) : Option (Stp Unit (Option Bool)))) l ()).bind (oc F)) = if w5 (b2G g f) 0 l = true then F () else some false := by
 refine a0D () (b2G g f) false zO (fun i p hx => ?_)
 have hi : i < l.length := (List.getElem?_eq_some_iff.1 hx).1
 have hip : i < f.Params.length := by omega
 have hr := hp _ (List.getElem_mem hip)
 obtain ⟨q, hq⟩ : ∃ q : Nat, f.Params[i] = (q : Int) := ⟨f.Params[i].toNat, by omega⟩
 have hqk : q < f.Kinds.length := by omega
 simp only [a0d, List.getElem?_eq_getElem hip, Option.bind_some, hq, List.getElem?_eq_getElem hqk, b2G, a1p]
 cases a1Y g f.Kinds[q] p <;> simp
theorem c0X (g : b5) (n : f6) (h : n.Op = 1) (F : Unit -> Option Bool) : ((d7 n.Op).bind fun wan_10 => ((rng (fun (i_12 : Nat) (p_13 : Int) (s_11 : Unit) => (((a6p wan_10 (i_12 : Int)).bind fun b_15 => (if (b_15 == 110) then ((b7 g false p_13 0).bind fun fit_16 => (if (!fit_16) then (some (.ret (some false))) else (some (.nxt ())))) else (if (b_15 == 112) then ((b7 g false p_13 1).bind fun fit_17 => (if (!fit_17) then (some (.ret (some false))) else (some (.nxt ())))) else (some (.nxt ()))))) : Option (Stp Unit (Option Bool)))) [n.D, n.E, n.A, n.B] ()).bind (oc F))) = if w5 (fun i p => chk g ([110, 45, 45, 45].getD i 0) p) 0 [n.D, n.E, n.A, n.B] = true then F () else some false := by
 have e : d7 n.Op = some (ByteArray.mk #[110, 45, 45, 45]) := by rw [h]; rfl
 rw [e]
 exact y7 g (ByteArray.mk #[110, 45, 45, 45]) [110, 45, 45, 45] rfl (fun i hi => by match i, hi with | 0, _ => rfl | 1, _ => rfl | 2, _ => rfl | 3, _ => rfl) [n.D, n.E, n.A, n.B] rfl F
theorem c0Y (g : b5) (n : f6) (h : n.Op = 2) (F : Unit -> Option Bool) : ((d7 n.Op).bind fun wan_10 => ((rng (fun (i_12 : Nat) (p_13 : Int) (s_11 : Unit) => (((a6p wan_10 (i_12 : Int)).bind fun b_15 => (if (b_15 == 110) then ((b7 g false p_13 0).bind fun fit_16 => (if (!fit_16) then (some (.ret (some false))) else (some (.nxt ())))) else (if (b_15 == 112) then ((b7 g false p_13 1).bind fun fit_17 => (if (!fit_17) then (some (.ret (some false))) else (some (.nxt ())))) else (some (.nxt ()))))) : Option (Stp Unit (Option Bool)))) [n.D, n.E, n.A, n.B] ()).bind (oc F))) = if w5 (fun i p => chk g ([61, 45, 61, 45].getD i 0) p) 0 [n.D, n.E, n.A, n.B] = true then F () else some false := by
 have e : d7 n.Op = some (ByteArray.mk #[61, 45, 61, 45]) := by rw [h]; rfl
 rw [e]
 exact y7 g (ByteArray.mk #[61, 45, 61, 45]) [61, 45, 61, 45] rfl (fun i hi => by match i, hi with | 0, _ => rfl | 1, _ => rfl | 2, _ => rfl | 3, _ => rfl) [n.D, n.E, n.A, n.B] rfl F
theorem c0Z (g : b5) (n : f6) (h : n.Op = 3) (F : Unit -> Option Bool) : ((d7 n.Op).bind fun wan_10 => ((rng (fun (i_12 : Nat) (p_13 : Int) (s_11 : Unit) => (((a6p wan_10 (i_12 : Int)).bind fun b_15 => (if (b_15 == 110) then ((b7 g false p_13 0).bind fun fit_16 => (if (!fit_16) then (some (.ret (some false))) else (some (.nxt ())))) else (if (b_15 == 112) then ((b7 g false p_13 1).bind fun fit_17 => (if (!fit_17) then (some (.ret (some false))) else (some (.nxt ())))) else (some (.nxt ()))))) : Option (Stp Unit (Option Bool)))) [n.D, n.E, n.A, n.B] ()).bind (oc F))) = if w5 (fun i p => chk g ([110, 45, 110, 110].getD i 0) p) 0 [n.D, n.E, n.A, n.B] = true then F () else some false := by
 have e : d7 n.Op = some (ByteArray.mk #[110, 45, 110, 110]) := by rw [h]; rfl
 rw [e]
 exact y7 g (ByteArray.mk #[110, 45, 110, 110]) [110, 45, 110, 110] rfl (fun i hi => by match i, hi with | 0, _ => rfl | 1, _ => rfl | 2, _ => rfl | 3, _ => rfl) [n.D, n.E, n.A, n.B] rfl F
theorem c1a (g : b5) (n : f6) (h : n.Op = 4) (F : Unit -> Option Bool) : ((d7 n.Op).bind fun wan_10 => ((rng (fun (i_12 : Nat) (p_13 : Int) (s_11 : Unit) => (((a6p wan_10 (i_12 : Int)).bind fun b_15 => (if (b_15 == 110) then ((b7 g false p_13 0).bind fun fit_16 => (if (!fit_16) then (some (.ret (some false))) else (some (.nxt ())))) else (if (b_15 == 112) then ((b7 g false p_13 1).bind fun fit_17 => (if (!fit_17) then (some (.ret (some false))) else (some (.nxt ())))) else (some (.nxt ()))))) : Option (Stp Unit (Option Bool)))) [n.D, n.E, n.A, n.B] ()).bind (oc F))) = if w5 (fun i p => chk g ([110, 45, 45, 45].getD i 0) p) 0 [n.D, n.E, n.A, n.B] = true then F () else some false := by
 have e : d7 n.Op = some (ByteArray.mk #[110, 45, 45, 45]) := by rw [h]; rfl
 rw [e]
 exact y7 g (ByteArray.mk #[110, 45, 45, 45]) [110, 45, 45, 45] rfl (fun i hi => by match i, hi with | 0, _ => rfl | 1, _ => rfl | 2, _ => rfl | 3, _ => rfl) [n.D, n.E, n.A, n.B] rfl F
theorem c1b (g : b5) (n : f6) (h : n.Op = 5) (F : Unit -> Option Bool) : ((d7 n.Op).bind fun wan_10 => ((rng (fun (i_12 : Nat) (p_13 : Int) (s_11 : Unit) => (((a6p wan_10 (i_12 : Int)).bind fun b_15 => (if (b_15 == 110) then ((b7 g false p_13 0).bind fun fit_16 => (if (!fit_16) then (some (.ret (some false))) else (some (.nxt ())))) else (if (b_15 == 112) then ((b7 g false p_13 1).bind fun fit_17 => (if (!fit_17) then (some (.ret (some false))) else (some (.nxt ())))) else (some (.nxt ()))))) : Option (Stp Unit (Option Bool)))) [n.D, n.E, n.A, n.B] ()).bind (oc F))) = if w5 (fun i p => chk g ([45, 45, 110, 45].getD i 0) p) 0 [n.D, n.E, n.A, n.B] = true then F () else some false := by
 have e : d7 n.Op = some (ByteArray.mk #[45, 45, 110, 45]) := by rw [h]; rfl
 rw [e]
 exact y7 g (ByteArray.mk #[45, 45, 110, 45]) [45, 45, 110, 45] rfl (fun i hi => by match i, hi with | 0, _ => rfl | 1, _ => rfl | 2, _ => rfl | 3, _ => rfl) [n.D, n.E, n.A, n.B] rfl F
theorem c1c (g : b5) (n : f6) (h : n.Op = 6) (F : Unit -> Option Bool) : ((d7 n.Op).bind fun wan_10 => ((rng (fun (i_12 : Nat) (p_13 : Int) (s_11 : Unit) => (((a6p wan_10 (i_12 : Int)).bind fun b_15 => (if (b_15 == 110) then ((b7 g false p_13 0).bind fun fit_16 => (if (!fit_16) then (some (.ret (some false))) else (some (.nxt ())))) else (if (b_15 == 112) then ((b7 g false p_13 1).bind fun fit_17 => (if (!fit_17) then (some (.ret (some false))) else (some (.nxt ())))) else (some (.nxt ()))))) : Option (Stp Unit (Option Bool)))) [n.D, n.E, n.A, n.B] ()).bind (oc F))) = if w5 (fun i p => chk g ([112, 45, 45, 45].getD i 0) p) 0 [n.D, n.E, n.A, n.B] = true then F () else some false := by
 have e : d7 n.Op = some (ByteArray.mk #[112, 45, 45, 45]) := by rw [h]; rfl
 rw [e]
 exact y7 g (ByteArray.mk #[112, 45, 45, 45]) [112, 45, 45, 45] rfl (fun i hi => by match i, hi with | 0, _ => rfl | 1, _ => rfl | 2, _ => rfl | 3, _ => rfl) [n.D, n.E, n.A, n.B] rfl F
theorem c1d (g : b5) (n : f6) (h : n.Op = 7) (F : Unit -> Option Bool) : ((d7 n.Op).bind fun wan_10 => ((rng (fun (i_12 : Nat) (p_13 : Int) (s_11 : Unit) => (((a6p wan_10 (i_12 : Int)).bind fun b_15 => (if (b_15 == 110) then ((b7 g false p_13 0).bind fun fit_16 => (if (!fit_16) then (some (.ret (some false))) else (some (.nxt ())))) else (if (b_15 == 112) then ((b7 g false p_13 1).bind fun fit_17 => (if (!fit_17) then (some (.ret (some false))) else (some (.nxt ())))) else (some (.nxt ()))))) : Option (Stp Unit (Option Bool)))) [n.D, n.E, n.A, n.B] ()).bind (oc F))) = if w5 (fun i p => chk g ([110, 45, 112, 45].getD i 0) p) 0 [n.D, n.E, n.A, n.B] = true then F () else some false := by
 have e : d7 n.Op = some (ByteArray.mk #[110, 45, 112, 45]) := by rw [h]; rfl
 rw [e]
 exact y7 g (ByteArray.mk #[110, 45, 112, 45]) [110, 45, 112, 45] rfl (fun i hi => by match i, hi with | 0, _ => rfl | 1, _ => rfl | 2, _ => rfl | 3, _ => rfl) [n.D, n.E, n.A, n.B] rfl F
theorem c1e (g : b5) (n : f6) (h : n.Op = 8) (F : Unit -> Option Bool) : ((d7 n.Op).bind fun wan_10 => ((rng (fun (i_12 : Nat) (p_13 : Int) (s_11 : Unit) => (((a6p wan_10 (i_12 : Int)).bind fun b_15 => (if (b_15 == 110) then ((b7 g false p_13 0).bind fun fit_16 => (if (!fit_16) then (some (.ret (some false))) else (some (.nxt ())))) else (if (b_15 == 112) then ((b7 g false p_13 1).bind fun fit_17 => (if (!fit_17) then (some (.ret (some false))) else (some (.nxt ())))) else (some (.nxt ()))))) : Option (Stp Unit (Option Bool)))) [n.D, n.E, n.A, n.B] ()).bind (oc F))) = if w5 (fun i p => chk g ([45, 45, 112, 110].getD i 0) p) 0 [n.D, n.E, n.A, n.B] = true then F () else some false := by
 have e : d7 n.Op = some (ByteArray.mk #[45, 45, 112, 110]) := by rw [h]; rfl
 rw [e]
 exact y7 g (ByteArray.mk #[45, 45, 112, 110]) [45, 45, 112, 110] rfl (fun i hi => by match i, hi with | 0, _ => rfl | 1, _ => rfl | 2, _ => rfl | 3, _ => rfl) [n.D, n.E, n.A, n.B] rfl F
theorem c1f (g : b5) (n : f6) (h : n.Op = 9) (F : Unit -> Option Bool) : ((d7 n.Op).bind fun wan_10 => ((rng (fun (i_12 : Nat) (p_13 : Int) (s_11 : Unit) => (((a6p wan_10 (i_12 : Int)).bind fun b_15 => (if (b_15 == 110) then ((b7 g false p_13 0).bind fun fit_16 => (if (!fit_16) then (some (.ret (some false))) else (some (.nxt ())))) else (if (b_15 == 112) then ((b7 g false p_13 1).bind fun fit_17 => (if (!fit_17) then (some (.ret (some false))) else (some (.nxt ())))) else (some (.nxt ()))))) : Option (Stp Unit (Option Bool)))) [n.D, n.E, n.A, n.B] ()).bind (oc F))) = if w5 (fun i p => chk g ([45, 45, 110, 45].getD i 0) p) 0 [n.D, n.E, n.A, n.B] = true then F () else some false := by
 have e : d7 n.Op = some (ByteArray.mk #[45, 45, 110, 45]) := by rw [h]; rfl
 rw [e]
 exact y7 g (ByteArray.mk #[45, 45, 110, 45]) [45, 45, 110, 45] rfl (fun i hi => by match i, hi with | 0, _ => rfl | 1, _ => rfl | 2, _ => rfl | 3, _ => rfl) [n.D, n.E, n.A, n.B] rfl F
theorem b8h (g : b5) (n : f6) (h : n.Op = 10) (F : Unit -> Option Bool) : ((d7 n.Op).bind fun wan_10 => ((rng (fun (i_12 : Nat) (p_13 : Int) (s_11 : Unit) => (((a6p wan_10 (i_12 : Int)).bind fun b_15 => (if (b_15 == 110) then ((b7 g false p_13 0).bind fun fit_16 => (if (!fit_16) then (some (.ret (some false))) else (some (.nxt ())))) else (if (b_15 == 112) then ((b7 g false p_13 1).bind fun fit_17 => (if (!fit_17) then (some (.ret (some false))) else (some (.nxt ())))) else (some (.nxt ()))))) : Option (Stp Unit (Option Bool)))) [n.D, n.E, n.A, n.B] ()).bind (oc F))) = if w5 (fun i p => chk g ([45, 45, 45, 45].getD i 0) p) 0 [n.D, n.E, n.A, n.B] = true then F () else some false := by
 have e : d7 n.Op = some (ByteArray.mk #[45, 45, 45, 45]) := by rw [h]; rfl
 rw [e]
 exact y7 g (ByteArray.mk #[45, 45, 45, 45]) [45, 45, 45, 45] rfl (fun i hi => by match i, hi with | 0, _ => rfl | 1, _ => rfl | 2, _ => rfl | 3, _ => rfl) [n.D, n.E, n.A, n.B] rfl F
theorem b8i (g : b5) (n : f6) (h : n.Op = 11) (F : Unit -> Option Bool) : ((d7 n.Op).bind fun wan_10 => ((rng (fun (i_12 : Nat) (p_13 : Int) (s_11 : Unit) => (((a6p wan_10 (i_12 : Int)).bind fun b_15 => (if (b_15 == 110) then ((b7 g false p_13 0).bind fun fit_16 => (if (!fit_16) then (some (.ret (some false))) else (some (.nxt ())))) else (if (b_15 == 112) then ((b7 g false p_13 1).bind fun fit_17 => (if (!fit_17) then (some (.ret (some false))) else (some (.nxt ())))) else (some (.nxt ()))))) : Option (Stp Unit (Option Bool)))) [n.D, n.E, n.A, n.B] ()).bind (oc F))) = if w5 (fun i p => chk g ([45, 45, 45, 45].getD i 0) p) 0 [n.D, n.E, n.A, n.B] = true then F () else some false := by
 have e : d7 n.Op = some (ByteArray.mk #[45, 45, 45, 45]) := by rw [h]; rfl
 rw [e]
 exact y7 g (ByteArray.mk #[45, 45, 45, 45]) [45, 45, 45, 45] rfl (fun i hi => by match i, hi with | 0, _ => rfl | 1, _ => rfl | 2, _ => rfl | 3, _ => rfl) [n.D, n.E, n.A, n.B] rfl F
theorem b8j (g : b5) (n : f6) (h : n.Op = 12) (F : Unit -> Option Bool) : ((d7 n.Op).bind fun wan_10 => ((rng (fun (i_12 : Nat) (p_13 : Int) (s_11 : Unit) => (((a6p wan_10 (i_12 : Int)).bind fun b_15 => (if (b_15 == 110) then ((b7 g false p_13 0).bind fun fit_16 => (if (!fit_16) then (some (.ret (some false))) else (some (.nxt ())))) else (if (b_15 == 112) then ((b7 g false p_13 1).bind fun fit_17 => (if (!fit_17) then (some (.ret (some false))) else (some (.nxt ())))) else (some (.nxt ()))))) : Option (Stp Unit (Option Bool)))) [n.D, n.E, n.A, n.B] ()).bind (oc F))) = if w5 (fun i p => chk g ([45, 45, 45, 45].getD i 0) p) 0 [n.D, n.E, n.A, n.B] = true then F () else some false := by
 have e : d7 n.Op = some (ByteArray.mk #[45, 45, 45, 45]) := by rw [h]; rfl
 rw [e]
 exact y7 g (ByteArray.mk #[45, 45, 45, 45]) [45, 45, 45, 45] rfl (fun i hi => by match i, hi with | 0, _ => rfl | 1, _ => rfl | 2, _ => rfl | 3, _ => rfl) [n.D, n.E, n.A, n.B] rfl F
theorem b8k (g : b5) (n : f6) (h : n.Op = 13) (F : Unit -> Option Bool) : ((d7 n.Op).bind fun wan_10 => ((rng (fun (i_12 : Nat) (p_13 : Int) (s_11 : Unit) => (((a6p wan_10 (i_12 : Int)).bind fun b_15 => (if (b_15 == 110) then ((b7 g false p_13 0).bind fun fit_16 => (if (!fit_16) then (some (.ret (some false))) else (some (.nxt ())))) else (if (b_15 == 112) then ((b7 g false p_13 1).bind fun fit_17 => (if (!fit_17) then (some (.ret (some false))) else (some (.nxt ())))) else (some (.nxt ()))))) : Option (Stp Unit (Option Bool)))) [n.D, n.E, n.A, n.B] ()).bind (oc F))) = if w5 (fun i p => chk g ([45, 45, 45, 45].getD i 0) p) 0 [n.D, n.E, n.A, n.B] = true then F () else some false := by
 have e : d7 n.Op = some (ByteArray.mk #[45, 45, 45, 45]) := by rw [h]; rfl
 rw [e]
 exact y7 g (ByteArray.mk #[45, 45, 45, 45]) [45, 45, 45, 45] rfl (fun i hi => by match i, hi with | 0, _ => rfl | 1, _ => rfl | 2, _ => rfl | 3, _ => rfl) [n.D, n.E, n.A, n.B] rfl F
theorem b8l (g : b5) (n : f6) (h : n.Op = 14) (F : Unit -> Option Bool) : ((d7 n.Op).bind fun wan_10 => ((rng (fun (i_12 : Nat) (p_13 : Int) (s_11 : Unit) => (((a6p wan_10 (i_12 : Int)).bind fun b_15 => (if (b_15 == 110) then ((b7 g false p_13 0).bind fun fit_16 => (if (!fit_16) then (some (.ret (some false))) else (some (.nxt ())))) else (if (b_15 == 112) then ((b7 g false p_13 1).bind fun fit_17 => (if (!fit_17) then (some (.ret (some false))) else (some (.nxt ())))) else (some (.nxt ()))))) : Option (Stp Unit (Option Bool)))) [n.D, n.E, n.A, n.B] ()).bind (oc F))) = if w5 (fun i p => chk g ([45, 45, 110, 45].getD i 0) p) 0 [n.D, n.E, n.A, n.B] = true then F () else some false := by
 have e : d7 n.Op = some (ByteArray.mk #[45, 45, 110, 45]) := by rw [h]; rfl
 rw [e]
 exact y7 g (ByteArray.mk #[45, 45, 110, 45]) [45, 45, 110, 45] rfl (fun i hi => by match i, hi with | 0, _ => rfl | 1, _ => rfl | 2, _ => rfl | 3, _ => rfl) [n.D, n.E, n.A, n.B] rfl F
theorem b8m (g : b5) (n : f6) (h : n.Op = 15) (F : Unit -> Option Bool) : ((d7 n.Op).bind fun wan_10 => ((rng (fun (i_12 : Nat) (p_13 : Int) (s_11 : Unit) => (((a6p wan_10 (i_12 : Int)).bind fun b_15 => (if (b_15 == 110) then ((b7 g false p_13 0).bind fun fit_16 => (if (!fit_16) then (some (.ret (some false))) else (some (.nxt ())))) else (if (b_15 == 112) then ((b7 g false p_13 1).bind fun fit_17 => (if (!fit_17) then (some (.ret (some false))) else (some (.nxt ())))) else (some (.nxt ()))))) : Option (Stp Unit (Option Bool)))) [n.D, n.E, n.A, n.B] ()).bind (oc F))) = if w5 (fun i p => chk g ([110, 110, 45, 45].getD i 0) p) 0 [n.D, n.E, n.A, n.B] = true then F () else some false := by
 have e : d7 n.Op = some (ByteArray.mk #[110, 110, 45, 45]) := by rw [h]; rfl
 rw [e]
 exact y7 g (ByteArray.mk #[110, 110, 45, 45]) [110, 110, 45, 45] rfl (fun i hi => by match i, hi with | 0, _ => rfl | 1, _ => rfl | 2, _ => rfl | 3, _ => rfl) [n.D, n.E, n.A, n.B] rfl F
theorem b8n (g : b5) (n : f6) (h : n.Op = 16) (F : Unit -> Option Bool) : ((d7 n.Op).bind fun wan_10 => ((rng (fun (i_12 : Nat) (p_13 : Int) (s_11 : Unit) => (((a6p wan_10 (i_12 : Int)).bind fun b_15 => (if (b_15 == 110) then ((b7 g false p_13 0).bind fun fit_16 => (if (!fit_16) then (some (.ret (some false))) else (some (.nxt ())))) else (if (b_15 == 112) then ((b7 g false p_13 1).bind fun fit_17 => (if (!fit_17) then (some (.ret (some false))) else (some (.nxt ())))) else (some (.nxt ()))))) : Option (Stp Unit (Option Bool)))) [n.D, n.E, n.A, n.B] ()).bind (oc F))) = if w5 (fun i p => chk g ([110, 45, 45, 45].getD i 0) p) 0 [n.D, n.E, n.A, n.B] = true then F () else some false := by
 have e : d7 n.Op = some (ByteArray.mk #[110, 45, 45, 45]) := by rw [h]; rfl
 rw [e]
 exact y7 g (ByteArray.mk #[110, 45, 45, 45]) [110, 45, 45, 45] rfl (fun i hi => by match i, hi with | 0, _ => rfl | 1, _ => rfl | 2, _ => rfl | 3, _ => rfl) [n.D, n.E, n.A, n.B] rfl F
theorem b8o (g : b5) (n : f6) (h : n.Op = 17) (F : Unit -> Option Bool) : ((d7 n.Op).bind fun wan_10 => ((rng (fun (i_12 : Nat) (p_13 : Int) (s_11 : Unit) => (((a6p wan_10 (i_12 : Int)).bind fun b_15 => (if (b_15 == 110) then ((b7 g false p_13 0).bind fun fit_16 => (if (!fit_16) then (some (.ret (some false))) else (some (.nxt ())))) else (if (b_15 == 112) then ((b7 g false p_13 1).bind fun fit_17 => (if (!fit_17) then (some (.ret (some false))) else (some (.nxt ())))) else (some (.nxt ()))))) : Option (Stp Unit (Option Bool)))) [n.D, n.E, n.A, n.B] ()).bind (oc F))) = if w5 (fun i p => chk g ([45, 45, 110, 45].getD i 0) p) 0 [n.D, n.E, n.A, n.B] = true then F () else some false := by
 have e : d7 n.Op = some (ByteArray.mk #[45, 45, 110, 45]) := by rw [h]; rfl
 rw [e]
 exact y7 g (ByteArray.mk #[45, 45, 110, 45]) [45, 45, 110, 45] rfl (fun i hi => by match i, hi with | 0, _ => rfl | 1, _ => rfl | 2, _ => rfl | 3, _ => rfl) [n.D, n.E, n.A, n.B] rfl F
theorem b8p (g : b5) (n : f6) (h : n.Op = 18) (F : Unit -> Option Bool) : ((d7 n.Op).bind fun wan_10 => ((rng (fun (i_12 : Nat) (p_13 : Int) (s_11 : Unit) => (((a6p wan_10 (i_12 : Int)).bind fun b_15 => (if (b_15 == 110) then ((b7 g false p_13 0).bind fun fit_16 => (if (!fit_16) then (some (.ret (some false))) else (some (.nxt ())))) else (if (b_15 == 112) then ((b7 g false p_13 1).bind fun fit_17 => (if (!fit_17) then (some (.ret (some false))) else (some (.nxt ())))) else (some (.nxt ()))))) : Option (Stp Unit (Option Bool)))) [n.D, n.E, n.A, n.B] ()).bind (oc F))) = if w5 (fun i p => chk g ([45, 45, 110, 45].getD i 0) p) 0 [n.D, n.E, n.A, n.B] = true then F () else some false := by
 have e : d7 n.Op = some (ByteArray.mk #[45, 45, 110, 45]) := by rw [h]; rfl
 rw [e]
 exact y7 g (ByteArray.mk #[45, 45, 110, 45]) [45, 45, 110, 45] rfl (fun i hi => by match i, hi with | 0, _ => rfl | 1, _ => rfl | 2, _ => rfl | 3, _ => rfl) [n.D, n.E, n.A, n.B] rfl F
theorem b5X (all : List b5) (g : b5) (n : f6) (hp : ∀ f ∈ all, b0D f /\ f.Params.length <= 4) : a0n all g false n = some (a2h all g n) := by
 unfold a0n a2h
 simp only [jp]
 by_cases o1 : n.Op < 1
 ·simp [o1, b4x (.inl o1)]
 by_cases o2 : n.Op > 18
 ·simp [o1, o2, b4x (.inr o2)]
 simp only [o1, o2, decide_false, Bool.false_eq_true, if_false, b5V, Option.bind_some]
 refine (a0D (xs := a0O n) () (fun _ to => decide (0 <= to /\ to < g.Nodes.length)) false (by have := a5q n; omega) (fun i to hx => ?_)).trans ?_
 ·by_cases q1 : 0 <= to
  case neg =>
   have q1' : to < 0 := by omega
   simp [q1, q1']
  have q1' : ¬ (to < 0) := by omega
  by_cases q2 : to < (g.Nodes.length : Int)
  case neg =>
   have q2' : to >= (g.Nodes.length : Int) := by omega
   simp [q1', q2, q2']
  have q2' : ¬ (to >= (g.Nodes.length : Int)) := by omega
  simp [q1, q1', q2, q2']
 rw [a3i]
 cases (a0O n).all fun to => decide (0 <= to /\ to < g.Nodes.length) with
 | false => simp
 | true =>
 simp only [if_true, Bool.true_and]
 have hop : n.Op = 1 \/ n.Op = 2 \/ n.Op = 3 \/ n.Op = 4 \/ n.Op = 5 \/ n.Op = 6 \/ n.Op = 7 \/ n.Op = 8 \/ n.Op = 9 \/ n.Op = 10 \/ n.Op = 11 \/ n.Op = 12 \/ n.Op = 13 \/ n.Op = 14 \/ n.Op = 15 \/ n.Op = 16 \/ n.Op = 17 \/ n.Op = 18 := by omega
 rcases hop with h | h | h | h | h | h | h | h | h | h | h | h | h | h | h | h | h | h
 ·refine (c0X g n h _).trans ?_
  cases a0 : a1Y g 0 n.D <;> simp [w5, chk, opB, isB, h, a0, a1p]
 ·refine (c0Y g n h _).trans ?_
  cases a0 : a1Y g 0 n.D <;> cases a1 : a1Y g 0 n.A <;> cases a2 : a1Y g 1 n.D <;> cases a3 : a1Y g 1 n.A <;> simp [w5, chk, opB, isB, h, a0, a1, a2, a3, a1p]
 ·refine (c0Z g n h _).trans ?_
  cases a0 : a1Y g 0 n.D <;> cases a1 : a1Y g 0 n.A <;> cases a2 : a1Y g 0 n.B <;> by_cases q1 : n.By >= 7 <;> by_cases q2 : n.By <= 20 <;> simp [w5, chk, opB, isB, h, a0, a1, a2, q1, q2] <;> omega
 ·refine (c1a g n h _).trans ?_
  cases a0 : a1Y g 0 n.D <;> by_cases q1 : n.Cell >= 0 <;> by_cases q2 : n.Cell < g.Cells <;> simp [w5, chk, opB, isB, a1n, h, a0, q1, q2] <;> omega
 ·refine (c1b g n h _).trans ?_
  cases a0 : a1Y g 0 n.A <;> by_cases q1 : n.Cell >= 0 <;> by_cases q2 : n.Cell < g.Cells <;> simp [w5, chk, opB, isB, a1n, h, a0, q1, q2] <;> omega
 ·refine (c1c g n h _).trans ?_
  cases a0 : a1Y g 1 n.D <;> by_cases q1 : n.Cell >= 0 <;> by_cases q2 : n.Cell < g.Cells <;> simp [w5, chk, opB, isB, a1n, h, a0, q1, q2] <;> omega
 ·refine (c1d g n h _).trans ?_
  cases a0 : a1Y g 0 n.D <;> cases a1 : a1Y g 1 n.A <;> simp [w5, chk, opB, isB, h, a0, a1, a1p]
 ·refine (c1e g n h _).trans ?_
  cases a0 : a1Y g 1 n.A <;> cases a1 : a1Y g 0 n.B <;> simp [w5, chk, opB, isB, h, a0, a1, a1p]
 ·refine (c1f g n h _).trans ?_
  cases a0 : a1Y g 0 n.A <;> simp [w5, chk, opB, isB, h, a0, a1p]
 ·refine (b8h g n h _).trans ?_
  simp [w5, chk, opB, isB, h, a1p]
 ·refine (b8i g n h _).trans ?_
  have hc : w5 (fun i p => chk g ([45, 45, 45, 45].getD i 0) p) 0 [n.D, n.E, n.A, n.B] = true := by simp [w5, chk]
  rw [if_pos hc]
  by_cases h1 : n.F < 0
  ·have e : m0 all n.F = none := by unfold m0; rw [if_neg zO]
   have ho : opB all g n = false := by simp [opB, a9G, h, e]
   rw [ho]; simp [h, h1]
  obtain ⟨F, hF⟩ : ∃ i : Nat, n.F = (i : Int) := ⟨n.F.toNat, by omega⟩
  by_cases h2 : F < all.length
  case neg =>
   have h2' : n.F >= (all.length : Int) := by omega
   have e : m0 all n.F = none := by rw [hF, a0d]; exact List.getElem?_eq_none zO
   have ho : opB all g n = false := by simp [opB, a9G, h, e]
   rw [ho]; simp [h, h1, h2']
  have h2' : ¬ (n.F >= (all.length : Int)) := by omega
  have e : m0 all n.F = some all[F] := by rw [hF, a0d]; exact List.getElem?_eq_getElem h2
  obtain ⟨hpF, hp4⟩ := hp _ (List.getElem_mem h2)
  generalize all[F] = f at hpF hp4 e
  have ho : opB all g n = ((decide (n.Args.length = f.Params.length) && w5 (b2G g f) 0 n.Args) && (decide (n.D = -1) || (a1Y g 0 n.D && f.Result))) := by simp [opB, a9G, h, e, isB]
  rw [ho]
  by_cases h3 : n.Args.length = f.Params.length
  case neg =>
   have h3' : ((n.Args.length : Int) != (f.Params.length : Int)) = true := by simp; omega
   simp [h, h1, h2', e, h3, h3']
   intro hh; exact absurd zO h3
  have h3' : ((n.Args.length : Int) != (f.Params.length : Int)) = false := by simp [h3]
  simp [h, h1, h2', e, h3', h3, a1p]
  refine (a7O g f n.Args hpF h3 hp4 _).trans ?_
  cases ha : w5 (b2G g f) 0 n.Args with
  | false => simp
  | true =>
    cases a0 : a1Y g 0 n.D <;> by_cases q : n.D = -1 <;> cases r : f.Result <;> simp [q, a0, r]
 ·refine (b8j g n h _).trans ?_
  simp only [w5, chk, h, a1p]
  cases a0 : a1Y g 0 n.A <;> by_cases q : n.A = -1 <;> cases r : g.Result <;> simp [opB, isB, h, a0, q, r]
 ·refine (b8k g n h _).trans ?_
  have hc : w5 (fun i p => chk g ([45, 45, 45, 45].getD i 0) p) 0 [n.D, n.E, n.A, n.B] = true := by simp [w5, chk]
  rw [if_pos hc]
  by_cases h1 : n.F < 0
  ·have e : m0 all n.F = none := by unfold m0; rw [if_neg zO]
   have ho : opB all g n = false := by simp [opB, a9G, h, e]
   rw [ho]; simp [h, h1]
  obtain ⟨F, hF⟩ : ∃ i : Nat, n.F = (i : Int) := ⟨n.F.toNat, by omega⟩
  by_cases h2 : F < all.length
  case neg =>
   have h2' : n.F >= (all.length : Int) := by omega
   have e : m0 all n.F = none := by rw [hF, a0d]; exact List.getElem?_eq_none zO
   have ho : opB all g n = false := by simp [opB, a9G, h, e]
   rw [ho]; simp [h, h1, h2']
  have h2' : ¬ (n.F >= (all.length : Int)) := by omega
  have e : m0 all n.F = some all[F] := by rw [hF, a0d]; exact List.getElem?_eq_getElem h2
  obtain ⟨hpF, hp4⟩ := hp _ (List.getElem_mem h2)
  generalize all[F] = f at hpF hp4 e
  have ho : opB all g n = (decide (n.Args.length = f.Params.length) && w5 (b2G g f) 0 n.Args) := by simp [opB, a9G, h, e, isB]
  rw [ho]
  by_cases h3 : n.Args.length = f.Params.length
  case neg =>
   have h3' : ((n.Args.length : Int) != (f.Params.length : Int)) = true := by simp; omega
   simp [h, h1, h2', e, h3, h3']
   intro hh; exact absurd zO h3
  have h3' : ((n.Args.length : Int) != (f.Params.length : Int)) = false := by simp [h3]
  simp [h, h1, h2', e, h3', h3, a1p]
  refine (a7O g f n.Args hpF h3 hp4 _).trans ?_
  cases ha : w5 (b2G g f) 0 n.Args with
  | false => simp
  | true =>
    cases a0 : a1Y g 0 n.D <;> by_cases q : n.D = -1 <;> cases r : f.Result <;> simp [q, a0, r]
 ·refine (b8l g n h _).trans ?_
  cases a0 : a1Y g 0 n.A <;> simp [w5, chk, opB, isB, h, a0, a1p]
 ·refine (b8m g n h _).trans ?_
  cases a0 : a1Y g 0 n.D <;> cases a1 : a1Y g 0 n.E <;> by_cases q : n.D = n.E <;> simp [w5, chk, opB, isB, h, a0, a1, q]
 ·refine (b8n g n h _).trans ?_
  cases a0 : a1Y g 0 n.D <;> simp [w5, chk, opB, isB, h, a0, a1p]
 ·refine (b8o g n h _).trans ?_
  cases a0 : a1Y g 0 n.A <;> simp [w5, chk, opB, isB, h, a0, a1p]
 ·refine (b8p g n h _).trans ?_
  cases a0 : a1Y g 0 n.A <;> simp [w5, chk, opB, isB, h, a0, a1p]
theorem b1H (G : g7) : w6 G false = some (a4k G) := by
 unfold w6 a4k
 simp only [jp]
 by_cases h1 : 1 <= G.Funcs.length
 case neg =>
  have h1' : (G.Funcs.length : Int) < 1 := by omega
  simp [h1, h1']
 have h1' : ¬ (G.Funcs.length : Int) < 1 := by omega
 by_cases h2 : G.Funcs.length <= 16
 case neg =>
  have h2' : (G.Funcs.length : Int) > 16 := by omega
  simp [h1', h2, h2']
 have h2' : ¬ (G.Funcs.length : Int) > 16 := by omega
 obtain ⟨f0, hf0⟩ : ∃ f, G.Funcs[0]? = some f := ⟨_, List.getElem?_eq_getElem (show 0 < G.Funcs.length by omega)⟩
 have hg0 : m0 G.Funcs 0 = some f0 := by
  have := a0d (l := G.Funcs) (i := 0)
  rw [hf0] at this; exact this
 have hm : b2C G = (decide (f0.Params.length = 0) && !f0.Result) := by unfold b2C; rw [hf0]
 simp only [h1', h2', decide_false, Bool.false_eq_true, if_false, hg0, Option.bind_some, h1, h2, and_self, decide_true, Bool.true_and, hm]
 by_cases h3 : f0.Params.length = 0
 case neg =>
  have h3' : ((f0.Params.length : Int) != 0) = true := by simp; intro e; exact h3 (by simp [e])
  simp [h3, h3']
 have h3' : ((f0.Params.length : Int) != 0) = false := by simp [h3]
 simp only [h3', Bool.false_eq_true, if_false, h3, decide_true, Bool.true_and]
 cases h4 : f0.Result with
 | true => simp
 | false =>
 simp only [Bool.false_eq_true, if_false, Bool.not_false, Bool.true_and]
 refine (a0D (xs := G.Funcs) () (fun _ f => a3h f) false zO (fun i f hx => ?_)).trans ?_
 ·simp only [b5W, Option.bind_some]
  cases a3h f <;> simp
 rw [a1Z]
 cases h5 : G.Funcs.all a3h with
 | false => simp
 | true =>
 simp only [if_true, Bool.true_and]
 have hh : ∀ f ∈ G.Funcs, a3h f = true := List.all_eq_true.1 h5
 have hp : ∀ f ∈ G.Funcs, b0D f /\ f.Params.length <= 4 := fun f hf => ⟨(a0R (hh f hf)).2.2.1, (a0R (hh f hf)).2.1⟩
 refine (a0D (xs := G.Funcs) () (fun _ f => f.Nodes.all (a2h G.Funcs f)) false zO (fun i f hx => ?_)).trans ?_
 ·have hn := a0R (hh f (List.mem_of_getElem? hx))
  refine (a0D () (fun _ n => a2h G.Funcs f n) (Stp.ret (some false)) zO (fun j n hy => ?_)).trans ?_
  ·simp only [b5X _ _ _ hp, Option.bind_some]
   cases a2h G.Funcs f n <;> simp
  ·rw [a1Z]
   cases f.Nodes.all (a2h G.Funcs f) <;> simp
 ·rw [a1Z]
  cases (G.Funcs.all fun f => f.Nodes.all (a2h G.Funcs f)) <;> simp
end Go.Proofs.YtipeiholgieclaaDoor

/- The document's run of graphs: what it is, plainly and as objects. -/
namespace Go.Ab
theorem vT {A l J : List AV} {m n k : Nat} {x : AV} (hA : A.length = n * m) (hx : l[k]? = some x) : a1y none (A ++ (l ++ J)) (0 + n * g6 (some m) + k) = some x := by
 have hk := (List.getElem?_eq_some_iff.1 hx).1
 have e : 0 + n * g6 (some m) + k = A.length + k := by rw [hA]; simp [g6]
 unfold a1y
 rw [e]
 simp only [List.length_append]
 rw [if_pos zO, List.getD_eq_getElem?_getD, List.getElem?_append_right zO, Nat.add_sub_cancel_left, List.getElem?_append_left hk, hx]; rfl
theorem vT0 {A l J : List AV} {m n : Nat} (hA : A.length = n * m) (hl : l.length = m) : a1y (some m) (A ++ (l ++ J)) (0 + n * g6 (some m)) = some (.agg l) := by
 have e : 0 + n * g6 (some m) = A.length := by rw [hA]; simp [g6]
 unfold a1y
 rw [e]
 simp only [List.length_append]
 rw [if_pos zO, List.drop_left, <- hl, List.take_left]
theorem spT {A l J : List AV} {m n k : Nat} {x : AV} (hA : A.length = n * m) (hk : k < l.length) (hx : x.cells = [x]) : splice (A ++ (l ++ J)) (0 + n * g6 (some m) + k) x.cells = A ++ (l.set k x ++ J) := by
 have e : 0 + n * g6 (some m) + k = A.length + k := by rw [hA]; simp [g6]
 have h := a6K (x.cells) (a := A) (c := l) (b := J) (fo := k) (by rw [hx]; simp; omega)
 rw [e, <- List.append_assoc, h, hx, List.append_assoc]
 rfl
theorem d0x {A l J : List AV} {k : Nat} {x : AV} (hk : k < l.length) : (A ++ (l ++ J)).set (A.length + k) x = A ++ (l.set k x ++ J) := by
 rw [List.set_append_right _ _ zO, Nat.add_sub_cancel_left, List.set_append_left _ _ hk]
end Go.Ab
namespace Go.Proofs.YtipeiholgieclaaDoor
open Go Go.Ab
structure a4L where
 f : Int
 args : List Int
def a4L.cells (x : a4L) : List AV := [.int .i64 x.f, .sl false 1 (List.map (avI .u64) x.args)]
def a4L.av (x : a4L) : AV := .agg x.cells
theorem a4L.enc : Enc a4L.av (some 2) := ⟨fun _ => rfl, fun _ => rfl, fun _ => rfl, fun x n => g9 ⟨rfl, ((a5y (j3 .u64) 1).blw x.args n), trivial⟩⟩
structure a1c where
 v : Int
 rcv : Bool
def a1c.cells (x : a1c) : List AV := [.int .u64 x.v, .bool x.rcv]
def a1c.av (x : a1c) : AV := .agg x.cells
theorem a1c.enc : Enc a1c.av (some 2) := ⟨fun _ => rfl, fun _ => rfl, fun _ => rfl, fun x n => g9 ⟨rfl, rfl, trivial⟩⟩
structure F8 where
 f : Int
 pc : Int
 why : Int
 lo : List Int
 ce : List Int
 wa : List a4L
 ends : Bool
 ret : Int
 kp : Option (List Int)
structure Q8 extends F8 where
 pl : Nat
 cl : Nat
 wl : Nat
 wv : Nat
 wj : List AV
def kpA : Option (List Int) -> AV
 | none => .nils
 | some l => .sl false 1 (l.map (avI .u64))
abbrev c8 (z : Q8) : List AV := [.int .i64 z.f, .int .i64 z.pc, .int .i64 z.why, .ref z.pl 0 0 z.lo.length none, .ref z.cl 0 0 z.ce.length none, .ref z.wl z.wv 0 z.wa.length (some 2), .bool z.ends, .int .u64 z.ret, kpA z.kp]
abbrev o8 (z : Q8) : List It := [(z.pl, 0, flat (avI .u64) z.lo), (z.cl, 0, flat (avI .u64) z.ce), (z.wl, z.wv, flat a4L.av z.wa.reverse ++ z.wj)]
structure S8 where
 tape : List Int
 evs : List m8
 ek : Int
 ev : Int
 steps : Int
 depth : Int
 defers : Int
 panics : Int
 pans : List a1c
structure O8 where
 r : Nat
 rg : Nat
 ro : Nat
 rv : Nat
 li : Nat
 lv : Nat
 te : Nat
 tv : Nat
def rC : List Q8 -> List AV
 | [] => []
 | z :: r => rC r ++ c8 z
abbrev h8 (gs : List b5) (o : O8) (s : S8) (n : Nat) : List AV := [.sl false 8 (List.map b5.av gs), .bool false, .ref o.rg 0 0 16 none, .ref o.ro o.rv 0 n (some 9), .ref o.li o.lv 0 s.pans.length (some 2), .sl false 1 (s.tape.map (avI .u64)), .ref o.te o.tv 0 s.evs.length (some 2), .int .i64 s.ek, .int .u64 s.ev, .int .i64 s.steps, .int .i64 s.depth, .int .i64 s.defers, .int .i64 s.panics]
abbrev x8 (o : O8) (s : S8) (pj : List AV) : List It := [(o.li, o.lv, flat a1c.av s.pans.reverse ++ pj), (o.te, o.tv, flat m8.av s.evs), (o.rg, 0, flat (avI .u64) (List.replicate 16 0))]
def L8 (gs : List b5) (o : O8) (s : S8) (rows : List Q8) (rj pj : List AV) : List It :=
 (o.r, 0, h8 gs o s rows.length) :: (o.ro, o.rv, rC rows ++ rj) :: (x8 o s pj ++ rows.flatMap o8)
theorem y9 : ∀ rows : List Q8, (rC rows).length = rows.length * 9
 | [] => rfl
 | z :: r => by unfold rC; rw [List.length_append, y9 r]; simp; omega
theorem u0 {z : Q8} {r : List Q8} {j : List AV} : rC (z :: r) ++ j = rC r ++ (c8 z ++ j) := List.append_assoc (rC r) (c8 z) j
def ab8 (rows : List Q8) : List F8 := rows.map Q8.toF8
theorem a2m {n : Nat} (h : n < 1000000000) : IntKind.i64.wrap (((n + 1 : Nat) : Int) - 1) = (n : Int) := by rw [a2c zO]; omega
end Go.Proofs.YtipeiholgieclaaDoor

/- ref8's get, set, args, waiting: the walks (read free). -/
namespace Go.Ab
section
variable {P : Program} {S0 : List Ob} {ow : List Nat} {fr : Fr} {S : List Ob} {log : List LE} {L L' : List It} {esh : Option Nat}
theorem a0e {d x i rs} {K : Fr -> List Ob -> List LE -> Prop} {o ver off m k z} (e : ev (Fr.get fr) x = .ref o ver off m esh) (e1 : ev (Fr.get fr) i = .int k z) (n : Nat) (hz : z = (n : Int)) (hn : n < m)
  (h : VTops P ow rs ((d, .ptr o ver (off + n * g6 esh)) :: fr) S (.acc [] none :: log) K) : VTops P ow (⟨some d, none, .op (.iad none esh x i)⟩ :: rs) fr S log K := by
 subst hz
 have := a1d (P := P) (ow := ow) (fr := fr) (S := S) (log := log) (d := d) (rs := rs) (K := K) (n := (n : Int)) e e1 ⟨by omega, by omega⟩ (by simpa using h)
 exact this
theorem c5Z {d bytes s x rs} {K : Fr -> List Ob -> List LE -> Prop} {o ver n m : Nat} {cs j ys : List AV} {rdx : List Nat} (hS : Sep S L) (e : ev (Fr.get fr) s = .ref o ver 0 n esh) (e2 : b0e esh (ev (Fr.get fr) x) S = some (m, ys, rdx))
  (hr : Rp L (o, ver, cs ++ j) (o, ver + 1, cs ++ ys) L') (hl : cs.length = n * g6 esh) (h1 : ys.all AV.one = true) (hb : (n + m) * bytes <= 140737488355328 /\ n + m <= 140737488355328)
  (h : ∀ S', Sep S' L' -> VTops P ow rs ((d, .ref o (ver + 1) 0 (n + m) esh) :: fr) S' (.acc (o :: o :: rdx) (some o) :: log) K) : VTops P ow (⟨some d, none, .op (.app esh bytes s x)⟩ :: rs) fr S log K := by
 have ho := hS.at hr.mem
 refine a2e (v := .ref o (ver + 1) 0 (n + m) esh) (rd := o :: rdx) (δ := some (o, .arr (ver + 1) (cs ++ ys))) ?_ rfl rfl (h _ (hS.rp hr))
 simp only [opV, b4U, e, e2, Option.bind_some, h1, if_true]
 rw [if_pos ⟨trivial, hb.1, hb.2⟩]
 simp only [a0K, ho, if_true, Option.map_some, List.drop_zero]
 rw [<- hl, List.take_left]
end
end Go.Ab
namespace Go.Proofs.YtipeiholgieclaaDoor
open Go Go.Ab
set_option maxRecDepth 20000
set_option maxHeartbeats 2000000
noncomputable def d0y : FC := fcO 20
theorem d0z : Fn3 Tryd.prog 20 36 [(4, none)] d0y := ⟨_, _, Tryd.func20, rfl, rfl, rfl, by kernel_rfl⟩

noncomputable def d0A : FC := fcO 19
theorem c9h : Fn3 Tryd.prog 19 39 [] d0A := ⟨_, _, Tryd.func19, rfl, rfl, rfl, by kernel_rfl⟩

noncomputable def d0B : FC := fcO 24
theorem d0C : Fn3 Tryd.prog 24 23 [(4, none)] d0B := ⟨_, _, Tryd.func24, rfl, rfl, rfl, by kernel_rfl⟩

noncomputable def d0D : FC := fcO 26
theorem d0E : Fn3 Tryd.prog 26 26 [(2, none)] d0D := ⟨_, _, Tryd.func26, rfl, rfl, rfl, by kernel_rfl⟩

section
variable {gs : List b5} {o : O8} {s : S8} {z : Q8} {r : List Q8} {rj pj : List AV}
theorem c1g {R : List It} : (z.pl, 0, flat (avI .u64) z.lo) ∈ L8 gs o s (z :: r) rj pj ++ R := .tail _ (.tail _ (.tail _ (.tail _ (.tail _ (.head _)))))
theorem b6W {R : List It} : (z.cl, 0, flat (avI .u64) z.ce) ∈ L8 gs o s (z :: r) rj pj ++ R := .tail _ (.tail _ (.tail _ (.tail _ (.tail _ (.tail _ (.head _))))))
theorem b8q {k : Nat} {v : Int} (h : z.lo[k]? = some v) (hn : r.length < 100000000) : b6O Tryd.prog 20 [.ptr o.r 0 0, .int .i64 k] (L8 gs o s (z :: r) rj pj) (.int .u64 v) := by
 have hk := (List.getElem?_eq_some_iff.1 h).1
 refine b0u mixed d0z zS [] (fun R S hS => ?_)
 refine aU ?_
 refine f7 hS rfl (.head _) (v := .bool false) rfl ?_
 refine aU ?_
 refine E_cs (t := false) rfl (fun h => by cases h) (fun _ => ?_)
 refine aU ?_
 refine f7 hS rfl (.head _) (v := .ref o.ro o.rv 0 (r.length + 1) (some 9)) rfl ?_
 refine aU ?_
 refine f7 hS rfl (.head _) (v := .ref o.ro o.rv 0 (r.length + 1) (some 9)) rfl ?_
 refine aU ?_
 refine a0e rfl rfl r.length (a2m zO) zO ?_
 refine aU ?_
 refine f7 hS rfl (.tail _ (.head _)) (v := .ref z.pl 0 0 z.lo.length none) (by rw [u0]; exact vT (y9 r) rfl) ?_
 refine aU ?_
 refine a0e rfl rfl k rfl hk ?_
 refine b1s hS (j3 .u64) rfl c1g (n := k) (fo := 0) (y := v) (by simp [g6]) h (v := .int .u64 v) rfl ?_
 refine aU ?_
 refine g8 ?_
 refine aE ?_
 exact ⟨trivial, _, rfl, rfl, rfl⟩
theorem c1h {k : Nat} {v : Int} {R : List It} : Rp (L8 gs o s (z :: r) rj pj ++ R) (z.pl, 0, flat (avI .u64) z.lo) (z.pl, 0, flat (avI .u64) (z.lo.set k v)) (L8 gs o s ({ z with lo := z.lo.set k v } :: r) rj pj ++ R) := by
 have e : L8 gs o s ({ z with lo := z.lo.set k v } :: r) rj pj = (o.r, 0, h8 gs o s (r.length + 1)) :: (o.ro, o.rv, rC (z :: r) ++ rj) :: (x8 o s pj ++ ((z.pl, 0, flat (avI .u64) (z.lo.set k v)) :: (z.cl, 0, flat (avI .u64) z.ce) :: (z.wl, z.wv, flat a4L.av z.wa.reverse ++ z.wj) :: r.flatMap o8)) := by
  unfold L8
  rw [u0, u0]
  show _ :: (o.ro, o.rv, rC r ++ ([.int .i64 z.f, .int .i64 z.pc, .int .i64 z.why, .ref z.pl 0 0 (z.lo.set k v).length none, _, _, _, _, _] ++ rj)) :: _ = _
  rw [List.length_set]; rfl
 rw [e]
 exact Rp.there (Rp.there (Rp.there (Rp.there (Rp.there Rp.here))))
theorem b8r {k : Nat} {v : Int} (hk : k < z.lo.length) (hn : r.length < 100000000) : Tri Tryd.prog 19 [.ptr o.r 0 0, .int .i64 k, .int .u64 v] (L8 gs o s (z :: r) rj pj) (fun _ L' => L' = L8 gs o s ({ z with lo := z.lo.set k v } :: r) rj pj) := by
 refine x4 mixed c9h zS [] (fun R S hS => ?_)
 refine aU ?_
 refine E_cs (t := false) (by show AV.bool (decide ((k : Int) < 0)) = _; rw [decide_eq_false zO]) (fun h => by cases h) (fun _ => ?_)
 refine aU ?_
 refine f7 hS rfl (.head _) (v := .bool false) rfl ?_
 refine aU ?_
 refine E_cs (t := false) rfl (fun h => by cases h) (fun _ => ?_)
 refine aU ?_
 refine f7 hS rfl (.head _) (v := .ref o.ro o.rv 0 (r.length + 1) (some 9)) rfl ?_
 refine aU ?_
 refine f7 hS rfl (.head _) (v := .ref o.ro o.rv 0 (r.length + 1) (some 9)) rfl ?_
 refine aU ?_
 refine a0e rfl rfl r.length (a2m zO) zO ?_
 refine aU ?_
 refine f7 hS rfl (.tail _ (.head _)) (v := .ref z.pl 0 0 z.lo.length none) (by rw [u0]; exact vT (y9 r) rfl) ?_
 refine aU ?_
 refine a0e rfl rfl k rfl hk ?_
 obtain ⟨w, hw⟩ : ∃ w, z.lo[k]? = some w := ⟨_, List.getElem?_eq_getElem hk⟩
 refine a9o (y' := v) (l := z.lo) hS (j3 .u64) rfl (xv := .int .u64 v) rfl (n := k) (fo := 0) (y := w) (by simp [g6]) hw c1h rfl rfl (by simp [g6]) rfl (fun S hS => ?_)
 refine aU ?_
 refine aE ?_
 exact ⟨trivial, _, rfl, _, rfl, hS⟩
theorem b5Y {k v : Int} (hk : k < 0) : Tri Tryd.prog 19 [.ptr o.r 0 0, .int .i64 k, .int .u64 v] [] (fun _ L' => L' = []) := by
 refine x4 mixed c9h zS [] (fun R S hS => ?_)
 refine aU ?_
 refine E_cs (t := true) (by show AV.bool (decide (k < 0)) = _; rw [decide_eq_true hk]) (fun _ => ?_) (fun h => by cases h)
 refine aU ?_
 refine g8 ?_
 refine aE ?_
 exact ⟨trivial, _, rfl, _, rfl, hS⟩
def F8.get (z : F8) (k : Int) : Option Int := if 0 <= k then z.lo[k.toNat]? else none
def F8.set (z : F8) (k v : Int) : Option F8 := if 0 <= k then (if k.toNat < z.lo.length then some { z with lo := z.lo.set k.toNat v } else none) else some z
theorem F8.get_some {z : F8} {k v : Int} (h : z.get k = some v) : ∃ n : Nat, k = (n : Int) /\ z.lo[n]? = some v := by
 unfold F8.get at h
 split at h
 ·exact ⟨k.toNat, by omega, h⟩
 ·cases h
theorem a0G {k v : Int} (h : z.toF8.get k = some v) (hn : r.length < 100000000) : b6O Tryd.prog 20 [.ptr o.r 0 0, .int .i64 k] (L8 gs o s (z :: r) rj pj) (.int .u64 v) := by
 obtain ⟨n, rfl, h⟩ := F8.get_some h
 exact b8q h hn
theorem a0J {k v : Int} {z' : F8} (h : z.toF8.set k v = some z') (hn : r.length < 100000000) : Tri Tryd.prog 19 [.ptr o.r 0 0, .int .i64 k, .int .u64 v] (L8 gs o s (z :: r) rj pj) (fun _ L' => ∃ l, { z.toF8 with lo := l } = z' /\ L' = L8 gs o s ({ z with lo := l } :: r) rj pj) := by
 unfold F8.set at h
 split at h
 ·split at h
  ·cases h
   rename_i h0 h1
   obtain ⟨n, rfl⟩ : ∃ n : Nat, k = (n : Int) := ⟨k.toNat, by omega⟩
   exact (b8r (by simpa using h1) hn).mono (fun v L' e => ⟨_, by rw [Int.toNat_natCast], e⟩)
  ·cases h
 ·cases h
  rename_i h0
  intro R S hS
  obtain ⟨x, S', h1, L', rfl, h2⟩ := b5Y (k := k) (v := v) zO (L8 gs o s (z :: r) rj pj ++ R) S hS
  exact ⟨x, S', h1, _, ⟨z.lo, rfl, rfl⟩, h2⟩
def a4H (z : F8) : List Int -> Option (List Int)
 | [] => some []
 | k :: l => (z.get k).bind fun v => (a4H z l).map fun m => v :: m
theorem a9H {z : F8} : ∀ {l ag : List Int}, a4H z l = some ag -> ag.length = l.length
 | [], _, h => by cases h; rfl
 | k :: l, ag, h => by
   obtain ⟨v, h1, h2⟩ := Option.bind_eq_some_iff.1 h
   obtain ⟨m, h3, rfl⟩ := Option.map_eq_some_iff.1 h2
   simp [a9H h3]
theorem b1I {z : F8} : ∀ {l ag : List Int} (i : Nat) {k : Int}, a4H z l = some ag -> l[i]? = some k -> ∃ v, z.get k = some v /\ ag[i]? = some v
 | [], _, i, k, _, h => by simp at h
 | k :: l, ag, i, k', h, hk => by
   obtain ⟨v, h1, h2⟩ := Option.bind_eq_some_iff.1 h
   obtain ⟨m, h3, rfl⟩ := Option.map_eq_some_iff.1 h2
   cases i with
   | zero => simp at hk; subst hk; exact ⟨v, h1, by simp⟩
   | succ i => simp at hk; simpa using b1I i h3 hk
theorem b1J {n : f6} {ag : List Int} (hv : a4H z.toF8 n.Args = some ag) (hl : n.Args.length < 100000000) (hn : r.length < 100000000) :
  Tri Tryd.prog 24 [.ptr o.r 0 0, f6.av n] (L8 gs o s (z :: r) rj pj) (fun x L' => x = .sl false 1 (ag.map (avI .u64)) /\ L' = L8 gs o s (z :: r) rj pj) := by
 have hag := a9H hv
 refine x4 mixed d0C zS [3] (fun R S hS => ?_)
 refine aU ?_
 refine b2v hS rfl (xv := f6.av n) rfl rfl (fun o3 S hS => ?_)
 refine aS ?_
 refine b6 ?_
 refine f5 ?_
 refine aQ ?_
 refine aS ?_
 refine b6 ?_
 refine c0x 5 none hS rfl (fun l S hS => ?_)
 refine aU ?_
 refine f7 hS rfl (.tail _ (.head _)) (v := .sl false 1 (n.Args.map (avI .i64))) rfl ?_
 refine aU ?_
 refine a9n n.Args.length (fun s : Nat => [(0, .ptr o.r 0 0), (9, .sl false 1 (n.Args.map (avI .i64))), (5, .ref l s 0 s none)]) (fun q => (l, q, flat (avI .u64) (ag.take q)) :: (o3, 0, f6.cells n) :: (L8 gs o s (z :: r) rj pj ++ R))
  (fun i s => s = i) 0 (by exact hS) rfl wF zO zD zD (fun _ => ⟨rfl, rfl, rfl, rfl⟩) (fun i q S hi hI hS => ?_) (fun q fr' S hI hS hw => ?_)
 ·subst hI
  have hk : n.Args[q]? = some n.Args[q] := List.getElem?_eq_getElem hi
  obtain ⟨v, h1, h2⟩ := b1I q hv hk
  have htl : (ag.take q).length = q := by simp; omega
  refine aU ?_
  refine j6 (esh := none) (f := avI .i64) (ys := n.Args) (y := n.Args[q]) (n := (q : Int)) rfl rfl (by unfold m0; rw [if_pos zO]; exact hk) ?_
  refine aU ?_
  refine a7l (a0G (gs := gs) (o := o) (s := s) (rj := rj) (pj := pj) h1 hn) hS rfl (Spl.last (PkC.there (PkC.there PkC.here))) ?_
  refine aU ?_
  refine a9m (o := l) (ver := q) (l := ag.take q) (m := [v]) (j := []) hS (j3 .u64) (by show AV.ref l q 0 q none = _; rw [htl]) (a2z [v]) (by rw [List.append_nil]; exact Rp.here) ⟨by simp; omega, by simp; omega⟩ (fun S hS => ?_)
  refine aU ?_
  have e : ag.take q ++ [v] = ag.take (q + 1) := by rw [List.take_add_one, h2]; rfl
  rw [e] at hS ⊢
  have htl2 : (ag.take (q + 1)).length = q + 1 := by simp; omega
  rw [htl2]
  exact R_n (q + 1) rfl hS wF
 ·subst hI
  rw [<- hag, List.take_length] at hS
  rw [<- hag] at hw
  refine a1q hw ?_
  refine aQ ?_
  refine aS ?_
  refine b6 ?_
  refine b6N (l := ag) 4 (j3 .u64) hS Pk.here rfl (fun S hS => ?_)
  refine aU ?_
  refine g8 ?_
  refine aE ?_
  exact ⟨trivial, _, rfl, _, ⟨rfl, rfl⟩, hS.sub (List.sublist_cons_self _ _)⟩
end
end Go.Proofs.YtipeiholgieclaaDoor

/- ref8's push: the walk. -/
namespace Go.Proofs.YtipeiholgieclaaDoor
open Go Go.Ab
set_option maxRecDepth 20000
set_option maxHeartbeats 2000000
def c6a : FC := .reg [⟨(some 11), none, .op (.mv (.t 0))⟩,  ⟨(some 12), none, .op (.nchk (.t 11))⟩,  ⟨(some 13), none, .op (.fad 0 (.t 12))⟩,  ⟨(some 14), none, .op (.fad 0 (.t 13))⟩,  ⟨(some 15), none, .op (.load none (.t 14))⟩,  ⟨(some 16), none, .op (.mv (.t 1))⟩,  ⟨(some 17), none, .op (.iad none (some 8) (.t 15) (.t 16))⟩,  ⟨(some 18), none, .op (.load (some 8) (.t 17))⟩,  ⟨(some 8), none, .op (.new [.nils, .nils, (.int .i64 0), .nils, (.bool false), (.int .i64 0), .nils, (.int .i64 0)])⟩,  ⟨none, none, .op (.store 8 (.t 8) (.t 18))⟩] []
def c6b : FC := .reg [⟨(some 19), none, .op (.mv (.t 0))⟩,  ⟨(some 20), none, .op (.mv (.t 0))⟩,  ⟨(some 21), none, .op (.nchk (.t 20))⟩,  ⟨(some 22), none, .op (.fad 3 (.t 21))⟩,  ⟨(some 23), none, .op (.load none (.t 22))⟩,  ⟨(some 24), none, .op (.mv (.t 1))⟩,  ⟨(some 25), none, .op (.fad 7 (.t 8))⟩,  ⟨(some 26), none, .op (.load none (.t 25))⟩,  ⟨(some 27), none, .op (.mv (.t 3))⟩,  ⟨(some 28), none, .op (.fad 1 (.t 8))⟩,  ⟨(some 29), none, .op (.load none (.t 28))⟩,  ⟨(some 30), none, .op (.len .sl (.t 29))⟩,  ⟨(some 31), none, .op (.mksl none 8 [(.int .u64 0)] (.t 30) (.t 30))⟩,  ⟨(some 32), none, .op (.fad 2 (.t 8))⟩,  ⟨(some 33), none, .op (.load none (.t 32))⟩,  ⟨(some 34), none, .op (.mksl none 8 [(.int .u64 0)] (.t 33) (.t 33))⟩,  ⟨(some 35), none, .op (.build [(.int .i64 0), (.int .i64 0), (.int .i64 0), .nils, .nils, .nils, (.bool false), (.int .u64 0), .nils] [(0, 1, (.t 24)), (1, 1, (.t 26)), (2, 1, (.t 27)), (3, 1, (.t 31)), (4, 1, (.t 34))])⟩,  ⟨(some 36), none, .op (.bsl (some 9) [(.int .i64 0), (.int .i64 0), (.int .i64 0), .nils, .nils, .nils, (.bool false), (.int .u64 0), .nils] 1 [(0, 9, (.t 35))])⟩,  ⟨(some 37), none, .op (.app (some 9) 136 (.t 23) (.t 36))⟩,  ⟨(some 38), none, .op (.nchk (.t 19))⟩,  ⟨(some 39), none, .op (.fad 3 (.t 38))⟩,  ⟨none, none, .op (.store 1 (.t 39) (.t 37))⟩] [(4, 12), (7, 12), (12, 14), (4, 15), (7, 15), (10, 15), (12, 15), (4, 17)]
def c6c : FC := .reg [⟨(some 40), none, .op (.mv (.t 0))⟩,  ⟨(some 41), none, .op (.nchk (.t 40))⟩,  ⟨(some 42), none, .op (.fad 3 (.t 41))⟩,  ⟨(some 43), none, .op (.load none (.t 42))⟩,  ⟨(some 44), none, .op (.len .sl (.t 43))⟩,  ⟨(some 45), none, .op (.mv (.t 0))⟩,  ⟨(some 46), none, .op (.nchk (.t 45))⟩,  ⟨(some 47), none, .op (.fad 10 (.t 46))⟩,  ⟨(some 48), none, .op (.load none (.t 47))⟩,  ⟨(some 49), none, .op (.bin .none .gtr (.t 44) (.t 48))⟩] []
def c6d : FC := .reg [⟨(some 50), none, .op (.mv (.t 0))⟩,  ⟨(some 51), none, .op (.mv (.t 0))⟩,  ⟨(some 52), none, .op (.nchk (.t 51))⟩,  ⟨(some 53), none, .op (.fad 3 (.t 52))⟩,  ⟨(some 54), none, .op (.load none (.t 53))⟩,  ⟨(some 55), none, .op (.len .sl (.t 54))⟩,  ⟨(some 56), none, .op (.nchk (.t 50))⟩,  ⟨(some 57), none, .op (.fad 10 (.t 56))⟩,  ⟨none, none, .op (.store 1 (.t 57) (.t 55))⟩] []
def c6e : FC := .cond (.t 49) c6d FC.skip
def c6f : FC := .seq c6c c6e
def c6g : FC := .reg [⟨(some 58), none, .op (.fad 0 (.t 8))⟩,  ⟨(some 59), none, .op (.load none (.t 58))⟩,  ⟨(some 60), none, .op (.len .sl (.t 59))⟩,  ⟨(some 61), none, .op (.mv (.v (.int .i64 0)))⟩] []
def c6h : FC := .reg [⟨(some 63), none, .op (.mv (.t 61))⟩,  ⟨(some 64), none, .op (.iad none none (.t 59) (.t 61))⟩,  ⟨(some 65), none, .op (.load none (.t 64))⟩,  ⟨(some 9), none, .op (.mv (.t 63))⟩,  ⟨(some 10), none, .op (.mv (.t 65))⟩] []
def c6i : FC := .reg [⟨(some 66), none, .op (.mv (.t 0))⟩,  ⟨(some 67), none, .op (.mv (.t 10))⟩,  ⟨(some 68), none, .op (.mv (.t 2))⟩,  ⟨(some 69), none, .op (.mv (.t 9))⟩,  ⟨(some 70), none, .op (.iad none none (.t 68) (.t 69))⟩,  ⟨(some 71), none, .op (.load none (.t 70))⟩,  ⟨(some 72), none, .call 19 [(.t 66), (.t 67), (.t 71)]⟩] []
def c1i : FC := .reg [⟨(some 73), none, .op (.fad 3 (.t 8))⟩,  ⟨(some 74), none, .op (.load none (.t 73))⟩,  ⟨(some 75), none, .op (.mv (.t 9))⟩,  ⟨(some 76), none, .op (.iad none none (.t 74) (.t 75))⟩,  ⟨(some 77), none, .op (.load none (.t 76))⟩,  ⟨(some 78), none, .op (.bin .none .geq (.t 77) (.v (.int .i64 0)))⟩] []
def c1j : FC := .reg [⟨(some 79), none, .op (.mv (.t 0))⟩,  ⟨(some 80), none, .op (.nchk (.t 79))⟩,  ⟨(some 81), none, .op (.fad 3 (.t 80))⟩,  ⟨(some 82), none, .op (.load none (.t 81))⟩,  ⟨(some 83), none, .op (.mv (.t 0))⟩,  ⟨(some 84), none, .op (.nchk (.t 83))⟩,  ⟨(some 85), none, .op (.fad 3 (.t 84))⟩,  ⟨(some 86), none, .op (.load none (.t 85))⟩,  ⟨(some 87), none, .op (.len .sl (.t 86))⟩,  ⟨(some 88), none, .op (.bin .none .sub (.t 87) (.v (.int .i64 1)))⟩,  ⟨(some 89), none, .op (.iad none (some 9) (.t 82) (.t 88))⟩,  ⟨(some 90), none, .op (.fad 4 (.t 89))⟩,  ⟨(some 91), none, .op (.load none (.t 90))⟩,  ⟨(some 92), none, .op (.fad 3 (.t 8))⟩,  ⟨(some 93), none, .op (.load none (.t 92))⟩,  ⟨(some 94), none, .op (.mv (.t 9))⟩,  ⟨(some 95), none, .op (.iad none none (.t 93) (.t 94))⟩,  ⟨(some 96), none, .op (.load none (.t 95))⟩,  ⟨(some 97), none, .op (.mv (.t 2))⟩,  ⟨(some 98), none, .op (.mv (.t 9))⟩,  ⟨(some 99), none, .op (.iad none none (.t 97) (.t 98))⟩,  ⟨(some 100), none, .op (.load none (.t 99))⟩,  ⟨(some 101), none, .op (.iad none none (.t 91) (.t 96))⟩,  ⟨none, none, .op (.store 1 (.t 101) (.t 100))⟩] []
def c1k : FC := .cond (.t 78) c1j FC.skip
def c1l : FC := .seq c1i c1k
def c1m : FC := .seq c6i c1l
def c1n : FC := .seq c6h c1m
def c1o : FC := .loop (.seq (.reg [⟨(some 62), none, .op (.bin .none .lss (.t 61) (.t 60))⟩] []) (.seq (.cond (.t 62) .skip (.exit 0)) (.seq (.block 1 c1n) (.reg [⟨(some 102), none, .op (.bin .none .add (.t 61) (.v (.int .i64 1)))⟩,  ⟨(some 61), none, .op (.mv (.t 102))⟩] []))))
def c1p : FC := .block 0 c1o
def c1q : FC := .seq c6g c1p
def c1r : FC := .seq c6f c1q
def c1s : FC := .seq c6b c1r
def c1t : FC := .seq c6a c1s
def d0F : FC := c1t
theorem d0G : Fn3 Tryd.prog 18 103 [] d0F := ⟨_, _, Tryd.func18, rfl, rfl, rfl, by kernel_rfl⟩

def b5Z (g : b5) (ag : List Int) : Nat -> List Int -> F8 -> Option F8
 | _, [], z => some z
 | i, k :: ks, z => (ag[i]?).bind fun a => (z.set k a).bind fun z => (g.Init[i]?).bind fun c => if 0 <= c then (if c.toNat < z.ce.length then b5Z g ag (i + 1) ks { z with ce := z.ce.set c.toNat a } else none) else b5Z g ag (i + 1) ks z
def a8x (gs : List b5) (f : Int) (ag : List Int) (why : Int) : Option F8 := (m0 gs f).bind fun g => if 0 <= g.Cells then b5Z g ag 0 g.Params ⟨f, g.Entry, why, List.replicate g.Kinds.length 0, List.replicate g.Cells.toNat 0, [], false, 0, none⟩ else none
def okG (g : b5) : Prop := g.Kinds.length < 1000000 /\ g.Cells < 1000000 /\ g.Params.length < 1000000 /\ ∀ n ∈ g.Nodes, n.Args.length < 100000000
section
variable {gs : List b5} {o : O8} {s : S8} {z : Q8} {r : List Q8} {rj pj : List AV}
theorem c1u {k : Nat} {v : Int} {R : List It} : Rp (L8 gs o s (z :: r) rj pj ++ R) (z.cl, 0, flat (avI .u64) z.ce) (z.cl, 0, flat (avI .u64) (z.ce.set k v)) (L8 gs o s ({ z with ce := z.ce.set k v } :: r) rj pj ++ R) := by
 have e : L8 gs o s ({ z with ce := z.ce.set k v } :: r) rj pj = (o.r, 0, h8 gs o s (r.length + 1)) :: (o.ro, o.rv, rC (z :: r) ++ rj) :: (x8 o s pj ++ ((z.pl, 0, flat (avI .u64) z.lo) :: (z.cl, 0, flat (avI .u64) (z.ce.set k v)) :: (z.wl, z.wv, flat a4L.av z.wa.reverse ++ z.wj) :: r.flatMap o8)) := by
  unfold L8
  rw [u0, u0]
  show _ :: (o.ro, o.rv, rC r ++ ([.int .i64 z.f, .int .i64 z.pc, .int .i64 z.why, _, .ref z.cl 0 0 (z.ce.set k v).length none, _, _, _, _] ++ rj)) :: _ = _
  rw [List.length_set]; rfl
 rw [e]
 exact Rp.there (Rp.there (Rp.there (Rp.there (Rp.there (Rp.there Rp.here)))))
theorem a7a {f why : Int} {ag : List Int} {F : F8} {av : AV} (hav : av = .sl false 1 (ag.map (avI .u64)) \/ (ag = [] /\ av = .nils)) (hv : a8x gs f ag why = some F) (hok : ∀ g ∈ gs, okG g) (hn : r.length < 10000000) (hd : 0 <= s.depth /\ s.depth < 1000000000) :
  Tri Tryd.prog 18 [.ptr o.r 0 0, .int .i64 f, av, .int .i64 why] (L8 gs o s r rj pj)
   (fun _ L' => ∃ z : Q8, z.toF8 = F /\ L' = L8 gs { o with rv := o.rv + 1 } { s with depth := max s.depth ((r.length : Int) + 1) } (z :: r) [] pj) := by
 unfold a8x at hv
 obtain ⟨g, hg, hv⟩ := Option.bind_eq_some_iff.1 hv
 split at hv
 case isFalse => cases hv
 rename_i hC
 obtain ⟨l1, l2, l3, l4⟩ := hok g (List.mem_of_getElem? (i8 hg).2.2)
 refine x4 mixed d0G zS [8, 31, 34] (fun R S hS => ?_)
 refine aU ?_
 refine f7 hS rfl (.head _) (v := .sl false 8 (List.map b5.av gs)) rfl ?_
 refine aU ?_
 refine j6 (esh := some 8) (f := b5.av) (ys := gs) (y := g) rfl rfl hg ?_
 refine aU ?_
 refine b0r hS rfl (fun og S hS => ?_)
 refine E_stS hS rfl (xv := g.av) rfl Rp.here rfl rfl zqV (fun S hS => ?_)
 have hgr : o.r ≠ og := fun e => (List.nodup_cons.1 hS.2).1 (by rw [<- e]; exact List.mem_map.2 ⟨_, .head _, rfl⟩)
 refine b6 ?_
 refine f5 ?_
 refine d9 ?_
 refine a1D ?_
 refine aU ?_
 refine f7 hS rfl (.tail _ (.head _)) (v := .ref o.ro o.rv 0 r.length (some 9)) rfl ?_
 refine aU ?_
 refine f7 hS rfl (.head _) (v := .int .i64 g.Entry) rfl ?_
 refine aU ?_
 refine f7 hS rfl (.head _) (v := .sl false 1 (List.map (avI .u8) g.Kinds)) rfl ?_
 refine aU ?_
 refine b5D (f := avI .u64) (x := (0 : Int)) (n := g.Kinds.length) (n' := g.Kinds.length) hS (j3 .u64) rfl rfl rfl rfl zO (fun l S hS => ?_)
 have hlg : og ≠ l := fun e => (List.nodup_cons.1 hS.2).1 (by rw [<- e]; exact List.mem_map.2 ⟨_, .head _, rfl⟩)
 have hlr : o.r ≠ l := fun e => (List.nodup_cons.1 hS.2).1 (by rw [<- e]; exact List.mem_map.2 ⟨_, .tail _ (.head _), rfl⟩)
 refine aU ?_
 refine f7 hS rfl (.tail _ (.head _)) (v := .int .i64 g.Cells) rfl ?_
 refine aU ?_
 refine b5D (f := avI .u64) (x := (0 : Int)) (n := g.Cells) (n' := g.Cells) hS (j3 .u64) rfl rfl rfl rfl zO (fun t S hS => ?_)
 have htl : l ≠ t := fun e => (List.nodup_cons.1 hS.2).1 (by rw [<- e]; exact List.mem_map.2 ⟨_, .head _, rfl⟩)
 have htg : og ≠ t := fun e => (List.nodup_cons.1 hS.2).1 (by rw [<- e]; exact List.mem_map.2 ⟨_, .tail _ (.head _), rfl⟩)
 have htr : o.r ≠ t := fun e => (List.nodup_cons.1 hS.2).1 (by rw [<- e]; exact List.mem_map.2 ⟨_, .tail _ (.tail _ (.head _)), rfl⟩)
 refine aU ?_
 refine c5Z (o := o.ro) (ver := o.rv) (n := r.length) (m := 1) (cs := rC r) (j := rj) (ys := [.int .i64 f, .int .i64 g.Entry, .int .i64 why, .ref l 0 0 g.Kinds.length none, .ref t 0 0 g.Cells.toNat none, .nils, .bool false, .int .u64 0, .nils]) hS rfl (rdx := []) rfl (Rp.there (Rp.there (Rp.there (Rp.there Rp.here)))) (by rw [y9]; simp [g6]) rfl zO (fun S hS => ?_)
 refine aU ?_
 refine E_stS hS rfl (xv := .ref o.ro (o.rv + 1) 0 (r.length + 1) (some 9)) rfl (Rp.there (Rp.there (Rp.there Rp.here))) rfl rfl zqV (fun S hS => ?_)
 refine b6 ?_
 refine And.intro (by simp [a1i, a5b, a0y, a1R, hgr, hlg, hlr, htl, htg, htr, Ne.symm hgr, Ne.symm hlg, Ne.symm hlr, Ne.symm htl, Ne.symm htg, Ne.symm htr]) ?_
 have hS1 : Ab.Sep S ((t, 0, flat (avI .u64) (List.replicate g.Cells.toNat 0)) :: (l, 0, flat (avI .u64) (List.replicate (g.Kinds.length : Int).toNat 0)) :: (og, 0, g.cells) :: (o.r, 0, h8 gs { o with rv := o.rv + 1 } s (r.length + 1)) :: (o.ro, o.rv + 1, rC r ++ ([.int .i64 f, .int .i64 g.Entry, .int .i64 why, .ref l 0 0 g.Kinds.length none, .ref t 0 0 g.Cells.toNat none, .nils, .bool false, .int .u64 0, .nils] ++ [])) :: (x8 o s pj ++ r.flatMap o8 ++ R)) := by rw [List.append_nil]; exact hS
 refine b7Q (o := o.ro) (ver := o.rv + 1) (cs := rC r ++ ([.int .i64 f, .int .i64 g.Entry, .int .i64 why, .ref l 0 0 g.Kinds.length none, .ref t 0 0 g.Cells.toNat none, .nils, .bool false, .int .u64 0, .nils] ++ [])) (r.length * 9 + 5) (some 2) (Lf := fun w => (t, 0, flat (avI .u64) (List.replicate g.Cells.toNat 0)) :: (l, 0, flat (avI .u64) (List.replicate (g.Kinds.length : Int).toNat 0)) :: (og, 0, g.cells) :: (o.r, 0, h8 gs { o with rv := o.rv + 1 } s (r.length + 1)) :: (o.ro, o.rv + 1, rC r ++ ([.int .i64 f, .int .i64 g.Entry, .int .i64 why, .ref l 0 0 g.Kinds.length none, .ref t 0 0 g.Cells.toNat none, .ref w 0 0 0 (some 2), .bool false, .int .u64 0, .nils] ++ [])) :: (x8 o s pj ++ r.flatMap o8 ++ R))
  hS1 (fun w => ?_) (by rw [List.getElem?_append_right (by rw [y9]; omega), y9, Nat.add_sub_cancel_left]; rfl) (fun w S hS => ?_)
 ·rw [<- y9 r, d0x zS]
  exact Rp.there (Rp.there (Rp.there (Rp.there Rp.here)))
 have hS0 : Ab.Sep S ((og, 0, g.cells) :: (L8 gs { o with rv := o.rv + 1 } s (⟨⟨f, g.Entry, why, List.replicate g.Kinds.length 0, List.replicate g.Cells.toNat 0, [], false, 0, none⟩, l, t, w, 0, []⟩ :: r) [] pj ++ R)) := by
  have e : L8 gs { o with rv := o.rv + 1 } s (⟨⟨f, g.Entry, why, List.replicate g.Kinds.length 0, List.replicate g.Cells.toNat 0, [], false, 0, none⟩, l, t, w, 0, []⟩ :: r) [] pj = (o.r, 0, h8 gs { o with rv := o.rv + 1 } s (r.length + 1)) :: (o.ro, o.rv + 1, rC r ++ ([.int .i64 f, .int .i64 g.Entry, .int .i64 why, .ref l 0 0 g.Kinds.length none, .ref t 0 0 g.Cells.toNat none, .ref w 0 0 0 (some 2), .bool false, .int .u64 0, .nils] ++ [])) :: (x8 o s pj ++ ((l, 0, flat (avI .u64) (List.replicate g.Kinds.length 0)) :: (t, 0, flat (avI .u64) (List.replicate g.Cells.toNat 0)) :: (w, 0, []) :: r.flatMap o8)) := by
   unfold L8
   rw [u0]
   show _ :: (_, _, rC r ++ ([.int .i64 f, .int .i64 g.Entry, .int .i64 why, .ref l 0 0 (List.replicate g.Kinds.length (0 : Int)).length none, .ref t 0 0 (List.replicate g.Cells.toNat (0 : Int)).length none, _, _, _, _] ++ [])) :: _ = _
   rw [List.length_replicate, List.length_replicate]; rfl
  rw [e]
  refine hS.perm ?_
  have hp : ∀ (aw at_ al ag ar ao : It) (X Y : List It), List.Perm (aw :: at_ :: al :: ag :: ar :: ao :: (X ++ Y ++ R)) (ag :: ar :: ao :: (X ++ (al :: at_ :: aw :: Y) ++ R)) := fun aw at_ al ag ar ao X Y => by
   have h1 : List.Perm (aw :: at_ :: al :: ag :: ar :: ao :: (X ++ Y ++ R)) ([ag, ar, ao] ++ ([al, at_, aw] ++ (X ++ (Y ++ R)))) := by
    rw [List.append_assoc]
    exact Spl.cons (Pk.there (Pk.there (Pk.there Pk.here))) (Spl.cons (Pk.there (Pk.there (Pk.there Pk.here))) (Spl.cons (Pk.there (Pk.there (Pk.there Pk.here))) (Spl.cons (Pk.there (Pk.there Pk.here)) (Spl.cons (Pk.there Pk.here) (Spl.cons Pk.here (.refl _))))))
   refine h1.trans ?_
   simp only [List.cons_append, List.nil_append, List.append_assoc]
   refine List.Perm.cons _ (List.Perm.cons _ (List.Perm.cons _ ?_))
   have h2 : List.Perm ([al, at_, aw] ++ (X ++ (Y ++ R))) (X ++ ([al, at_, aw] ++ (Y ++ R))) := by
    rw [<- List.append_assoc, <- List.append_assoc X]
    exact List.Perm.append_right _ List.perm_append_comm
   exact h2
  exact hp _ _ _ _ _ _ (x8 o s pj) (r.flatMap o8)
 clear hS
 refine aU ?_
 refine f7 hS0 rfl (.tail _ (.head _)) (v := .ref o.ro (o.rv + 1) 0 (r.length + 1) (some 9)) rfl ?_
 refine aU ?_
 refine f7 hS0 rfl (.tail _ (.head _)) (v := .int .i64 s.depth) rfl ?_
 refine aU ?_
 refine b0t (σ := Unit) (fun _ => [(0, .ptr o.r 0 0), (2, av), (8, .ptr og 0 0)]) (fun _ => (og, 0, g.cells) :: (L8 gs { o with rv := o.rv + 1 } { s with depth := max s.depth ((r.length : Int) + 1) } (⟨⟨f, g.Entry, why, List.replicate g.Kinds.length 0, List.replicate g.Cells.toNat 0, [], false, 0, none⟩, l, t, w, 0, []⟩ :: r) [] pj ++ R)) (fun _ => True) ?_ (fun _ S _ hS => ?_)
 ·refine E_cs (t := decide (((r.length + 1 : Nat) : Int) > s.depth)) rfl (fun hq => ?_) (fun hq => ?_)
  ·refine aU ?_
   refine f7 hS0 rfl (.tail _ (.head _)) (v := .ref o.ro (o.rv + 1) 0 (r.length + 1) (some 9)) rfl ?_
   refine aU ?_
   have hq' := of_decide_eq_true hq
   refine E_stS hS0 rfl (xv := .int .i64 (max s.depth ((r.length : Int) + 1))) (by show AV.int .i64 ((r.length + 1 : Nat) : Int) = _; congr 1; omega) (Rp.there Rp.here) rfl rfl zqV (fun S hS => ?_)
   refine aU ?_
   exact a1u ⟨(), trivial, hS, wF⟩
  ·refine aU ?_
   have hq' := of_decide_eq_false hq
   have e : max s.depth ((r.length : Int) + 1) = s.depth := by omega
   refine a1u ⟨(), trivial, ?_, wF⟩
   rw [e]; exact hS0
 ·clear hS0
  refine aU ?_
  refine f7 hS rfl (.head _) (v := .sl false 1 (List.map (avI .i64) g.Params)) rfl ?_
  refine aU ?_
  generalize hs2 : ({ s with depth := max s.depth ((r.length : Int) + 1) } : S8) = s2 at hS ⊢
  generalize ho2 : ({ o with rv := o.rv + 1 } : O8) = o2 at hS ⊢
  rw [show o.r = o2.r by rw [<- ho2]]
  refine a9n g.Params.length (fun q : Q8 => [(0, .ptr o2.r 0 0), (2, av), (8, .ptr og 0 0), (59, .sl false 1 (g.Params.map (avI .i64)))]) (fun q => (og, 0, g.cells) :: (L8 gs o2 s2 (q :: r) [] pj ++ R))
   (fun i q => b5Z g ag i (g.Params.drop i) q.toF8 = some F) _ hS hv wF zO zD zD (fun _ => ⟨rfl, rfl, rfl, rfl⟩) (fun i q S hi hI hS => ?_) (fun q fr' S hI hS hw => ?_)
  ·have hk : g.Params[i]? = some g.Params[i] := List.getElem?_eq_getElem hi
   rw [List.drop_eq_getElem_cons hi] at hI
   unfold b5Z at hI
   obtain ⟨a, h1, hI⟩ := Option.bind_eq_some_iff.1 hI
   obtain rfl : av = .sl false 1 (ag.map (avI .u64)) := hav.resolve_right (fun h => by rw [h.1] at h1; cases h1)
   obtain ⟨z1, h2, hI⟩ := Option.bind_eq_some_iff.1 hI
   obtain ⟨c, h3, hI⟩ := Option.bind_eq_some_iff.1 hI
   refine aU ?_
   refine j6 (esh := none) (f := avI .i64) (ys := g.Params) (y := g.Params[i]) (n := (i : Int)) rfl rfl (by unfold m0; rw [if_pos zO]; exact hk) ?_
   refine aU ?_
   refine j6 (esh := none) (f := avI .u64) (ys := ag) (y := a) (n := (i : Int)) rfl rfl (by unfold m0; rw [if_pos zO]; exact h1) ?_
   refine aU ?_
   refine a3l (a0J h2 zO) hS rfl (Spl.last (PkC.there PkC.here)) (fun x S L' hL hS => ?_)
   obtain ⟨ll, rfl, rfl⟩ := hL
   refine aU ?_
   refine f7 hS rfl (List.mem_append_right _ (.head _)) (v := .sl false 1 (List.map (avI .i64) g.Init)) rfl ?_
   refine aU ?_
   refine j6 (esh := none) (f := avI .i64) (ys := g.Init) (y := c) (n := (i : Int)) rfl rfl (by unfold m0; rw [if_pos zO]; exact h3) ?_
   refine aU ?_
   split at hI
   ·rename_i hc
    split at hI
    ·rename_i hc2
     obtain ⟨w2, hw2⟩ : ∃ w, q.ce[c.toNat]? = some w := ⟨_, List.getElem?_eq_getElem hc2⟩
     refine E_cs (t := true) (by show AV.bool (decide (c >= 0)) = _; rw [decide_eq_true hc]) (fun _ => ?_) (fun h => by cases h)
     refine aU ?_
     refine f7 hS rfl (.head _) (v := .ref o2.ro o2.rv 0 (r.length + 1) (some 9)) rfl ?_
     refine aU ?_
     refine f7 hS rfl (.head _) (v := .ref o2.ro o2.rv 0 (r.length + 1) (some 9)) rfl ?_
     refine aU ?_
     refine a0e rfl rfl r.length (a2m zO) zO ?_
     refine aU ?_
     refine f7 hS rfl (.tail _ (.head _)) (v := .ref q.cl 0 0 q.ce.length none) (by rw [u0]; exact vT (y9 r) rfl) ?_
     refine aU ?_
     refine f7 hS rfl (List.mem_append_right _ (.head _)) (v := .sl false 1 (List.map (avI .i64) g.Init)) rfl ?_
     refine aU ?_
     refine j6 (esh := none) (f := avI .i64) (ys := g.Init) (y := c) (n := (i : Int)) rfl rfl (by unfold m0; rw [if_pos zO]; exact h3) ?_
     refine aU ?_
     refine j6 (esh := none) (f := avI .u64) (ys := ag) (y := a) (n := (i : Int)) rfl rfl (by unfold m0; rw [if_pos zO]; exact h1) ?_
     refine aU ?_
     refine a0e rfl rfl c.toNat zO hc2 ?_
     refine a9o (y' := a) (l := q.ce) hS (j3 .u64) rfl (xv := .int .u64 a) rfl (n := c.toNat) (fo := 0) (y := w2) (by simp [g6]) hw2 (c1u (z := { q with lo := ll })) rfl rfl (by simp [g6]) rfl (fun S hS => ?_)
     refine aU ?_
     refine aE ?_
     exact R_n { q with lo := ll, ce := q.ce.set c.toNat a } hI (hS.perm List.perm_middle) wF
    ·cases hI
   ·rename_i hc
    refine E_cs (t := false) (by show AV.bool (decide (c >= 0)) = _; rw [decide_eq_false hc]) (fun h => by cases h) (fun _ => ?_)
    refine aU ?_
    refine aE ?_
    exact R_n { q with lo := ll } hI (hS.perm List.perm_middle) wF
  ·rw [List.drop_length] at hI
   cases hI
   refine ⟨trivial, _, rfl, _, ⟨q, rfl, rfl⟩, hS.sub (List.sublist_cons_self _ _)⟩
theorem b1K {f why : Int} {ag : List Int} {F : F8} (hv : a8x gs f ag why = some F) (hok : ∀ g ∈ gs, okG g) (hn : r.length < 10000000) (hd : 0 <= s.depth /\ s.depth < 1000000000) :
  Tri Tryd.prog 18 [.ptr o.r 0 0, .int .i64 f, .sl false 1 (ag.map (avI .u64)), .int .i64 why] (L8 gs o s r rj pj)
   (fun _ L' => ∃ z : Q8, z.toF8 = F /\ L' = L8 gs { o with rv := o.rv + 1 } { s with depth := max s.depth ((r.length : Int) + 1) } (z :: r) [] pj) := a7a (.inl rfl) hv hok hn hd
end
end Go.Proofs.YtipeiholgieclaaDoor

/- ref8's next, back, waiting: the walks. -/
namespace Go.Ab
section
variable {P : Program} {S0 : List Ob} {ow : List Nat} {fr : Fr} {S : List Ob} {log : List LE} {L L' : List It} {esh : Option Nat}
end
end Go.Ab
namespace Go.Proofs.YtipeiholgieclaaDoor
open Go Go.Ab
set_option maxRecDepth 20000
set_option maxHeartbeats 2000000
noncomputable def d0H : FC := fcO 46
theorem c9i : Fn3 Tryd.prog 46 51 [(4, none)] d0H := ⟨_, _, Tryd.func46, rfl, rfl, rfl, by kernel_rfl⟩

noncomputable def d0I : FC := fcO 47
theorem d0J : Fn3 Tryd.prog 47 101 [] d0I := ⟨_, _, Tryd.func47, rfl, rfl, rfl, by kernel_rfl⟩

section
variable {gs : List b5} {o : O8} {s : S8} {z : Q8} {r : List Q8} {rj pj : List AV}
theorem a4M {z' : Q8} {k : Nat} {x : AV} {R : List It} (hk : k < 9) (hx : x.cells = [x]) (hc : c8 z' = (c8 z).set k x) (ho : o8 z' = o8 z) :
  Rp (L8 gs o s (z :: r) rj pj ++ R) (o.ro, o.rv, rC (z :: r) ++ rj) (o.ro, o.rv, splice (rC (z :: r) ++ rj) (0 + r.length * g6 (some 9) + k) x.cells) (L8 gs o s (z' :: r) rj pj ++ R) := by
 have e : L8 gs o s (z' :: r) rj pj = (o.r, 0, h8 gs o s (r.length + 1)) :: (o.ro, o.rv, rC r ++ ((c8 z).set k x ++ rj)) :: (x8 o s pj ++ (z :: r).flatMap o8) := by
  unfold L8
  rw [u0, hc, List.flatMap_cons, ho]; rfl
 have e0 : L8 gs o s (z :: r) rj pj = (o.r, 0, h8 gs o s (r.length + 1)) :: (o.ro, o.rv, rC r ++ (c8 z ++ rj)) :: (x8 o s pj ++ (z :: r).flatMap o8) := by
  unfold L8
  rw [u0]; rfl
 rw [u0, spT (y9 r) (by simpa using hk) hx, e, e0]
 exact Rp.there Rp.here
theorem a2J {k : Nat} (hk : k < 9) : 0 + r.length * g6 (some 9) + k + 1 <= (rC (z :: r) ++ rj).length := by
 rw [List.length_append, y9]; simp [g6]; omega
theorem a9I {w : Int} (hz : z.wa = []) (hn : r.length < 10000000) : Tri Tryd.prog 46 [.ptr o.r 0 0, .int .i64 w] (L8 gs o s (z :: r) rj pj) (fun x L' => x = .bool false /\ L' = L8 gs o s (z :: r) rj pj) := by
 refine x4 mixed c9i zS [7] (fun R S hS => ?_)
 refine aU ?_
 refine f7 hS rfl (.head _) (v := .ref o.ro o.rv 0 (r.length + 1) (some 9)) rfl ?_
 refine aU ?_
 refine f7 hS rfl (.head _) (v := .ref o.ro o.rv 0 (r.length + 1) (some 9)) rfl ?_
 refine aU ?_
 refine a0e rfl rfl r.length (a2m zO) zO ?_
 refine aU ?_
 refine f7 hS rfl (.tail _ (.head _)) (v := .ref z.wl z.wv 0 z.wa.length (some 2)) (by rw [u0]; exact vT (y9 r) rfl) ?_
 refine aU ?_
 refine E_cs (t := true) (by show AV.bool ((z.wa.length : Int) == 0) = _; rw [hz]; rfl) (fun _ => ?_) (fun h => by cases h)
 refine aU ?_
 refine g8 ?_
 refine aE ?_
 exact ⟨trivial, _, rfl, _, ⟨rfl, rfl⟩, hS⟩
theorem c1v {R : List It} : (z.wl, z.wv, flat a4L.av z.wa.reverse ++ z.wj) ∈ L8 gs o s (z :: r) rj pj ++ R := .tail _ (.tail _ (.tail _ (.tail _ (.tail _ (.tail _ (.tail _ (.head _)))))))
theorem a9J {w : Int} {x : a4L} {wa : List a4L} {F : F8} (hz : z.wa = x :: wa) (hv : a8x gs x.f x.args w = some F) (hok : ∀ g ∈ gs, okG g) (hn : r.length < 9999999) (hd : 0 <= s.depth /\ s.depth < 1000000000) (hw : wa.length < 100000000) :
  Tri Tryd.prog 46 [.ptr o.r 0 0, .int .i64 w] (L8 gs o s (z :: r) rj pj) (fun v L' => v = .bool true /\ ∃ z1 : Q8, z1.toF8 = F /\ L' = L8 gs { o with rv := o.rv + 1 } { s with depth := max s.depth ((r.length : Int) + 2) } (z1 :: { z with wa := wa, wj := x.cells ++ z.wj } :: r) [] pj) := by
 have hx : z.wa.reverse[wa.length]? = some x := by rw [hz, List.reverse_cons, List.getElem?_append_right zS]; simp
 have hlen : z.wa.length = wa.length + 1 := by rw [hz]; rfl
 refine x4 mixed c9i zS [7] (fun R S hS => ?_)
 refine aU ?_
 refine f7 hS rfl (.head _) (v := .ref o.ro o.rv 0 (r.length + 1) (some 9)) rfl ?_
 refine aU ?_
 refine f7 hS rfl (.head _) (v := .ref o.ro o.rv 0 (r.length + 1) (some 9)) rfl ?_
 refine aU ?_
 refine a0e rfl rfl r.length (a2m zO) zO ?_
 refine aU ?_
 refine f7 hS rfl (.tail _ (.head _)) (v := .ref z.wl z.wv 0 z.wa.length (some 2)) (by rw [u0]; exact vT (y9 r) rfl) ?_
 refine aU ?_
 refine E_cs (t := false) (by show AV.bool ((z.wa.length : Int) == 0) = _; rw [show ((z.wa.length : Int) == 0) = false by simp; rw [hz]; simp]) (fun h => by cases h) (fun _ => ?_)
 refine aU ?_
 refine f7 hS rfl (.tail _ (.head _)) (v := .ref z.wl z.wv 0 z.wa.length (some 2)) (by rw [u0]; exact vT (y9 r) rfl) ?_
 refine aU ?_
 refine a0e rfl rfl wa.length (by show IntKind.i64.wrap ((z.wa.length : Int) - 1) = _; rw [hlen]; exact a2m zO) zO ?_
 refine b0s hS a4L.enc rfl c1v (n := wa.length) (fo := 0) (y := x) zS hx (v := x.av) rfl ?_
 refine b0r hS rfl (fun od S hS => ?_)
 refine E_stS hS rfl (xv := x.av) rfl Rp.here rfl rfl zqV (fun S hS => ?_)
 refine aU ?_
 refine f7 hS rfl (.tail _ (.tail _ (.head _))) (v := .ref z.wl z.wv 0 z.wa.length (some 2)) (by rw [u0]; exact vT (y9 r) rfl) ?_
 refine aU ?_
 refine a7D (a := 0) (b := wa.length) rfl rfl (by show hiN z.wa.length (some (.int .i64 (IntKind.i64.wrap ((z.wa.length : Int) - 1)))) = _; rw [hlen, a2m zO, a4i zO]; simp) ⟨by omega, by omega, .inl rfl⟩ ?_
 refine aU ?_
 have e2 : flat a4L.av z.wa.reverse ++ z.wj = flat a4L.av wa.reverse ++ (x.cells ++ z.wj) := by rw [hz, List.reverse_cons, a0t, List.append_assoc]; rfl
 refine E_stS hS rfl (xv := .ref z.wl z.wv 0 wa.length (some 2)) (by show AV.ref z.wl z.wv (0 + 0 * g6 (some 2)) (wa.length - 0) (some 2) = _; simp) (Rp.there (a4M (z' := { z with wa := wa, wj := x.cells ++ z.wj }) zO rfl rfl (by show [_, _, (z.wl, z.wv, flat a4L.av wa.reverse ++ (x.cells ++ z.wj))] = _; rw [<- e2]))) rfl rfl (a2J zO) (fun S hS => ?_)
 refine aU ?_
 refine f7 hS rfl (.head _) (v := .int .i64 x.f) rfl ?_
 refine aU ?_
 refine f7 hS rfl (.head _) (v := .sl false 1 (x.args.map (avI .u64))) rfl ?_
 refine aU ?_
 refine a3l (b1K (r := { z with wa := wa, wj := x.cells ++ z.wj } :: r) hv hok zE hd) hS rfl (Spl.last (PkC.there PkC.here)) (fun y S L' hL hS => ?_)
 obtain ⟨z1, h1, rfl⟩ := hL
 refine aU ?_
 refine g8 ?_
 refine aE ?_
 refine ⟨trivial, _, rfl, _, ⟨rfl, z1, h1, rfl⟩, ?_⟩
 have e1 : max s.depth (((({ z with wa := wa, wj := x.cells ++ z.wj } :: r : List Q8).length : Nat) : Int) + 1) = max s.depth ((r.length : Int) + 2) := by simp; omega
 rw [e1] at hS
 exact hS.sub (List.Sublist.append_left (List.sublist_cons_self _ _) _)
def F8.back (gs : List b5) (z : F8) (v : Int) : Option F8 := (m0 gs z.f).bind fun g => (m0 g.Nodes z.pc).bind fun n => F8.set { z with pc := n.Next } n.D v
theorem b6a {v : Int} {F : F8} (hv : z.toF8.back gs v = some F) (hn : r.length < 10000000) :
  Tri Tryd.prog 47 [.ptr o.r 0 0, .int .u64 v] (L8 gs o s (z :: r) rj pj) (fun _ L' => ∃ z' : Q8, z'.toF8 = F /\ L' = L8 gs o s (z' :: r) rj pj) := by
 unfold F8.back at hv
 obtain ⟨g, hg, hv⟩ := Option.bind_eq_some_iff.1 hv
 obtain ⟨n, hnd, hv⟩ := Option.bind_eq_some_iff.1 hv
 refine x4 mixed d0J zS [5] (fun R S hS => ?_)
 refine d9 ?_
 refine b8 ?_
 refine aS ?_
 refine f7 hS rfl (.head _) (v := .ref o.ro o.rv 0 (r.length + 1) (some 9)) rfl ?_
 refine aS ?_
 refine f7 hS rfl (.head _) (v := .ref o.ro o.rv 0 (r.length + 1) (some 9)) rfl ?_
 refine aS ?_
 refine a0e rfl rfl r.length (a2m zO) zO ?_
 refine aS ?_
 refine b6 ?_
 refine f5 ?_
 refine d9 ?_
 refine a1D ?_
 refine aU ?_
 refine f7 hS rfl (.head _) (v := .sl false 8 (List.map b5.av gs)) rfl ?_
 refine aU ?_
 refine f7 hS rfl (.tail _ (.head _)) (v := .int .i64 z.f) (by rw [u0]; exact vT (y9 r) rfl) ?_
 refine aU ?_
 refine j6 (esh := some 8) (f := b5.av) (ys := gs) (y := g) rfl rfl hg ?_
 refine aU ?_
 refine f7 hS rfl (.tail _ (.head _)) (v := .int .i64 z.pc) (by rw [u0]; exact vT (y9 r) rfl) ?_
 refine aU ?_
 refine j6 (esh := some 12) (f := f6.av) (ys := g.Nodes) (y := n) rfl rfl hnd ?_
 refine aU ?_
 refine b0r hS rfl (fun oi S hS => ?_)
 have h1 : o.r ≠ oi := fun e => (List.nodup_cons.1 hS.2).1 (by rw [<- e]; exact List.mem_map.2 ⟨_, .head _, rfl⟩)
 have h2 : o.ro ≠ oi := fun e => (List.nodup_cons.1 hS.2).1 (by rw [<- e]; exact List.mem_map.2 ⟨_, .tail _ (.head _), rfl⟩)
 refine E_stS hS rfl (xv := n.av) rfl Rp.here rfl rfl zqV (fun S hS => ?_)
 refine b6 ?_
 refine And.intro (by simp [a1i, a5b, a0y, a1R, h1, h2, Ne.symm h1, Ne.symm h2]) ?_
 refine aU ?_
 refine f7 hS rfl (.head _) (v := .int .i64 n.Next) rfl ?_
 refine aU ?_
 refine E_stS hS rfl (xv := .int .i64 n.Next) rfl (Rp.there (a4M (z' := { z with pc := n.Next }) zO rfl rfl rfl)) rfl rfl (a2J zO) (fun S hS => ?_)
 refine aU ?_
 refine f7 hS rfl (.tail _ (.head _)) (v := .bool false) rfl ?_
 refine aU ?_
 refine E_cs (t := true) rfl (fun _ => ?_) (fun h => by cases h)
 refine aU ?_
 refine f7 hS rfl (.head _) (v := .int .i64 n.D) rfl ?_
 refine aU ?_
 refine a3l (a0J (z := { z with pc := n.Next }) hv zO) hS rfl (Spl.last (PkC.there PkC.here)) (fun x S L' hL hS => ?_)
 obtain ⟨l, rfl, rfl⟩ := hL
 refine aU ?_
 refine g8 ?_
 refine aE ?_
 exact ⟨trivial, _, rfl, _, ⟨{ z with pc := n.Next, lo := l }, rfl, rfl⟩, hS.sub (List.Sublist.append_left (List.sublist_cons_self _ _) _)⟩
theorem vM : ∀ (rows : List Q8) {i k : Nat} {y : Q8} {x : AV} {J : List AV}, rows.reverse[i]? = some y -> (c8 y)[k]? = some x -> a1y none (rC rows ++ J) (0 + i * g6 (some 9) + k) = some x
 | [], i, k, y, x, J, h, _ => by simp at h
 | z :: r, i, k, y, x, J, h, hk => by
   rw [u0]
   rw [List.reverse_cons] at h
   by_cases hi : i < r.length
   ·rw [List.getElem?_append_left (by simpa using hi)] at h
    exact vM r h hk
   ·have hir : i = r.length := by
     have := (List.getElem?_eq_some_iff.1 h).1
     simp at this; omega
    subst hir
    rw [List.getElem?_append_right zS] at h
    simp at h
    subst h
    exact vT (y9 r) hk
def waS : List F8 -> Nat
 | [] => 0
 | z :: r => z.wa.length + waS r
def waR : List Q8 -> Nat -> Nat
 | _, 0 => 0
 | rows, i + 1 => waR rows i + (rows.reverse[i]?.map fun z => z.wa.length).getD 0
theorem b1L {z : Q8} {r : List Q8} : ∀ i, i <= r.length -> waR (z :: r) i = waR r i
 | 0, _ => rfl
 | i + 1, h => by
   unfold waR
   rw [b1L i zO, List.reverse_cons, List.getElem?_append_left zE]
theorem b0F : ∀ rows : List Q8, waR rows rows.length = waS (ab8 rows)
 | [] => rfl
 | z :: r => by
   show waR (z :: r) r.length + _ = z.wa.length + waS (ab8 r)
   rw [b1L _ (Nat.le_refl _), b0F r, List.reverse_cons, List.getElem?_append_right zS]
   simp; omega
theorem b1M {rows : List Q8} {i : Nat} : ∀ j, waR rows i <= waR rows (i + j)
 | 0 => Nat.le_refl _
 | j + 1 => Nat.le_trans (b1M j) (by show _ <= waR rows (i + j) + _; omega)
theorem b0G {rows : List Q8} (hn : rows.length < 100000000) (hw : waS (ab8 rows) < 1000000000) : Tri Tryd.prog 26 [.ptr o.r 0 0] (L8 gs o s rows rj pj) (fun x L' => x = .int .i64 (waS (ab8 rows)) /\ L' = L8 gs o s rows rj pj) := by
 refine x4 mixed d0E zS [] (fun R S0 hS => ?_)
 refine aU ?_
 refine f7 hS rfl (.head _) (v := .ref o.ro o.rv 0 rows.length (some 9)) rfl ?_
 refine aU ?_
 refine a9n rows.length (fun q : Nat => [(0, .ptr o.r 0 0), (3, .int .i64 q)]) (fun q => L8 gs o s rows rj pj ++ R)
  (fun i q => q = waR rows i) 0 hS rfl wF zO zD zD (fun _ => ⟨rfl, rfl, rfl, rfl⟩) (fun i q S hi hI hS => ?_) (fun q fr' S hI hS hw => ?_)
 ·subst hI
  obtain ⟨y, hy⟩ : ∃ y, rows.reverse[i]? = some y := ⟨_, List.getElem?_eq_getElem (by simpa using hi)⟩
  refine aU ?_
  refine f7 hS rfl (.head _) (v := .ref o.ro o.rv 0 rows.length (some 9)) rfl ?_
  refine aU ?_
  refine a0e rfl rfl i rfl hi ?_
  refine aU ?_
  refine f7 hS rfl (.tail _ (.head _)) (v := .ref y.wl y.wv 0 y.wa.length (some 2)) (vM rows hy rfl) ?_
  refine aU ?_
  have e : waR rows (i + 1) = waR rows i + y.wa.length := by show waR rows i + (rows.reverse[i]?.map fun z => z.wa.length).getD 0 = _; rw [hy]; rfl
  have hb : waR rows (i + 1) <= waS (ab8 rows) := by
   rw [<- b0F]
   have := b1M (rows := rows) (i := i + 1) (rows.length - (i + 1))
   rwa [show i + 1 + (rows.length - (i + 1)) = rows.length by omega] at this
  refine R_n (waR rows (i + 1)) rfl hS (b5w ⟨.refl _, .refl _, .refl _, ?_, trivial⟩)
  show a7B none (.int .i64 (IntKind.i64.wrap ((waR rows i : Int) + (y.wa.length : Int)))) (.int .i64 (waR rows (i + 1) : Int))
  rw [a2c zO, show (waR rows i : Int) + (y.wa.length : Int) = ((waR rows (i + 1) : Nat) : Int) by omega]
  exact .refl _
 ·subst hI
  rw [b0F] at hw
  refine a1q hw ?_
  refine aU ?_
  refine g8 ?_
  refine aE ?_
  exact ⟨trivial, _, rfl, _, ⟨rfl, rfl⟩, hS⟩
end
end Go.Proofs.YtipeiholgieclaaDoor

/- ref8's unwind, begin: the walks. -/
namespace Go.Proofs.YtipeiholgieclaaDoor
open Go Go.Ab
set_option maxRecDepth 20000
set_option maxHeartbeats 2000000
def c6j : FC := .reg [⟨(some 5), none, .op (.mv (.t 0))⟩,  ⟨(some 6), none, .call 46 [(.t 5), (.v (.int .i64 2))]⟩,  ⟨(some 7), none, .op (.un .not (.t 6))⟩] []
def c6k : FC := .cond (.t 7) FC.skip (FC.exit 0)
def c6l : FC := .seq c6j c6k
def c6m : FC := .reg [⟨(some 8), none, .op (.mv (.t 0))⟩,  ⟨(some 9), none, .op (.nchk (.t 8))⟩,  ⟨(some 10), none, .op (.fad 3 (.t 9))⟩,  ⟨(some 11), none, .op (.load none (.t 10))⟩,  ⟨(some 12), none, .op (.mv (.t 0))⟩,  ⟨(some 13), none, .op (.nchk (.t 12))⟩,  ⟨(some 14), none, .op (.fad 3 (.t 13))⟩,  ⟨(some 15), none, .op (.load none (.t 14))⟩,  ⟨(some 16), none, .op (.len .sl (.t 15))⟩,  ⟨(some 17), none, .op (.bin .none .sub (.t 16) (.v (.int .i64 1)))⟩,  ⟨(some 18), none, .op (.iad none (some 9) (.t 11) (.t 17))⟩,  ⟨(some 19), none, .op (.load (some 9) (.t 18))⟩,  ⟨(some 2), none, .op (.new [(.int .i64 0), (.int .i64 0), (.int .i64 0), .nils, .nils, .nils, (.bool false), (.int .u64 0), .nils])⟩,  ⟨none, none, .op (.store 9 (.t 2) (.t 19))⟩] [(3, 12), (7, 12), (11, 12)]
def c6n : FC := .reg [⟨(some 20), none, .op (.mv (.t 0))⟩,  ⟨(some 21), none, .op (.mv (.t 0))⟩,  ⟨(some 22), none, .op (.nchk (.t 21))⟩,  ⟨(some 23), none, .op (.fad 3 (.t 22))⟩,  ⟨(some 24), none, .op (.load none (.t 23))⟩,  ⟨(some 25), none, .op (.mv (.t 0))⟩,  ⟨(some 26), none, .op (.nchk (.t 25))⟩,  ⟨(some 27), none, .op (.fad 3 (.t 26))⟩,  ⟨(some 28), none, .op (.load none (.t 27))⟩,  ⟨(some 29), none, .op (.len .sl (.t 28))⟩,  ⟨(some 30), none, .op (.bin .none .sub (.t 29) (.v (.int .i64 1)))⟩,  ⟨(some 31), none, .op (.slc (some 9) (.t 24) none (some (.t 30)) none)⟩,  ⟨(some 32), none, .op (.nchk (.t 20))⟩,  ⟨(some 33), none, .op (.fad 3 (.t 32))⟩,  ⟨none, none, .op (.store 1 (.t 33) (.t 31))⟩] []
def c6o : FC := .reg [⟨(some 34), none, .op (.mv (.t 0))⟩,  ⟨(some 35), none, .op (.nchk (.t 34))⟩,  ⟨(some 36), none, .op (.fad 4 (.t 35))⟩,  ⟨(some 37), none, .op (.load none (.t 36))⟩,  ⟨(some 38), none, .op (.len .sl (.t 37))⟩,  ⟨(some 3), none, .op (.mv (.t 38))⟩] []
def c6p : FC := .reg [⟨(some 39), none, .op (.fad 2 (.t 2))⟩,  ⟨(some 40), none, .op (.load none (.t 39))⟩,  ⟨(some 41), none, .op (.bin .none .eql (.t 40) (.v (.int .i64 2)))⟩] []
def c6q : FC := .reg [⟨(some 42), none, .op (.mv (.t 0))⟩,  ⟨(some 43), none, .op (.nchk (.t 42))⟩,  ⟨(some 44), none, .op (.fad 4 (.t 43))⟩,  ⟨(some 45), none, .op (.load none (.t 44))⟩,  ⟨(some 46), none, .op (.mv (.t 3))⟩,  ⟨(some 47), none, .op (.bin .none .sub (.t 46) (.v (.int .i64 1)))⟩,  ⟨(some 48), none, .op (.iad none (some 2) (.t 45) (.t 47))⟩,  ⟨(some 49), none, .op (.load (some 2) (.t 48))⟩,  ⟨(some 4), none, .op (.new [(.int .u64 0), (.bool false)])⟩,  ⟨none, none, .op (.store 2 (.t 4) (.t 49))⟩] []
def c6r : FC := .reg [⟨(some 50), none, .op (.mv (.t 0))⟩,  ⟨(some 51), none, .op (.mv (.t 0))⟩,  ⟨(some 52), none, .op (.nchk (.t 51))⟩,  ⟨(some 53), none, .op (.fad 4 (.t 52))⟩,  ⟨(some 54), none, .op (.load none (.t 53))⟩,  ⟨(some 55), none, .op (.mv (.t 3))⟩,  ⟨(some 56), none, .op (.bin .none .sub (.t 55) (.v (.int .i64 2)))⟩,  ⟨(some 57), none, .op (.slc (some 2) (.t 54) none (some (.t 56)) none)⟩,  ⟨(some 58), none, .op (.load (some 2) (.t 4))⟩,  ⟨(some 59), none, .op (.bsl (some 2) [(.int .u64 0), (.bool false)] 1 [(0, 2, (.t 58))])⟩,  ⟨(some 60), none, .op (.app (some 2) 16 (.t 57) (.t 59))⟩,  ⟨(some 61), none, .op (.nchk (.t 50))⟩,  ⟨(some 62), none, .op (.fad 4 (.t 61))⟩,  ⟨none, none, .op (.store 1 (.t 62) (.t 60))⟩] [(4, 9)]
def c1w : FC := .seq c6q c6r
def c1x : FC := .cond (.t 41) c1w FC.skip
def c1y : FC := .seq c6p c1x
def c1z : FC := .reg [⟨(some 63), none, .op (.mv (.t 0))⟩,  ⟨(some 64), none, .op (.nchk (.t 63))⟩,  ⟨(some 65), none, .op (.fad 3 (.t 64))⟩,  ⟨(some 66), none, .op (.load none (.t 65))⟩,  ⟨(some 67), none, .op (.len .sl (.t 66))⟩,  ⟨(some 68), none, .op (.bin .none .eql (.t 67) (.v (.int .i64 0)))⟩] []
def c1A : FC := .reg [⟨(some 69), none, .op (.mv (.t 0))⟩,  ⟨(some 70), none, .op (.mv (.t 0))⟩,  ⟨(some 71), none, .op (.nchk (.t 70))⟩,  ⟨(some 72), none, .op (.fad 4 (.t 71))⟩,  ⟨(some 73), none, .op (.load none (.t 72))⟩,  ⟨(some 74), none, .op (.mv (.t 0))⟩,  ⟨(some 75), none, .op (.nchk (.t 74))⟩,  ⟨(some 76), none, .op (.fad 4 (.t 75))⟩,  ⟨(some 77), none, .op (.load none (.t 76))⟩,  ⟨(some 78), none, .op (.len .sl (.t 77))⟩,  ⟨(some 79), none, .op (.bin .none .sub (.t 78) (.v (.int .i64 1)))⟩,  ⟨(some 80), none, .op (.iad none (some 2) (.t 73) (.t 79))⟩,  ⟨(some 81), none, .op (.fad 0 (.t 80))⟩,  ⟨(some 82), none, .op (.load none (.t 81))⟩,  ⟨(some 83), none, .op (.build [(.int .i64 0), (.int .u64 0)] [(0, 1, (.v (.int .i64 2))), (1, 1, (.t 82))])⟩,  ⟨(some 84), none, .op (.nchk (.t 69))⟩,  ⟨(some 85), none, .op (.fad 7 (.t 84))⟩,  ⟨none, none, .op (.store 2 (.t 85) (.t 83))⟩] []
def c1B : FC := .seq c1A FC.ret
def c1C : FC := .cond (.t 68) c1B FC.skip
def c1D : FC := .seq c1z c1C
def c1E : FC := .seq c1y c1D
def c1F : FC := .seq c6o c1E
def c1G : FC := .seq c6n c1F
def c1H : FC := .seq c6m c1G
def c1I : FC := .block 1 c1H
def c1J : FC := .seq c6l c1I
def c1K : FC := .loop c1J
def c1L : FC := .block 0 c1K
def d0K : FC := c1L
theorem d0L : Fn3 Tryd.prog 45 86 [] d0K := ⟨_, _, Tryd.func45, rfl, rfl, rfl, by kernel_rfl⟩

noncomputable def d0M : FC := fcO 22
theorem d0N : Fn3 Tryd.prog 22 35 [] d0M := ⟨_, _, Tryd.func22, rfl, rfl, rfl, by kernel_rfl⟩

def b9R (w : Int) (ps : List a1c) : Option (List a1c) := if w = 2 then (match ps with | a :: _ :: l => some (a :: l) | _ => none) else some ps
theorem a9K {w : Int} {ps q : List a1c} (h : b9R w ps = some q) : (w = 2 /\ ∃ a b l, ps = a :: b :: l /\ q = a :: l) \/ (w ≠ 2 /\ q = ps) := by
 unfold b9R at h
 split at h
 ·rename_i hw
  split at h
  ·cases h; exact .inl ⟨hw, _, _, _, rfl, rfl⟩
  ·cases h
 ·rename_i hw
  cases h; exact .inr ⟨hw, rfl⟩
def c9j : List a1c -> Option Int
 | a :: _ => some a.v
 | [] => none
def a7b (gs : List b5) : List F8 -> List a1c -> Option (Option Int × List F8 × List a1c)
 | [], _ => none
 | z :: r, ps => match z.wa with
   | x :: wa => (a8x gs x.f x.args 2).bind fun F => some (none, F :: { z with wa := wa } :: r, ps)
   | [] => (b9R z.why ps).bind fun ps' => match r with
     | [] => (c9j ps').map fun v => (some v, [], ps')
     | y :: t => a7b gs (y :: t) ps'
theorem b1N {gs : List b5} {z : F8} {r : List F8} {ps : List a1c} {x} (hz : z.wa = []) (h : a7b gs (z :: r) ps = some x) : ∃ q, b9R z.why ps = some q /\ (r = [] -> ∃ v, c9j q = some v /\ x = (some v, [], q)) /\ (r ≠ [] -> a7b gs r q = some x) := by
 unfold a7b at h
 rw [hz] at h
 obtain ⟨q, h1, h2⟩ := Option.bind_eq_some_iff.1 h
 refine ⟨q, h1, fun e => ?_, fun e => ?_⟩
 ·subst e
  obtain ⟨v, h3, h4⟩ := Option.map_eq_some_iff.1 h2
  exact ⟨v, h3, h4.symm⟩
 ·cases r with
  | nil => exact absurd rfl e
  | cons y t => exact h2
theorem a9L {gs : List b5} {z : F8} {r : List F8} {ps : List a1c} {x y df} (hz : z.wa = y :: df) (h : a7b gs (z :: r) ps = some x) : ∃ F, a8x gs y.f y.args 2 = some F /\ x = (none, F :: { z with wa := df } :: r, ps) := by
 unfold a7b at h
 rw [hz] at h
 obtain ⟨f, h1, h2⟩ := Option.bind_eq_some_iff.1 h
 cases h2
 exact ⟨f, h1, rfl⟩
section
variable {gs : List b5} {o : O8} {s : S8} {z : Q8} {r : List Q8} {rj pj : List AV}
theorem c1M {R : List It} {S : List Ob} (h : Ab.Sep S ((o.r, 0, h8 gs o s r.length) :: (o.ro, o.rv, rC (z :: r) ++ rj) :: (x8 o s pj ++ (z :: r).flatMap o8 ++ R))) : Ab.Sep S (L8 gs o s r (c8 z ++ rj) pj ++ R) := by
 rw [u0] at h
 refine h.sub ?_
 refine .cons_cons _ (.cons_cons _ ?_)
 exact List.Sublist.append_right (List.Sublist.append_left (by rw [List.flatMap_cons]; exact List.sublist_append_right _ _) _) _
theorem b6X (z : Q8) : (AV.agg (c8 z)).cells.all AV.one = true := by
 have h : (kpA z.kp).one = true := by cases z.kp <;> rfl
 show (c8 z).all AV.one = true
 simp only [c8, List.all_cons, List.all_nil, h]
 rfl
theorem a7P {rows : List Q8} {ps' : List a1c} {en : Option Int} {A' : List F8} (hv : a7b gs (ab8 rows) s.pans = some (en, A', ps')) (hok : ∀ g ∈ gs, okG g) (hn : rows.length < 9999999) (hp : s.pans.length < 10000000) (hd : 0 <= s.depth /\ s.depth < 1000000000) (hw : ∀ z ∈ rows, z.wa.length < 100000000) :
  Tri Tryd.prog 45 [.ptr o.r 0 0] (L8 gs o s rows rj pj)
   (fun _ L' => ∃ rv lv rows' rj' pj', ab8 rows' = A' /\ L' = L8 gs { o with rv := rv, lv := lv } { s with pans := ps', ek := if en.isSome then 2 else s.ek, ev := en.getD s.ev, depth := if en.isSome then s.depth else max s.depth (A'.length : Int) } rows' rj' pj') := by
 refine x4 mixed d0L zS [2, 4] (fun R S hS => ?_)
 refine z6 (a6O (σ := List Q8 × List a1c × List AV × List AV × Nat) (fun _ => [(0, .ptr o.r 0 0)]) (fun q => L8 gs { o with lv := q.2.2.2.2 } { s with pans := q.2.1 } q.1 q.2.2.1 q.2.2.2.1 ++ R)
  (fun q => a7b gs (ab8 q.1) q.2.1 = some (en, A', ps') /\ q.1.length < 9999999 /\ q.2.1.length < 10000000 /\ ∀ z ∈ q.1, z.wa.length < 100000000) (fun q => q.1.length) (rows, s.pans, rj, pj, o.lv) hS ⟨hv, hn, hp, hw⟩
  wF (fun q S hI hS => ?_))
 obtain ⟨rows1, ps1, rj1, pj1, lv⟩ := q
 obtain ⟨i1, i2, i3, i4⟩ := hI
 dsimp only at i1 i2 i3 i4 hS
 cases rows1 with
 | nil => cases i1
 | cons z r =>
 have hrl : r.length < 9999998 := by simp at i2; omega
 refine aU ?_
 cases hz : z.wa with
 | nil =>
   refine a3l (a9I (o := { o with lv := lv }) (s := { s with pans := ps1 }) (r := r) (w := 2) hz zO) hS rfl (.refl _) (fun r0 S L' hL hS => ?_)
   obtain ⟨rfl, rfl⟩ := hL
   refine aU ?_
   refine E_cs (t := true) rfl (fun _ => ?_) (fun h => by cases h)
   refine aU ?_
   refine z6 ?_
   refine d9 ?_
   refine a1D ?_
   refine aU ?_
   refine f7 hS rfl (.head _) (v := .ref o.ro o.rv 0 (r.length + 1) (some 9)) rfl ?_
   refine aU ?_
   refine f7 hS rfl (.head _) (v := .ref o.ro o.rv 0 (r.length + 1) (some 9)) rfl ?_
   refine aU ?_
   refine a0e rfl rfl r.length (a2m zO) zO ?_
   refine f7 hS rfl (.tail _ (.head _)) (v := .agg (c8 z)) (by rw [u0]; exact vT0 (y9 r) rfl) ?_
   refine b0r hS rfl (fun oi S hS => ?_)
   have h1 : o.r ≠ oi := fun e => (List.nodup_cons.1 hS.2).1 (by rw [<- e]; exact List.mem_map.2 ⟨_, .head _, rfl⟩)
   have h2 : o.ro ≠ oi := fun e => (List.nodup_cons.1 hS.2).1 (by rw [<- e]; exact List.mem_map.2 ⟨_, .tail _ (.head _), rfl⟩)
   refine E_stS hS rfl (xv := .agg (c8 z)) rfl Rp.here rfl (b6X z) zqV (fun S hS => ?_)
   refine b6 ?_
   refine And.intro (by simp [a1i, a5b, a0y, a1R, h1, h2, Ne.symm h1, Ne.symm h2]) ?_
   refine aU ?_
   refine f7 hS rfl (.tail _ (.head _)) (v := .ref o.ro o.rv 0 (r.length + 1) (some 9)) rfl ?_
   refine aU ?_
   refine f7 hS rfl (.tail _ (.head _)) (v := .ref o.ro o.rv 0 (r.length + 1) (some 9)) rfl ?_
   refine aU ?_
   refine a7D (a := 0) (b := r.length) rfl rfl (by show hiN (r.length + 1) (some (.int .i64 (IntKind.i64.wrap (((r.length + 1 : Nat) : Int) - 1)))) = _; rw [a2m zO, a4i zO]; simp) ⟨by omega, by omega, .inl rfl⟩ ?_
   refine aU ?_
   refine E_stS hS rfl (xv := .ref o.ro o.rv 0 r.length (some 9)) (by show AV.ref o.ro o.rv (0 + 0 * g6 (some 9)) (r.length - 0) (some 9) = _; simp) (Rp.there Rp.here) rfl rfl zqV (fun S hS => ?_)
   have hS2 : Ab.Sep S (L8 gs { o with lv := lv } { s with pans := ps1 } r (c8 z ++ rj1) pj1 ++ ((oi, 0, c8 z) :: R)) := c1M (R := (oi, 0, c8 z) :: R) (hS.perm (by
    refine (List.perm_middle (l₁ := (o.r, 0, h8 gs { o with lv := lv } { s with pans := ps1 } r.length) :: (o.ro, o.rv, rC (z :: r) ++ rj1) :: (x8 { o with lv := lv } { s with pans := ps1 } pj1 ++ (z :: r).flatMap o8)) (l₂ := R)).symm))
   clear hS
   refine aU ?_
   refine f7 hS2 rfl (.head _) (v := .ref o.li lv 0 ps1.length (some 2)) rfl ?_
   refine aU ?_
   refine f7 hS2 rfl (List.mem_append_right _ (.head _)) (v := .int .i64 z.why) rfl ?_
   refine aU ?_
   obtain ⟨ps2, h3, h4, h5⟩ := b1N (z := z.toF8) (r := ab8 r) hz i1
   refine b0t (σ := List AV × Nat) (fun _ => [(0, .ptr o.r 0 0)])
    (fun q => L8 gs { o with lv := q.2 } { s with pans := ps2 } r (c8 z ++ rj1) q.1 ++ R)
    (fun _ => ps2.length <= ps1.length) ?_ (fun q S hI hS => ?_)
   ·refine E_cs (t := z.why == 2) rfl (fun hw => ?_) (fun hw => ?_)
    ·have hw' : z.why = 2 := by simpa using hw
     obtain ⟨_, a, b, l, rfl, rfl⟩ : z.why = 2 /\ ∃ a b l, ps1 = a :: b :: l /\ ps2 = a :: l := (a9K h3).resolve_right (fun h => h.1 hw')
     simp only [List.length_cons] at i3
     have hxa : (a :: b :: l).reverse[l.length + 1]? = some a := by simp [List.getElem?_append]
     refine aU ?_
     refine f7 hS2 rfl (.head _) (v := .ref o.li lv 0 (l.length + 2) (some 2)) rfl ?_
     refine aU ?_
     refine a0e rfl rfl (l.length + 1) (by show IntKind.i64.wrap (((l.length + 1 + 1 : Nat) : Int) - 1) = _; exact a2m zO) zO ?_
     refine b0s hS2 a1c.enc rfl (.tail _ (.tail _ (.head _))) (n := l.length + 1) (fo := 0) (y := a) zS hxa (v := a.av) rfl ?_
     refine b0r hS2 rfl (fun o4 S hS => ?_)
     refine E_stS hS rfl (xv := a.av) rfl Rp.here rfl rfl zqV (fun S hS => ?_)
     refine b6 ?_
     refine f5 ?_
     refine a1D ?_
     refine aU ?_
     refine f7 hS rfl (.tail _ (.head _)) (v := .ref o.li lv 0 (l.length + 2) (some 2)) rfl ?_
     refine aU ?_
     refine a7D (a := 0) (b := l.length) rfl rfl (by show hiN (l.length + 2) (some (.int .i64 (IntKind.i64.wrap (((l.length + 1 + 1 : Nat) : Int) - 2)))) = _; rw [a2c zO, a4i zO]; simp; omega) ⟨by omega, by omega, .inl rfl⟩ ?_
     refine aU ?_
     refine f7 hS rfl (.head _) (v := a.av) rfl ?_
     refine aU ?_
     have e4 : flat a1c.av (a :: b :: l).reverse ++ pj1 = flat a1c.av l.reverse ++ (b.cells ++ (a.cells ++ pj1)) := by
      rw [List.reverse_cons, List.reverse_cons, a0t, a0t, List.append_assoc, List.append_assoc]; rfl
     refine a9m (o := o.li) (ver := lv) (f := a1c.av) (l := l.reverse) (m := [a]) (j := b.cells ++ (a.cells ++ pj1)) hS a1c.enc (by show AV.ref o.li lv (0 + 0 * g6 (some 2)) (l.length - 0) _ = _; rw [List.length_reverse]; simp) (a2z (f := a1c.av) (esh := some 2) [a]) (by rw [<- e4]; exact Rp.there (Rp.there (Rp.there Rp.here))) ⟨by simp; omega, by simp; omega⟩ (fun S hS => ?_)
     refine aU ?_
     refine E_stS hS rfl (xv := .ref o.li (lv + 1) 0 (l.length + 1) (some 2)) (by show AV.ref o.li (lv + 1) 0 (l.reverse ++ [a]).length _ = _; simp) (Rp.there Rp.here) rfl rfl zqV (fun S hS => ?_)
     refine b6 ?_
     refine And.intro (by simp [a1i, a5b, a0y, a1R]) ?_
     refine ⟨([], lv + 1), by simp, ?_, wF⟩
     have e5 : flat a1c.av (l.reverse ++ [a]) = flat a1c.av (a :: l).reverse ++ [] := by simp
     have hS5 : Ab.Sep S ((o4, 0, a.cells) :: (o.r, 0, h8 gs { o with lv := lv + 1 } { s with pans := a :: l } r.length) :: (o.ro, o.rv, rC r ++ (c8 z ++ rj1)) :: (o.li, lv + 1, flat a1c.av (l.reverse ++ [a])) :: (o.te, o.tv, flat m8.av s.evs) :: (o.rg, 0, flat (avI .u64) (List.replicate 16 0)) :: (r.flatMap o8 ++ ((oi, 0, c8 z) :: R))) := hS
     rw [e5] at hS5
     have hS6 := hS5.sub (List.sublist_cons_self _ _)
     exact hS6.sub (.cons_cons _ (.cons_cons _ (.cons_cons _ (.cons_cons _ (.cons_cons _ (List.Sublist.append_left (List.sublist_cons_self _ _) _))))))
    ·have hw' : ¬ z.why = 2 := by simpa using hw
     obtain ⟨_, rfl⟩ := (a9K h3).resolve_left (fun h => hw' h.1)
     refine aU ?_
     exact a1u ⟨(pj1, lv), Nat.le_refl _, hS2.sub (List.Sublist.append_left (List.sublist_cons_self _ _) _), wF⟩
   ·obtain ⟨pj2, lv2⟩ := q
    dsimp only at hS
    refine aU ?_
    refine f7 hS rfl (.head _) (v := .ref o.ro o.rv 0 r.length (some 9)) rfl ?_
    refine aU ?_
    refine E_cs (t := ((r.length : Int) == 0)) rfl (fun hr => ?_) (fun hr => ?_)
    ·have hr0 : r = [] := by
      have : (r.length : Int) = 0 := by simpa using hr
      exact List.length_eq_zero_iff.1 zO
     subst hr0
     obtain ⟨v, h6, h7⟩ := h4 rfl
     obtain ⟨a, l, rfl⟩ : ∃ a l, ps2 = a :: l := by
      cases ps2 with
      | nil => cases h6
      | cons a l => exact ⟨a, l, rfl⟩
     cases h6
     cases h7
     have hla : (a :: l).reverse[l.length]? = some a := by simp
     simp only [List.length_cons] at hI
     refine aU ?_
     refine f7 hS rfl (.head _) (v := .ref o.li lv2 0 (l.length + 1) (some 2)) rfl ?_
     refine aU ?_
     refine f7 hS rfl (.head _) (v := .ref o.li lv2 0 (l.length + 1) (some 2)) rfl ?_
     refine aU ?_
     refine a0e rfl rfl l.length (a2m zO) zO ?_
     refine aU ?_
     refine b0s hS a1c.enc rfl (.tail _ (.tail _ (.head _))) (n := l.length) (fo := 0) (y := a) zS hla (v := .int .u64 a.v) rfl ?_
     refine aU ?_
     refine E_stS hS rfl (xv := .agg [.int .i64 2, .int .u64 a.v]) rfl Rp.here rfl rfl zqV (fun S hS => ?_)
     refine aU ?_
     refine g8 ?_
     refine aE ?_
     exact ⟨trivial, _, rfl, _, ⟨o.rv, lv2, [], _, pj2, rfl, rfl⟩, hS⟩
    ·have hr0 : r ≠ [] := fun e => by subst e; cases hr
     refine aU ?_
     refine aE ?_
     have hr1 : ab8 r ≠ [] := fun e => hr0 (List.map_eq_nil_iff.1 e)
     exact a1u ⟨(r, ps2, c8 z ++ rj1, pj2, lv2), ⟨h5 hr1, by show r.length < 9999999; omega, by show ps2.length < 10000000; omega, fun y hy => i4 y (.tail _ hy)⟩, by show r.length < (z :: r).length; simp, hS, wF⟩
 | cons x wa =>
   obtain ⟨F, h1, h2⟩ := a9L (z := z.toF8) (r := ab8 r) hz i1
   cases h2
   have hwz := i4 z (.head _)
   rw [hz] at hwz
   refine a3l (a9J (o := { o with lv := lv }) (s := { s with pans := ps' }) (r := r) (w := 2) hz h1 hok zO hd (by simp at hwz; omega)) hS rfl (.refl _) (fun r0 S L' hL hS => ?_)
   obtain ⟨rfl, z1, hz1, rfl⟩ := hL
   refine aU ?_
   refine E_cs (t := false) rfl (fun h => by cases h) (fun _ => ?_)
   refine a3E ?_
   refine aE ?_
   refine ⟨trivial, _, rfl, _, ⟨o.rv + 1, lv, z1 :: { z with wa := wa, wj := x.cells ++ z.wj } :: r, [], pj1, by rw [<- hz1]; rfl, rfl⟩, ?_⟩
   have e1 : max s.depth ((r.length : Int) + 2) = max s.depth (((F :: { z.toF8 with wa := wa } :: ab8 r : List F8).length : Nat) : Int) := by simp [ab8]; omega
   rw [e1] at hS
   exact hS
theorem a5s {rows : List Q8} {v : Int} {ps' : List a1c} {en : Option Int} {A' : List F8} (hv : a7b gs (ab8 rows) (⟨v, false⟩ :: s.pans) = some (en, A', ps')) (hok : ∀ g ∈ gs, okG g) (hn : rows.length < 9999999) (hp : s.pans.length < 9999999) (hd : 0 <= s.depth /\ s.depth < 1000000000) (hw : ∀ z ∈ rows, z.wa.length < 100000000) :
  Tri Tryd.prog 22 [.ptr o.r 0 0, .int .u64 v] (L8 gs o s rows rj pj)
   (fun _ L' => ∃ rv lv rows' rj' pj', ab8 rows' = A' /\ L' = L8 gs { o with rv := rv, lv := lv } { s with pans := ps', panics := max s.panics ((s.pans.length : Int) + 1), ek := if en.isSome then 2 else s.ek, ev := en.getD s.ev, depth := if en.isSome then s.depth else max s.depth (A'.length : Int) } rows' rj' pj') := by
 refine x4 mixed d0N zS [] (fun R S hS => ?_)
 refine aU ?_
 refine f7 hS rfl (.head _) (v := .ref o.li o.lv 0 s.pans.length (some 2)) rfl ?_
 refine aU ?_
 refine a9m (o := o.li) (ver := o.lv) (f := a1c.av) (l := s.pans.reverse) (m := [(⟨v, false⟩ : a1c)]) (j := pj) hS a1c.enc (by show AV.ref o.li o.lv 0 s.pans.length _ = _; rw [List.length_reverse]) (a2z (f := a1c.av) (esh := some 2) [(⟨v, false⟩ : a1c)]) (Rp.there (Rp.there Rp.here)) ⟨by simp; omega, by simp; omega⟩ (fun S hS => ?_)
 refine aU ?_
 refine E_stS hS rfl (xv := .ref o.li (o.lv + 1) 0 (s.pans.length + 1) (some 2)) (by show AV.ref o.li (o.lv + 1) 0 (s.pans.reverse ++ [(⟨v, false⟩ : a1c)]).length _ = _; simp) Rp.here rfl rfl zqV (fun S hS => ?_)
 refine aU ?_
 refine f7 hS rfl (.head _) (v := .ref o.li (o.lv + 1) 0 (s.pans.length + 1) (some 2)) rfl ?_
 refine aU ?_
 refine f7 hS rfl (.head _) (v := .int .i64 s.panics) rfl ?_
 refine aU ?_
 have e5 : flat a1c.av (s.pans.reverse ++ [(⟨v, false⟩ : a1c)]) = flat a1c.av ((⟨v, false⟩ : a1c) :: s.pans).reverse ++ [] := by simp
 refine b0t (σ := Unit) (fun _ => [(0, .ptr o.r 0 0)]) (fun _ => L8 gs { o with lv := o.lv + 1 } { s with pans := ⟨v, false⟩ :: s.pans, panics := max s.panics ((s.pans.length : Int) + 1) } rows rj [] ++ R) (fun _ => True) ?_ (fun _ S _ hS => ?_)
 ·refine E_cs (t := decide (((s.pans.length + 1 : Nat) : Int) > s.panics)) rfl (fun hq => ?_) (fun hq => ?_)
  ·refine aU ?_
   refine f7 hS rfl (.head _) (v := .ref o.li (o.lv + 1) 0 (s.pans.length + 1) (some 2)) rfl ?_
   refine aU ?_
   have hq' := of_decide_eq_true hq
   refine E_stS hS rfl (xv := .int .i64 (max s.panics ((s.pans.length : Int) + 1))) (by show AV.int .i64 ((s.pans.length + 1 : Nat) : Int) = _; congr 1; omega) Rp.here rfl rfl zqV (fun S hS => ?_)
   refine aU ?_
   refine a1u ⟨(), trivial, ?_, wF⟩
   have hS5 : Ab.Sep S ((o.r, 0, h8 gs { o with lv := o.lv + 1 } { s with pans := ⟨v, false⟩ :: s.pans, panics := max s.panics ((s.pans.length : Int) + 1) } rows.length) :: (o.ro, o.rv, rC rows ++ rj) :: (o.li, o.lv + 1, flat a1c.av (s.pans.reverse ++ [(⟨v, false⟩ : a1c)])) :: (o.te, o.tv, flat m8.av s.evs) :: (o.rg, 0, flat (avI .u64) (List.replicate 16 0)) :: (rows.flatMap o8 ++ R)) := hS
   rw [e5] at hS5
   exact hS5
  ·refine aU ?_
   have hq' := of_decide_eq_false hq
   refine a1u ⟨(), trivial, ?_, wF⟩
   have e : max s.panics ((s.pans.length : Int) + 1) = s.panics := by omega
   rw [e]
   have hS5 : Ab.Sep S ((o.r, 0, h8 gs { o with lv := o.lv + 1 } { s with pans := ⟨v, false⟩ :: s.pans } rows.length) :: (o.ro, o.rv, rC rows ++ rj) :: (o.li, o.lv + 1, flat a1c.av (s.pans.reverse ++ [(⟨v, false⟩ : a1c)])) :: (o.te, o.tv, flat m8.av s.evs) :: (o.rg, 0, flat (avI .u64) (List.replicate 16 0)) :: (rows.flatMap o8 ++ R)) := hS
   rw [e5] at hS5
   exact hS5
 ·refine aU ?_
  refine a3l (a7P (o := { o with lv := o.lv + 1 }) (s := { s with pans := ⟨v, false⟩ :: s.pans, panics := max s.panics ((s.pans.length : Int) + 1) }) hv hok hn zE hd hw) hS rfl (.refl _) (fun x S L' hL hS => ?_)
  refine aU ?_
  refine aE ?_
  exact ⟨trivial, _, rfl, _, hL, hS⟩
end
end Go.Proofs.YtipeiholgieclaaDoor

