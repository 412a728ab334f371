/- What ref7.Right says: the same as ir.Check. -/
import Derived.Test.YtepdcebjobjjgaaDoorGenR
import Derived.Test.YtepdcebjobjjgaaDoorWlTz
import Derived.Test.YtepdcebjobjjgaaDoorRows
set_option linter.unusedVariables false
set_option linter.unusedSimpArgs false
namespace Go.Proofs.YtepdcebjobjjgaaDoor
open Go Go.Ab
theorem a5X (l : List Int) (v : Int) (hl : l.length ≤ 4611686018427387904) : j5 l v = some (decide (v ∈ l)) := by
 unfold j5
 refine (a2X (xs := l) v (fun _ x => !(x == v)) true hl (fun i x hx => ?_)).trans ?_
 ·cases x == v <;> simp
 ·rw [a3Z]
  by_cases h : v ∈ l
  ·have : (l.all fun x => !(x == v)) = false := by
    rw [List.all_eq_false]; exact ⟨v, h, by simp⟩
   rw [this]; simp [h]
  ·have : (l.all fun x => !(x == v)) = true := by
    rw [List.all_eq_true]; intro x hx
    have : x ≠ v := fun e => h (e ▸ hx)
    simpa using this
   rw [this]; simp [h]
theorem a8Z (n : i7) : s3 n = some (a2C n) := by
 unfold s3 a2C
 simp only [jp, beq_iff_eq, decide_eq_true_eq, bne_iff_ne, ne_eq]
 by_cases h12 : n.Op = 12
 ·simp [h12]
 by_cases h14 : n.Op = 14
 ·simp [h14]
 by_cases h18 : n.Op = 18
 ·simp [h18]
 by_cases h9 : n.Op = 9
 ·by_cases he : n.Else = n.Next <;> simp [h9, he]
 by_cases h1 : n.Op < 1
 ·simp [h1, h12, h14, h18, h9]
 by_cases h2 : n.Op > 18 <;> simp [h1, h2, h12, h14, h18, h9]
end Go.Proofs.YtepdcebjobjjgaaDoor

/- What ref7 reads and writes. -/
namespace Go.Proofs.YtepdcebjobjjgaaDoor
open Go Go.Ab
theorem b8t (l : List Int) (v : Int) (hl : l.length ≤ 4611686018427387904) : w8 l v = some (decide (v ∈ l)) := by
 unfold w8
 refine (a7l (xs := l) v (fun _ x => !(x == v)) true hl (fun i x hx => ?_)).trans ?_
 ·simp only [t8, hx, Option.bind_some]
  cases x == v <;> simp
 ·rw [a3Z]
  by_cases h : v ∈ l
  ·have : (l.all fun x => !(x == v)) = false := by
    rw [List.all_eq_false]; exact ⟨v, h, by simp⟩
   rw [this]; simp [h]
  ·have : (l.all fun x => !(x == v)) = true := by
    rw [List.all_eq_true]; intro x hx
    have : x ≠ v := fun e => h (e ▸ hx)
    simpa using this
   rw [this]; simp [h]
theorem b1U (l : List Int) (hl : l.length ≤ 10000000) : ∃ r, k6 l = some r ∧ r.length ≤ l.length ∧ ∀ x, x ∈ r ↔ (x ∈ l ∧ 0 ≤ x) := by
 unfold k6
 have := a1d (xs := l) (s0 := (l, ([] : List Int))) (body := (fun (i_2 : Nat) (n_3 : Int) (s_1 : ((List Int) × (List Int))) => (((u6 s_1.1 (i_2 : Int)).bind fun y_5 => (jp (fun (s_7 : Bool) => (if s_7 then ((a4E 8 s_1.2 [y_5]).bind fun l_9 => (some (.nxt (s_1.1, l_9)))) else (some (.nxt (s_1.1, s_1.2))))) (fun k_6 => (if (decide (y_5 ≥ 0)) then ((w8 s_1.2 y_5).bind fun (vin_8 : Bool) => (k_6 (!vin_8))) else (k_6 false))))) : Option (Stp ((List Int) × (List Int)) (Option (List Int)))))) (fun _ => true) none
  (fun k s => s.1 = l ∧ s.2.length ≤ k ∧ ∀ x, x ∈ s.2 ↔ (x ∈ l.take k ∧ 0 ≤ x)) zO ⟨rfl, by simp, by simp⟩ (fun k x s hx hr => by
   obtain ⟨sl, r⟩ := s
   obtain ⟨h0, h1, h2⟩ := hr
   simp only at h0 h1 h2
   subst h0
   have hk : k < sl.length := (List.getElem?_eq_some_iff.1 hx).1
   have ht : sl.take (k + 1) = sl.take k ++ [x] := by rw [List.take_add_one, hx]; rfl
   simp only [if_true, jp, decide_eq_true_eq, t8, hx, Option.bind_some]
   by_cases h0 : x ≥ 0
   ·rw [if_pos h0, b8t _ _ zO]
    simp only [Option.bind_some]
    by_cases hm : x ∈ r
    ·refine ⟨(sl, r), by simp [hm], rfl, by simp only; omega, fun y => ?_⟩
     simp only
     rw [h2, ht]
     simp only [List.mem_append, List.mem_singleton]
     constructor
     ·rintro ⟨a, b⟩; exact ⟨.inl a, b⟩
     ·rintro ⟨a | a, b⟩
      ·exact ⟨a, b⟩
      ·subst a; exact (h2 y).1 hm
    ·refine ⟨(sl, r ++ [x]), ?_, rfl, by simp; omega, fun y => ?_⟩
     ·simp only [hm, decide_false, Bool.not_false, if_true]
      rw [a1F zE]; rfl
     ·simp only
      rw [ht]
      simp only [List.mem_append, List.mem_singleton, h2]
      constructor
      ·rintro (⟨a, b⟩ | a)
       ·exact ⟨.inl a, b⟩
       ·subst a; exact ⟨.inr rfl, h0⟩
      ·rintro ⟨a | a, b⟩
       ·exact .inl ⟨a, b⟩
       ·exact .inr a
   ·refine ⟨(sl, r), by rw [if_neg h0]; simp, rfl, by simp only; omega, fun y => ?_⟩
    simp only
    rw [h2, ht]
    simp only [List.mem_append, List.mem_singleton]
    constructor
    ·rintro ⟨a, b⟩; exact ⟨.inl a, b⟩
    ·rintro ⟨a | a, b⟩
     ·exact ⟨a, b⟩
     ·subst a; exact (h0 b).elim)
 rw [if_pos zS] at this
 obtain ⟨s, e1, e0, e2, e3⟩ := this
 rw [e1]
 exact ⟨s.2, rfl, e2, fun x => by rw [e3, List.take_length]⟩
theorem b4F (n : i7) (hl : (b1N n).length ≤ 10000000) : ∃ r, y9 n = some r ∧ r.length ≤ 10000000 ∧ ∀ x, x ∈ r ↔ (x ∈ b1N n ∧ 0 ≤ x) := by
 obtain ⟨r, h1, h0, h2⟩ := b1U (b1N n) hl
 refine ⟨r, ?_, by omega, h2⟩
 rw [← h1]
 have e0 : k6 [] = some [] := by
  obtain ⟨r, a, _, b⟩ := b1U [] zS
  rw [a]
  cases r with
  | nil => rfl
  | cons x l => have := (b x).1 zS; simp at this
 unfold y9 b1N
 simp only [jp, beq_iff_eq]
 have bs : ∀ o : Option (List Int), (o.bind fun x => some x) = o := fun o => by cases o <;> rfl
 simp only [bs]
 by_cases h2 : n.Op = 2
 ·simp [h2]
 by_cases h5 : n.Op = 5
 ·simp [h5]
 by_cases h7 : n.Op = 7
 ·simp [h7]
 by_cases h9 : n.Op = 9
 ·simp [h9]
 by_cases h12 : n.Op = 12
 ·simp [h12]
 by_cases h14 : n.Op = 14
 ·simp [h14]
 by_cases h17 : n.Op = 17
 ·simp [h17]
 by_cases h18 : n.Op = 18
 ·simp [h18]
 by_cases h3 : n.Op = 3
 ·simp [h3]
 by_cases h8 : n.Op = 8
 ·simp [h8]
 by_cases h11 : n.Op = 11
 ·simp [h11]
 by_cases h13 : n.Op = 13
 ·simp [h13]
 simp [h2, h5, h7, h9, h12, h14, h17, h18, h3, h8, h11, h13, e0]
theorem a4m (n : i7) : ∃ r, l9 n = some r ∧ r.length ≤ 10000000 ∧ ∀ x, x ∈ r ↔ (x ∈ b0o n ∧ 0 ≤ x) := by
 obtain ⟨r, h1, h0, h2⟩ := b1U (b0o n) (by have := a6q n; omega)
 refine ⟨r, ?_, by have := a6q n; omega, h2⟩
 rw [← h1]
 have e0 : k6 [] = some [] := by
  obtain ⟨r, a, _, b⟩ := b1U [] zS
  rw [a]
  cases r with
  | nil => rfl
  | cons x l => have := (b x).1 zS; simp at this
 unfold l9 b0o
 simp only [jp, beq_iff_eq]
 have bs : ∀ o : Option (List Int), (o.bind fun x => some x) = o := fun o => by cases o <;> rfl
 simp only [bs]
 by_cases h1 : n.Op = 1
 ·simp [h1]
 by_cases h2 : n.Op = 2
 ·simp [h2]
 by_cases h3 : n.Op = 3
 ·simp [h3]
 by_cases h4 : n.Op = 4
 ·simp [h4]
 by_cases h6 : n.Op = 6
 ·simp [h6]
 by_cases h7 : n.Op = 7
 ·simp [h7]
 by_cases h11 : n.Op = 11
 ·simp [h11]
 by_cases h16 : n.Op = 16
 ·simp [h16]
 by_cases h15 : n.Op = 15
 ·simp [h15]
 simp [h1, h2, h3, h4, h6, h7, h11, h16, h15, e0]
end Go.Proofs.YtepdcebjobjjgaaDoor

/- ref11.In: what it computes. -/
namespace Go.Proofs.YtepdcebjobjjgaaDoor
open Go Go.Ab
abbrev Rw := List (List Bool)
variable {N K : Nat} {s : List (List Bool)}
abbrev RL := List (List Int)
abbrev T4 := Rw × Bool
abbrev T3 := Int × Rw × Bool
abbrev B3 := Stp T4 (Option RL)
abbrev B2 := Stp T3 (Option B3)
abbrev B1 := Stp T4 (Option B2)
def Shp (N K : Nat) (s : Rw) : Prop := s.length = N ∧ ∀ r ∈ s, r.length = K
instance : Decidable (Shp N K s) := by unfold Shp; infer_instance
def a8e (K : Nat) (i : Nat) (s : Rw) : Option (Stp Rw (Option RL)) := gd (Shp i K s) ((mkL 1 (K : Int) (K : Int) false).bind fun w => some (.nxt (s ++ [w])))
def b2E (rows : Rw) (w : List Int) (p : Int) (_ : Nat) (to : Int) (is : Bool) : Option (Stp Bool (Option B1)) :=
 if is = true then some (.nxt true) else (u6 rows to).bind fun r => (u6 r p).bind fun b => if b = true then (j5 w p).bind fun x => some (.nxt (!x)) else some (.nxt false)
def b8u (g : b5) (i : Int) (n : i7) (w : List Int) (p : Nat) (s : T4) : Option (Stp T4 (Option B2)) :=
 gd (Shp g.Nodes.length g.Kinds.length s.1) ((y9 n).bind fun rd => (j5 rd (p : Int)).bind fun is0 => (s3 n).bind fun nx =>
 (rng (b2E s.1 w (p : Int)) nx is0).bind (oc fun is => if is = true then (u6 s.1 i).bind fun r => (u6 r (p : Int)).bind fun b => (if (!b) = true then some (.nxt (s.1.set i.toNat (r.set p true), true)) else some (.nxt s)) else some (.nxt s)))
def b9b (g : b5) (q : T3) : Option (Stp T3 (Option B3)) :=
 gd (Shp g.Nodes.length g.Kinds.length q.2.1) (if (decide (q.1 ≥ 0)) = true then (u6 g.Nodes q.1).bind fun n => (l9 n).bind fun w => (rni (b8u g q.1 n w) (List.length g.Kinds : Int) q.2).bind (oc fun s => gd (Shp g.Nodes.length g.Kinds.length s.1) (some (.nxt (I64 (q.1 - 1), s)))) else some (.brk q))
def a4M (fuel : Nat) (g : b5) (s : T4) : Option (Stp T4 (Option RL)) :=
 gd (Shp g.Nodes.length g.Kinds.length s.1) (if s.2 = true then (whileN (b9b g) fuel (I64 ((List.length g.Nodes : Int) - 1), s.1, false)).bind (oc fun q => gd (Shp g.Nodes.length g.Kinds.length q.2.1) (some (.nxt q.2))) else some (.brk s))
def b9c (p : Nat) (b : Bool) (l : List Int) : Option (Stp (List Int) (Option (Stp RL (Option RL)))) := if b = true then (a4E 8 l [(p : Int)]).bind fun l' => some (.nxt l') else some (.nxt l)
def a7m (rows : Rw) (i : Nat) (o : RL) : Option (Stp RL (Option RL)) := (u6 rows (i : Int)).bind fun r => (rng b9c r []).bind (oc fun l => (a4E 24 o [l]).bind fun o' => some (.nxt o'))
def a0c (fuel : Nat) (g : b5) : Option RL :=
 (mkL 24 (List.length g.Nodes : Int) (List.length g.Nodes : Int) ()).bind fun _ => (rni (a8e g.Kinds.length) (List.length g.Nodes : Int) []).bind (oc fun s => gd (Shp g.Nodes.length g.Kinds.length s) ((whileN (a4M fuel g) fuel (s, true)).bind (oc fun e =>
 gd (Shp g.Nodes.length g.Kinds.length e.1) ((rni (a7m e.1) (List.length g.Nodes : Int) []).bind (oc fun o => some o)))))
def cl (s : Rw) (i p : Nat) : Bool := (s.getD i []).getD p false
def fls (r : List Bool) : Nat := (r.filter (fun b => !b)).length
def b5h (s : Rw) : Nat := (s.map fls).sum
theorem Shp.row (h : Shp N K s) {i : Nat} (hi : i < N) : ∃ r, s[i]? = some r ∧ r.length = K ∧ s.getD i [] = r := by
 have hl : i < s.length := by rw [h.1]; exact hi
 exact ⟨s[i], List.getElem?_eq_getElem hl, h.2 _ (List.getElem_mem hl), by simp [List.getD_eq_getElem?_getD, hl]⟩
theorem Shp.at (h : Shp N K s) {i p : Nat} (hi : i < N) (hp : p < K) : ∃ r, u6 s (i : Int) = some r ∧ r.length = K ∧ u6 r (p : Int) = some (cl s i p) := by
 obtain ⟨r, h1, h2, h3⟩ := h.row hi
 refine ⟨r, by rw [t8]; exact h1, h2, ?_⟩
 have : p < r.length := by omega
 rw [t8, List.getElem?_eq_getElem this]
 unfold cl; rw [h3]; simp [List.getD_eq_getElem?_getD, this]
theorem Shp.set (h : Shp N K s) {i p : Nat} (hi : i < N) {r : List Bool} (hr : s[i]? = some r) : Shp N K (s.set i (r.set p true)) := by
 refine ⟨by rw [List.length_set]; exact h.1, fun x hx => ?_⟩
 rcases List.mem_or_eq_of_mem_set hx with a | a
 ·exact h.2 x a
 ·rw [a, List.length_set]; exact h.2 r (List.mem_of_getElem? hr)
theorem c1e {s : Rw} {i p j k : Nat} {r : List Bool} (hr : s[i]? = some r) (hp : p < r.length) : cl (s.set i (r.set p true)) j k = if j = i ∧ k = p then true else cl s j k := by
 have hi : i < s.length := (List.getElem?_eq_some_iff.1 hr).1
 unfold cl
 by_cases e : j = i
 ·subst e
  have e1 : (s.set j (r.set p true)).getD j [] = r.set p true := by simp [List.getD_eq_getElem?_getD, hi]
  have e2 : s.getD j [] = r := by simp [List.getD_eq_getElem?_getD, hr]
  rw [e1, e2]
  by_cases f : k = p
  ·subst f; simp [List.getD_eq_getElem?_getD, hp]
  ·have : ¬ p = k := fun h => f h.symm
   simp [List.getD_eq_getElem?_getD, f, List.getElem?_set, this]
 ·have : ¬ i = j := fun h => e h.symm
  simp [List.getD_eq_getElem?_getD, e, List.getElem?_set, this]
theorem b4G : ∀ (r : List Bool) (p : Nat), r[p]? = some false → fls (r.set p true) + 1 = fls r
 | [], p, h => by simp at h
 | b :: r, 0, h => by simp at h; subst h; simp [fls]
 | b :: r, p + 1, h => by
   have := b4G r p (by simpa using h)
   unfold fls at this ⊢
   cases b <;> simp at this ⊢ <;> omega
theorem b1V : ∀ (s : Rw) (i : Nat) (r r' : List Bool), s[i]? = some r → fls r' + 1 = fls r → b5h (s.set i r') + 1 = b5h s
 | [], i, r, r', h, _ => by simp at h
 | x :: s, 0, r, r', h, e => by simp at h; subst h; simp [b5h]; omega
 | x :: s, i + 1, r, r', h, e => by
   have := b1V s i r r' (by simpa using h) e
   simp [b5h] at this ⊢; omega
theorem b8v (h : Shp N K s) : b5h s ≤ N * K := by
 obtain ⟨h1, h2⟩ := h
 subst h1
 induction s with
 | nil => simp [b5h]
 | cons x s ih =>
   have hx := h2 x zS
   have := ih (fun r hr => h2 r (by simp [hr]))
   have hf : fls x ≤ K := by unfold fls; rw [← hx]; exact List.length_filter_le _ _
   simp only [b5h, List.map_cons, List.sum_cons, List.length_cons] at this ⊢
   rw [Nat.add_mul]; omega
end Go.Proofs.YtepdcebjobjjgaaDoor

/- ref11.In finds the least answer. -/
namespace Go.Proofs.YtepdcebjobjjgaaDoor
open Go Go.Ab
variable {N K : Nat} {s : Rw} {g : b5}
theorem b6k (h : Shp N K s) {p : Nat} (hp : p < K) (w : List Int) (hw : w.length ≤ 10000000) (nx : List Int) (hl : nx.length ≤ 2) (hn : ∀ x ∈ nx, 0 ≤ x ∧ x < N) (is0 : Bool) :
  rng (b2E s w (p : Int)) nx is0 = some (.fin (is0 || nx.any fun to => cl s to.toNat p && !decide ((p : Int) ∈ w))) := by
 have := a1d (xs := nx) (s0 := is0) (body := b2E s w (p : Int)) (fun _ => true) none (fun k b => b = (is0 || (nx.take k).any fun to => cl s to.toNat p && !decide ((p : Int) ∈ w))) zO zS (fun k to b hx hb => by
  simp only [if_true]
  have hto := hn to (List.mem_of_getElem? hx)
  obtain ⟨t, rfl⟩ : ∃ t : Nat, to = (t : Int) := ⟨to.toNat, by omega⟩
  rw [a0U hx, List.any_append, List.any_cons, List.any_nil, Bool.or_false, ← Bool.or_assoc, ← hb]
  unfold b2E
  cases b with
  | true => exact ⟨true, by simp, by simp⟩
  | false =>
    obtain ⟨r, h1, h2, h3⟩ := h.at (i := t) zO hp
    simp only [Bool.false_eq_true, if_false, h1, h3, Option.bind_some, a5X w _ zO, Int.toNat_natCast]
    cases cl s t p with
    | true => exact ⟨!decide ((p : Int) ∈ w), by simp, by simp⟩
    | false => exact ⟨false, by simp, by simp⟩)
 rw [if_pos zS] at this
 obtain ⟨s', e1, e2⟩ := this
 rw [e1, e2, List.take_length]
def b9d (g : b5) (s : Rw) (i p : Nat) : Prop := (p : Int) ∈ rdR g i ∨ ∃ to : Nat, (to : Int) ∈ nxt g i ∧ cl s to p = true ∧ (p : Int) ∉ wrR g i
def c1f (g : b5) (s : Rw) : Prop := ∀ i p, i < g.Nodes.length → p < g.Kinds.length → cl s i p = true → Lv g i p
structure Rnd (g : b5) (R0 : Rw) (s : T4) : Prop where
 sh : Shp g.Nodes.length g.Kinds.length s.1
 so : c1f g s.1
 eq : s.2 = false → s.1 = R0
 lt : s.2 = true → b5h s.1 < b5h R0
theorem c1g (hg : a1y g) {R0 : Rw} {i : Nat} {n : i7} (hn : g.Nodes[i]? = some n) {w : List Int} (hw : l9 n = some w) {s : T4} (h : Rnd g R0 s) {p : Nat} (hp : p < g.Kinds.length) :
  ∃ s', b8u g (i : Int) n w p s = some (.nxt s') ∧ Rnd g R0 s' ∧ (s'.2 = false → s' = s ∧ (b9d g s.1 i p → cl s.1 i p = true)) := by
 have hi : i < g.Nodes.length := (List.getElem?_eq_some_iff.1 hn).1
 have eR : rdR g i = b1N n := by unfold rdR; rw [hn]
 have eW : wrR g i = b0o n := by unfold wrR; rw [hn]
 have eN : nxt g i = a2C n := by unfold nxt; rw [hn]
 obtain ⟨rd, r1, r2, r3⟩ := b4F n (by rw [← eR]; have := hg.rd i; omega)
 obtain ⟨w', w1, w2, w3⟩ := a4m n
 rw [hw] at w1; cases w1
 unfold b8u
 rw [a0J h.sh, r1]
 simp only [Option.bind_some, a5X rd _ zO, a8Z]
 rw [b6k h.sh hp w w2 (a2C n) (a2W n) (fun x hx => hg.nx i x (by rw [eN]; exact hx))]
 simp only [Option.bind_some, oc]
 have key : (decide ((p : Int) ∈ rd) || (a2C n).any fun to => cl s.1 to.toNat p && !decide ((p : Int) ∈ w)) = true ↔ b9d g s.1 i p := by
  unfold b9d
  rw [eR, eW, eN]
  simp only [Bool.or_eq_true, decide_eq_true_eq, r3, List.any_eq_true, Bool.and_eq_true, Bool.not_eq_true', decide_eq_false_iff_not, w3]
  constructor
  ·rintro (⟨a, _⟩ | ⟨to, a, b, c⟩)
   ·exact .inl a
   ·have := hg.nx i to (by rw [eN]; exact a)
    exact .inr ⟨to.toNat, by rw [Int.toNat_of_nonneg this.1]; exact a, b, fun q => c ⟨q, by omega⟩⟩
  ·rintro (a | ⟨to, a, b, c⟩)
   ·exact .inl ⟨a, by omega⟩
   ·exact .inr ⟨(to : Int), a, by simpa using b, fun q => c q.1⟩
 obtain ⟨r, h1, h2, h3⟩ := h.sh.at hi hp
 have hrow : s.1[i]? = some r := by rw [← t8]; exact h1
 cases hb : (decide ((p : Int) ∈ rd) || (a2C n).any fun to => cl s.1 to.toNat p && !decide ((p : Int) ∈ w)) with
 | false =>
   simp only [Bool.false_eq_true, if_false]
   refine ⟨s, rfl, h, fun _ => ⟨rfl, fun q => ?_⟩⟩
   rw [key.2 q] at hb; cases hb
 | true =>
   have hneed := key.1 hb
   simp only [if_true, h1, h3, Option.bind_some]
   cases hc : cl s.1 i p with
   | true =>
     simp only [Bool.not_true, Bool.false_eq_true, if_false]
     exact ⟨s, rfl, h, fun _ => ⟨rfl, by simp⟩⟩
   | false =>
     simp only [Bool.not_false, if_true]
     have hrp : p < r.length := by omega
     have hrf : r[p]? = some false := by rw [← t8, h3, hc]
     have hcnt := b1V s.1 i r (r.set p true) hrow (b4G r p hrf)
     refine ⟨_, rfl, ⟨h.sh.set hi hrow, fun j k hj hk hcl => ?_, fun q => by simp at q, fun _ => ?_⟩, fun q => by simp at q⟩
     ·simp only [Int.toNat_natCast] at hcl
      rw [c1e hrow hrp] at hcl
      by_cases e : j = i ∧ k = p
      ·obtain ⟨rfl, rfl⟩ := e
       rcases hneed with a | ⟨to, a, b, c⟩
       ·exact .read hj hk a
       ·have ht := hg.nx _ _ a
        exact .step hj a (h.so to k zO hk b) c
      ·rw [if_neg e] at hcl; exact h.so j k hj hk hcl
     ·simp only [Int.toNat_natCast]
      cases q : s.2 with
      | true => have := h.lt q; omega
      | false => have := h.eq q; rw [← this]; omega
theorem c1h (hg : a1y g) {R0 : Rw} {i : Nat} {n : i7} (hn : g.Nodes[i]? = some n) {w : List Int} (hw : l9 n = some w) {s : T4} (h : Rnd g R0 s) :
  ∃ s', rni (b8u g (i : Int) n w) (List.length g.Kinds : Int) s = some (.fin s') ∧ Rnd g R0 s' ∧ (s'.2 = false → s' = s ∧ ∀ p, p < g.Kinds.length → b9d g s.1 i p → cl s.1 i p = true) := by
 obtain ⟨s', e1, e2, e3⟩ := a5u (body := b8u g (i : Int) n w) (n := (List.length g.Kinds : Int)) (s0 := s) (fun k t => Rnd g R0 t ∧ (t.2 = false → t = s ∧ ∀ p, p < k → b9d g s.1 i p → cl s.1 i p = true)) (by have := hg.kn; omega) ⟨h, fun q => ⟨rfl, fun p hp => by omega⟩⟩ (fun k t hk ht => by
  obtain ⟨h1, h2⟩ := ht
  obtain ⟨t', a, b, c⟩ := c1g hg hn hw h1 (p := k) zO
  refine ⟨t', a, b, fun q => ?_⟩
  obtain ⟨rfl, c2⟩ := c q
  obtain ⟨rfl, d⟩ := h2 q
  refine ⟨rfl, fun p hp hne => ?_⟩
  by_cases e : p = k
  ·subst e; exact c2 hne
  ·exact d p zO hne)
 exact ⟨s', e1, e2, fun q => by simpa using e3 q⟩
def c1Q (g : b5) (s : Rw) (k : Int) : Prop := ∀ i p : Nat, k < (i : Int) → i < g.Nodes.length → p < g.Kinds.length → b9d g s i p → cl s i p = true
theorem b6l (hg : a1y g) {fuel : Nat} (hf : 5000 ≤ fuel) {R0 : Rw} (h : Rnd g R0 (R0, false)) :
  ∃ q, whileN (b9b g) fuel (I64 ((List.length g.Nodes : Int) - 1), R0, false) = some (.fin q) ∧ Rnd g R0 q.2 ∧ (q.2.2 = false → c1Q g R0 (-1)) := by
 have hN := hg.nn
 obtain ⟨o, e1, e2⟩ := a4Z (body := b9b g) (fun q => -1 ≤ q.1 ∧ q.1 < g.Nodes.length ∧ Rnd g R0 q.2 ∧ (q.2.2 = false → c1Q g R0 q.1)) (fun q => (q.1 + 1).toNat) (fun o => ∃ q, o = .fin q ∧ Rnd g R0 q.2 ∧ (q.2.2 = false → c1Q g R0 (-1))) (fun q hq => by
  obtain ⟨h1, h2, h3, h4⟩ := hq
  unfold b9b
  rw [a0J h3.sh]
  by_cases hge : q.1 ≥ 0
  ·obtain ⟨i, hi⟩ : ∃ i : Nat, q.1 = (i : Int) := ⟨q.1.toNat, by omega⟩
   have hi2 : i < g.Nodes.length := by omega
   obtain ⟨w, w1, w2, w3⟩ := a4m g.Nodes[i]
   obtain ⟨s', a, b, c⟩ := c1h hg (List.getElem?_eq_getElem hi2) w1 h3
   left
   refine ⟨(q.1 - 1, s'), ?_, ⟨by simp only; omega, by simp only; omega, b, fun z => ?_⟩, by simp only; omega⟩
   ·simp only [hge, decide_true, if_true]
    rw [hi, t8, List.getElem?_eq_getElem hi2]
    simp only [Option.bind_some, w1, a, oc]
    rw [a0J b.sh, a3v zO]
   ·obtain ⟨rfl, d⟩ := c z
    have e := h3.eq z
    rw [e] at d
    intro j p hj hjN hp hne
    simp only at hj
    by_cases ej : j = i
    ·subst ej; exact d p hp hne
    ·exact h4 z j p zO hjN hp hne
  ·right; left
   refine ⟨q, by simp [hge], q, rfl, h3, fun z => ?_⟩
   have : q.1 = -1 := by omega
   rw [← this]; exact h4 z) fuel (I64 ((List.length g.Nodes : Int) - 1), R0, false) ⟨by rw [a3v zO]; have := hg.n0; omega, by rw [a3v zO]; omega, h, fun _ j p hj hjN => by rw [a3v zO] at hj; simp only at hj; omega⟩ (by rw [a3v zO]; simp only; omega)
 obtain ⟨q, rfl, e3, e4⟩ := e2
 exact ⟨q, e1, e3, e4⟩
theorem b8w (hg : a1y g) {fuel : Nat} (hf : 10000000 ≤ fuel) {R : Rw} (hs : Shp g.Nodes.length g.Kinds.length R) (hz : ∀ i p, i < g.Nodes.length → p < g.Kinds.length → cl R i p = false) :
  ∃ e, whileN (a4M fuel g) fuel (R, true) = some (.fin e) ∧ Shp g.Nodes.length g.Kinds.length e.1 ∧ ∀ i p, i < g.Nodes.length → p < g.Kinds.length → (cl e.1 i p = true ↔ Lv g i p) := by
 obtain ⟨o, e1, e2⟩ := a4Z (body := a4M fuel g) (fun s => Shp g.Nodes.length g.Kinds.length s.1 ∧ c1f g s.1 ∧ (s.2 = false → c1Q g s.1 (-1))) (fun s => if s.2 = true then b5h s.1 + 1 else 0) (fun o => ∃ e, o = .fin e ∧ Shp g.Nodes.length g.Kinds.length e.1 ∧ ∀ i p, i < g.Nodes.length → p < g.Kinds.length → (cl e.1 i p = true ↔ Lv g i p)) (fun s h => by
  obtain ⟨h1, h2, h3⟩ := h
  obtain ⟨R0, m⟩ := s
  unfold a4M
  simp only at h1 h2 h3 ⊢
  rw [a0J h1]
  cases m with
  | true =>
    left
    obtain ⟨q, a, b, c⟩ := b6l hg (fuel := fuel) zO (R0 := R0) ⟨h1, h2, fun _ => rfl, fun z => by cases z⟩
    refine ⟨q.2, ?_, ⟨b.sh, b.so, fun z => ?_⟩, ?_⟩
    ·simp only [if_true, a, Option.bind_some, oc]
     rw [a0J b.sh]
    ·rw [b.eq z]; exact c z
    ·simp only [if_true]
     split
     ·have := b.lt (by assumption); omega
     ·omega
  | false =>
    right; left
    refine ⟨(R0, false), by simp, (R0, false), rfl, h1, fun i p hi hp => ⟨h2 i p hi hp, fun hl => ?_⟩⟩
    have hc := h3 rfl
    simp only
    induction hl with
    | read hi' hp' hr => exact hc _ _ zO hi' hp' (.inl hr)
    | step hi' ht hl hw ih =>
      have hh := hl.lt
      exact hc _ _ zO hi' hh.2 (.inr ⟨_, ht, ih hh.1 hh.2, hw⟩)) fuel (R, true) ⟨hs, fun i p hi hp hc => (by rw [hz i p hi hp] at hc; cases hc), fun z => by cases z⟩ (by
    have := b8v hs
    have h1 := hg.nn; have h2 := hg.kn
    have : g.Nodes.length * g.Kinds.length ≤ 4096 * 1024 := Nat.mul_le_mul h1 h2
    simp only [if_true]; omega)
 obtain ⟨e, rfl, e3, e4⟩ := e2
 exact ⟨e, e1, e3, e4⟩
theorem c1i (r : List Bool) (hr : r.length ≤ 1048576) : rng b9c r [] = some (.fin (a1L r.length fun p => r.getD p false)) := by
 have := a1d (xs := r) (s0 := ([] : List Int)) (body := b9c) (fun _ => true) none (fun k l => l = a1L k fun p => r.getD p false) zO rfl (fun k b l hx hl => by
  simp only [if_true]
  have hb : r.getD k false = b := by simp [List.getD_eq_getElem?_getD, hx]
  have hll : l.length ≤ k := by rw [hl]; unfold a1L; rw [List.length_map]; exact Nat.le_trans (List.length_filter_le _ _) zS
  have hk : k < r.length := (List.getElem?_eq_some_iff.1 hx).1
  have hset : a1L (k + 1) (fun p => r.getD p false) = l ++ (if b = true then [(k : Int)] else []) := by
   rw [hl]; unfold a1L
   rw [List.range_succ, List.filter_append, List.map_append]
   congr 1
   simp only [List.filter_cons, List.filter_nil, hb]
   cases b <;> simp
  unfold b9c
  cases b with
  | true =>
    refine ⟨l ++ [(k : Int)], ?_, by rw [hset]; simp⟩
    simp only [if_true]
    rw [a1F zE]; rfl
  | false => exact ⟨l, by simp, by rw [hset]; simp⟩)
 rw [if_pos zS] at this
 obtain ⟨s', e1, e2⟩ := this
 rw [e1, e2]
theorem b6m (h : Shp N K s) (hN : N ≤ 5000) (hK : K ≤ 1048576) : rni (a7m s) (N : Int) [] = some (.fin ((List.range N).map fun i => a1L K (cl s i))) := by
 obtain ⟨s', e1, e2⟩ := a5u (body := a7m s) (n := (N : Int)) (s0 := ([] : RL)) (fun k o => o = (List.range k).map fun i => a1L K (cl s i)) zO rfl (fun k o hk ho => by
  obtain ⟨r, h1, h2, h3⟩ := h.row (i := k) zO
  have hc : (fun p => r.getD p false) = cl s k := by funext p; unfold cl; rw [h3]
  refine ⟨o ++ [a1L K (cl s k)], ?_, by rw [List.range_succ, List.map_append, ← ho]; rfl⟩
  unfold a7m
  rw [t8, h1]
  simp only [Option.bind_some, c1i r zO, oc]
  rw [h2, hc, a1F (by rw [ho]; simp; omega)]; rfl)
 rw [e1, e2]; simp
theorem b6n (g : b5) (hg : a1y g) : ∃ s, rni (a8e g.Kinds.length) (List.length g.Nodes : Int) [] = some (.fin s) ∧ Shp g.Nodes.length g.Kinds.length s ∧ ∀ i p, cl s i p = false := by
 obtain ⟨s', e1, e2, e3⟩ := a5u (body := a8e g.Kinds.length) (n := (List.length g.Nodes : Int)) (s0 := ([] : Rw)) (fun k s => Shp k g.Kinds.length s ∧ ∀ r ∈ s, r = List.replicate g.Kinds.length false) (by have := hg.nn; omega) ⟨⟨rfl, by simp⟩, by simp⟩ (fun k s hk hs => by
  obtain ⟨h1, h2⟩ := hs
  have := hg.kn
  refine ⟨s ++ [List.replicate g.Kinds.length false], ?_, ⟨by rw [List.length_append, h1.1]; rfl, ?_⟩, ?_⟩
  ·unfold a8e
   rw [a0J h1]
   unfold mkL
   rw [if_pos zO]; simp
  ·intro r hr
   rcases List.mem_append.1 hr with a | a
   ·exact h1.2 r a
   ·simp at a; rw [a]; simp
  ·intro r hr
   rcases List.mem_append.1 hr with a | a
   ·exact h2 r a
   ·simpa using a)
 refine ⟨s', e1, by simpa using e2, fun i p => ?_⟩
 unfold cl
 rcases Nat.lt_or_ge i s'.length with a | a
 ·have := e3 _ (List.getElem_mem a)
  simp only [List.getD_eq_getElem?_getD, List.getElem?_eq_getElem a, Option.getD_some, this, List.getElem?_replicate]
  split <;> rfl
 ·simp [List.getD_eq_getElem?_getD, a]
theorem b7r (hg : a1y g) {fuel : Nat} (hf : 10000000 ≤ fuel) : a0c fuel g = some (inL g) := by
 unfold a0c
 have hN := hg.nn; have hK := hg.kn
 have hm : mkL 24 (List.length g.Nodes : Int) (List.length g.Nodes : Int) () = some (List.replicate g.Nodes.length ()) := by unfold mkL; rw [if_pos zO]; simp
 obtain ⟨s, a1, a2, a3⟩ := b6n g hg
 obtain ⟨e, b1, b2, b3⟩ := b8w hg hf a2 (fun i p _ _ => a3 i p)
 rw [hm]
 simp only [Option.bind_some, a1, oc]
 rw [a0J a2, b1]
 simp only [Option.bind_some, oc]
 rw [a0J b2, b6m b2 zO zO]
 simp only [Option.bind_some, oc]
 unfold inL
 congr 1
 refine List.map_congr_left (fun i hi => a5D (fun p hp => ?_))
 have := b3 i p (by simpa using hi) hp
 unfold lvB
 exact @b0T _ _ (Classical.propDecidable _) this
end Go.Proofs.YtepdcebjobjjgaaDoor

/- ref11.In: the walk. -/
namespace Go.Proofs.YtepdcebjobjjgaaDoor
open Go Go.Ab
set_option maxRecDepth 20000
set_option maxHeartbeats 2000000
noncomputable def c5K : FC := fcO 47
theorem c5L : Fn3 Tryd.prog 47 130 [(2, none)] c5K := ⟨_, _, Tryd.func47, rfl, rfl, rfl, by kernel_rfl⟩

def itR (ads : List Nat) (s : Rw) : List It := List.zipWith (fun a r => (a, 0, flat avB r)) ads s
def a6v (K : Nat) (ads : List Nat) : List AV := ads.map fun a => .ref a 0 0 K none
def a9a (n : Nat) : List AV := List.replicate n .nils
theorem a2j {σ ρ β : Type} {body : Nat → σ → Option (Stp σ ρ)} {k : Out σ ρ → Option β} {r : β} {m i : Nat} {s : σ} (h : (a0L body (m + 1) i s).bind k = some r) :
  ∃ c, body i s = some c ∧ (match c with | .nxt s' => (a0L body m (i + 1) s').bind k = some r | .brk s' => k (.fin s') = some r | .ret v => k (.ret v) = some r) := by
 simp only [a0L] at h
 cases hc : body i s with
 | none => rw [hc] at h; cases h
 | some c => rw [hc] at h; refine ⟨c, rfl, ?_⟩; cases c <;> exact h
theorem a4e {σ ρ β : Type} {body : Nat → σ → Option (Stp σ ρ)} {k : Out σ ρ → Option β} {r : β} {n : Nat} {s : σ} (h : (rni body (n : Int) s).bind k = some r) : n ≤ 4611686018427387904 ∧ (a0L body n 0 s).bind k = some r := by
 unfold rni at h
 split at h
 ·rename_i hn; exact ⟨by omega, by simpa using h⟩
 ·cases h
theorem c2T : Enc (fun (_ : Unit) => AV.nils) none := ⟨fun _ => rfl, fun _ => rfl, fun _ => rfl, fun _ _ => rfl⟩
theorem c1j (n : Nat) : flat (fun (_ : Unit) => AV.nils) (List.replicate n ()) = a9a n := by
 induction n with
 | zero => rfl
 | succ n ih => rw [List.replicate_succ, a0t, ih]; rfl
theorem a7n {σ ρ β : Type} {body : σ → Option (Stp σ ρ)} {k : Out σ ρ → Option β} {r : β} {n : Nat} {s : σ} (h : (whileN body n s).bind k = some r) :
  ∃ m c, n = m + 1 ∧ body s = some c ∧ (match c with | .nxt s' => (whileN body m s').bind k = some r | .brk s' => k (.fin s') = some r | .ret v => k (.ret v) = some r) := by
 cases n with
 | zero => simp [whileN] at h
 | succ m =>
   simp only [whileN] at h
   cases hc : body s with
   | none => rw [hc] at h; cases h
   | some c => rw [hc] at h; refine ⟨m, c, rfl, rfl, ?_⟩; cases c <;> exact h
theorem b6o {ads : List Nat} {s : Rw} {a : Nat} {w : List Bool} (h : ads.length = s.length) : itR (ads ++ [a]) (s ++ [w]) = itR ads s ++ [(a, 0, flat avB w)] := by
 unfold itR; rw [List.zipWith_append h]; rfl
theorem b4H {K m : Nat} {ads : List Nat} {a : Nat} : (a6v K ads ++ a9a (m + 1)).set ads.length (.ref a 0 0 K none) = a6v K (ads ++ [a]) ++ a9a m := by
 have : ads.length = (a6v K ads).length := by simp [a6v]
 rw [this, List.set_append_right _ _ (Nat.le_refl _), Nat.sub_self]
 simp [a6v, a9a, List.replicate_succ]
theorem b8x {K : Nat} {ads : List Nat} {j : Nat} {X : List AV} (h : j < ads.length) : a0I none (a6v K ads ++ X) j = some (.ref (ads[j]) 0 0 K none) := by
 have : j < (a6v K ads ++ X).length := by simp [a6v]; omega
 simp only [a0I]
 rw [if_pos this, List.getD_eq_getElem?_getD, List.getElem?_append_left (by simp [a6v]; exact h)]
 simp [a6v, h]
theorem b0X {ads : List Nat} {s : Rw} {j : Nat} {w : List Bool} (h : j < ads.length) (hw : s[j]? = some w) : (ads[j], 0, flat avB w) ∈ itR ads s := by
 obtain ⟨hj, rfl⟩ := List.getElem?_eq_some_iff.1 hw
 unfold itR
 rw [List.mem_iff_getElem]
 exact ⟨j, by simp; omega, by simp⟩
theorem c1k {ads : List Nat} {s : Rw} {j : Nat} {w w' : List Bool} (h : j < ads.length) (hw : s[j]? = some w) : Rp (itR ads s) (ads[j], 0, flat avB w) (ads[j], 0, flat avB w') (itR ads (s.set j w')) := by
 induction ads generalizing s j with
 | nil => simp at h
 | cons a ads ih =>
   cases s with
   | nil => simp at hw
   | cons x s =>
     cases j with
     | zero => simp at hw; subst hw; exact Rp.here
     | succ j => exact Rp.there (ih (by simpa using h) (by simpa using hw))
theorem b8y : ∀ w : List Bool, flat avB w = w.map avB
 | [] => rfl
 | x :: w => by rw [a0t, b8y w]; rfl
theorem b4I {w : List Bool} {p : Nat} {b : Bool} {k : Nat} (h : w[p]? = some b) (hk : k = p) : a0I none (flat avB w) k = some (.bool b) := by
 subst hk
 obtain ⟨hp, rfl⟩ := List.getElem?_eq_some_iff.1 h
 have hl : k < (flat avB w).length := by rw [a8C.length]; simpa [f7] using hp
 simp only [a0I]
 rw [if_pos hl, b8y, List.getD_eq_getElem?_getD]
 simp [hp, avB]
theorem b8z {w : List Bool} {p k : Nat} (hp : p < w.length) (hk : k = p) : splice (flat avB w) k (AV.bool true).cells = flat avB (w.set p true) := by
 subst hk
 simp only [AV.cells, splice, b8y, List.map_set]; rfl
theorem a6w {K : Nat} {ads : List Nat} {j : Nat} (h : j < ads.length) : a0I none (a6v K ads) (0 + j * f7 none) = some (.ref (ads[j]) 0 0 K none) := by
 have := b8x (K := K) (X := []) h; simpa [f7] using this
def m4 (g : b5) (e : T4) : Option RL := (rni (a7m e.1) (List.length g.Nodes : Int) []).bind (oc fun o => some o)
def m3 (g : b5) (e : T4) : Option RL := gd (Shp g.Nodes.length g.Kinds.length e.1) (m4 g e)
def m2 (fuel : Nat) (g : b5) (s : Rw) : Option RL := gd (Shp g.Nodes.length g.Kinds.length s) ((whileN (a4M fuel g) fuel (s, true)).bind (oc (m3 g)))
theorem a2k {fuel : Nat} {g_00 : b5} {r : (List (List Int))} (h : a0c fuel g_00 = some r) : m8 Tryd.prog 47 [(b5.av g_00)] (.sl false 1 (List.map (avL 1 (avI .i64)) r)) := by
 unfold a0c at h
 obtain ⟨w0, hw0, h⟩ := b9 h
 obtain ⟨hw1, rfl⟩ := a3h hw0
 refine k7 mixed c5L zS [7, 21, 32, 122, 127] 2 ?_
 have hS : Sep [] [] := Sep.nil
 refine f6 (b8 ?_)
 refine oP (gR g_00) ?_
 refine aU ?_
 refine b2w (f := fun (_ : Unit) => AV.nils) (x := ()) hS c2T rfl rfl rfl rfl hw1 (fun o3 S hS => ?_)
 rw [c1j] at hS
 simp only [Int.toNat_natCast] at hS ⊢
 refine aU ?_
 obtain ⟨hN, h⟩ := a4e h
 refine a2Q g_00.Nodes.length (fun _ : List Nat × Rw => [(1, gR g_00), (3, .ref o3 0 0 g_00.Nodes.length none)]) (fun s => (o3, 0, a6v g_00.Kinds.length s.1 ++ a9a (g_00.Nodes.length - s.1.length)) :: itR s.1 s.2)
  (fun i s => s.1.length = i ∧ s.2.length = i ∧ (a0L (a8e g_00.Kinds.length) (g_00.Nodes.length - i) i s.2).bind (oc (m2 fuel g_00)) = some r) ([], []) (by simpa [a6v, itR] using hS) ⟨rfl, rfl, h⟩ (k9 ⟨.refl _, .refl _, .refl _, .refl _, trivial⟩) hN zD zD (fun _ => ⟨rfl, rfl, rfl, rfl⟩) (fun i s S hi hI hS => ?_) (fun s fr' S hI hS hw => ?_)
 ·obtain ⟨ads, s⟩ := s
  obtain ⟨h1, h2, h⟩ := hI
  simp only at h1 h2 h hS
  obtain ⟨m, hm⟩ : ∃ m, g_00.Nodes.length - i = m + 1 := ⟨g_00.Nodes.length - i - 1, by omega⟩
  rw [hm] at h
  obtain ⟨c, hc, h⟩ := a2j h
  unfold a8e at hc
  obtain ⟨hsh, hc⟩ := a0z hc
  obtain ⟨w, hw1, hc⟩ := b9 hc
  obtain ⟨hw2, rfl⟩ := a3h hw1
  cases hc
  refine aU ?_
  refine b2w (x := false) hS a8C rfl rfl rfl rfl hw2 (fun a S hS => ?_)
  refine o6 rfl rfl ⟨by omega, by omega⟩ ?_
  refine E_stS hS rfl zC (by first | exact Rp.here | (repeat (first | exact Rp.here | apply Rp.there | apply Rp.skip))) rfl rfl (by simp [a6v, a9a, f7]; omega) (fun S hS => ?_)
  refine aU ?_
  subst h1
  rw [hm] at hS
  refine R_n (ads ++ [a], s ++ [List.replicate g_00.Kinds.length false]) ⟨by simp, by simp [h2], ?_⟩ ?_ (k9 ⟨.refl _, .refl _, .refl _, .refl _, trivial⟩)
  ·rw [show g_00.Nodes.length - (ads.length + 1) = m by omega]; exact h
  ·have e : splice (a6v g_00.Kinds.length ads ++ a9a (m + 1)) (0 + ((ads.length : Int)).toNat * f7 none) (AV.ref a 0 0 ((g_00.Kinds.length : Int)).toNat none).cells = a6v g_00.Kinds.length (ads ++ [a]) ++ a9a m := by
    rw [← b4H]
    simp [f7, AV.cells, splice]
   rw [e] at hS
   simp only [b6o h2.symm, Int.toNat_natCast] at hS ⊢
   rw [show g_00.Nodes.length - (ads ++ [a]).length = m by simp; omega]
   exact hS.perm (List.perm_append_comm (l₁ := [_]) (l₂ := _ :: _))
 ·obtain ⟨ads, s⟩ := s
  obtain ⟨h1, h2, h⟩ := hI
  simp only at h1 h2 h hS
  have hS : Sep S ((o3, 0, a6v g_00.Kinds.length ads) :: itR ads s) := by
   rw [h1, Nat.sub_self] at hS; simpa [a9a] using hS
  rw [Nat.sub_self] at h
  replace h : m2 fuel g_00 s = some r := h
  obtain ⟨hsh, h⟩ := a0z h
  refine a3y hw ?_
  refine aU ?_
  refine j8 (a0g (σ := Nat × T4) (fun i => [(1, gR g_00), (3, .ref o3 0 0 g_00.Nodes.length none), (5, .bool i.2.2)]) (fun i => (o3, 0, a6v g_00.Kinds.length ads) :: itR ads i.2.1) (fun i => (whileN (a4M fuel g_00) i.1 i.2).bind (oc (m3 g_00)) = some r) (fun i => i.1) (fuel, s, true) hS h (k9 ⟨.refl _, .refl _, .refl _, trivial⟩) (fun i S h hS => ?_))
  obtain ⟨n, s, more⟩ := i
  simp only at h hS
  obtain ⟨n, c, rfl, hc, h⟩ := a7n h
  unfold a4M at hc
  obtain ⟨hsh, hc⟩ := a0z hc
  refine aU ?_
  cases more with
  | false =>
    rw [if_neg zS] at hc
    cases hc
    refine a9F rfl (y6 ?_)
    (repeat (first | refine s4 ?_ | refine s6 ?_ | refine s9 rfl ?_ | refine j7 ?_ | refine m9 ?_ | refine l7 ?_))
    replace h : m3 g_00 (s, false) = some r := h
    obtain ⟨hsh, h⟩ := a0z h
    unfold m4 at h
    refine f8 ?_
    refine f6 (b8 ?_)
    refine aS ?_
    refine b7 ?_
    refine b5R 13 none hS rfl (fun o13 S hS => ?_)
    refine aU ?_
    obtain ⟨_, h⟩ := a4e h
    dsimp only at h hS
    refine a2Q g_00.Nodes.length (fun q : Nat × List (Nat × Nat × List Int) => [(3, .ref o3 0 0 g_00.Nodes.length none), (13, .ref o13 q.1 0 q.2.length none)])
     (fun q => (o13, q.1, q.2.map fun x => AV.ref x.1 x.2.1 0 x.2.2.length none) :: ((q.2.map fun x => (x.1, x.2.1, flat (avI .i64) x.2.2)) ++ ((o3, 0, a6v g_00.Kinds.length ads) :: itR ads s)))
     (fun i q => q.2.length = i ∧ (a0L (a7m s) (g_00.Nodes.length - i) i (q.2.map (·.2.2))).bind (oc fun o => some o) = some r) (0, []) hS ⟨rfl, h⟩ (k9 ⟨.refl _, .refl _, .refl _, .refl _, trivial⟩) hN zD zD (fun _ => ⟨rfl, rfl, rfl, rfl⟩) (fun i q S hi hI hS => ?_) (fun q fr' S hI hS hw => ?_)
    ·obtain ⟨v13, os⟩ := q
     obtain ⟨hl, h⟩ := hI
     dsimp only at hl h hS
     obtain ⟨m, hm⟩ : ∃ m, g_00.Nodes.length - i = m + 1 := ⟨g_00.Nodes.length - i - 1, by omega⟩
     rw [hm] at h
     obtain ⟨c, hc, h⟩ := a2j h
     unfold a7m at hc
     obtain ⟨row, hrow, hc⟩ := b9 hc
     rw [t8] at hrow
     have hrl : row.length = g_00.Kinds.length := hsh.2 _ (List.mem_of_getElem? hrow)
     refine f6 (b8 ?_)
     refine aS ?_
     refine b7 ?_
     refine f8 ?_
     refine f6 (b8 ?_)
     refine aS ?_
     refine b7 ?_
     refine b5R 15 none hS rfl (fun o15 S hS => ?_)
     refine aU ?_
     refine o6 rfl rfl ⟨by omega, by omega⟩ ?_
     refine v9 hS rfl (.tail _ (.tail _ (List.mem_append_right _ (.head _)))) (by exact a6w (show i < ads.length by omega)) ?_
     refine aU ?_
     rw [a8z, hrl] at hc
     obtain ⟨hX, hc⟩ := a4e hc
     dsimp only
     refine a2Q g_00.Kinds.length (fun q : Nat × List Int => [(3, .ref o3 0 0 g_00.Nodes.length none), (13, .ref o13 v13 0 os.length none), (15, .ref o15 q.1 0 q.2.length none), (111, .ref (ads[i]'zO) 0 0 g_00.Kinds.length none), (105, .int .i64 i), (104, .int .i64 g_00.Nodes.length)])
      (fun q => (o15, q.1, flat (avI .i64) q.2) :: (o13, v13, os.map fun x => AV.ref x.1 x.2.1 0 x.2.2.length none) :: ((os.map fun x => (x.1, x.2.1, flat (avI .i64) x.2.2)) ++ ((o3, 0, a6v g_00.Kinds.length ads) :: itR ads s)))
      (fun j q => (a0L (fun i s => row[i]?.bind fun x => b9c i x s) (g_00.Kinds.length - j) j q.2).bind (oc fun l => (a4E 24 (os.map (·.2.2)) [l]).bind fun o' => some (.nxt o')) = some c) (0, []) hS hc (k9 ⟨.refl _, .refl _, .refl _, .refl _, .refl _, .refl _, .refl _, .refl _, trivial⟩) hX zD zD (fun _ => ⟨rfl, rfl, rfl, rfl⟩) (fun j q S hj hc hS => ?_) (fun q fr' S hc hS hw => ?_)
     ·obtain ⟨v15, l⟩ := q
      dsimp only at hc hS
      obtain ⟨m2, hm2⟩ : ∃ m, g_00.Kinds.length - j = m + 1 := ⟨g_00.Kinds.length - j - 1, by omega⟩
      rw [hm2] at hc
      obtain ⟨c2, hc2, hc⟩ := a2j hc
      obtain ⟨b, hb, hc2⟩ := b9 hc2
      unfold b9c at hc2
      have e3 : g_00.Kinds.length - (j + 1) = m2 := by omega
      refine aU ?_
      refine o6 rfl rfl ⟨by omega, by omega⟩ ?_
      refine v9 hS rfl (.tail _ (.tail _ (List.mem_append_right _ (.tail _ (b0X zO hrow))))) (by exact b4I hb (by simp [f7])) ?_
      refine aU ?_
      dsimp only
      cases b with
      | true =>
        rw [if_pos rfl] at hc2
        obtain ⟨l', hl', hc2⟩ := b9 hc2
        obtain ⟨hl1, rfl⟩ := a6U hl'
        cases hc2
        refine a9l rfl ?_
        refine aU ?_
        refine a7B (m := [(j : Int)]) (j := []) hS (d8 .i64) rfl rfl (by rw [List.append_nil]; exact Rp.here) hl1 (fun S hS => ?_)
        refine aU ?_
        exact R_n (v15 + 1, l ++ [(j : Int)]) (by rw [e3]; exact hc) hS (k9 ⟨.refl _, .refl _, .refl _, .refl _, .refl _, .refl _, .refl _, .refl _, trivial⟩)
      | false =>
        rw [if_neg zS] at hc2
        cases hc2
        refine a9F rfl ?_
        refine aU ?_
        exact R_n (v15, l) (by rw [e3]; exact hc) hS (k9 ⟨.refl _, .refl _, .refl _, .refl _, .refl _, .refl _, .refl _, .refl _, trivial⟩)
     ·obtain ⟨v15, l⟩ := q
      dsimp only at hc hS hw
      rw [Nat.sub_self] at hc
      replace hc : (a4E 24 (os.map (·.2.2)) [l]).bind (fun o' => some (.nxt o')) = some c := hc
      obtain ⟨o', ho', hc⟩ := b9 hc
      obtain ⟨ho1, rfl⟩ := a6U ho'
      cases hc
      rw [List.length_map] at ho1
      refine a3y hw ?_
      refine aU ?_
      refine b9J hS (m := 1) (ys := [.ref o15 v15 0 l.length none]) rfl rfl (by apply Rp.there; exact Rp.here) (by simp [f7]) rfl ho1 (fun S hS => ?_)
      refine aU ?_
      refine R_n (v13 + 1, os ++ [(o15, v15, l)]) ⟨by simp [hl], ?_⟩ ?_ (k9 ⟨.refl _, .refl _, .refl _, ?_, trivial⟩)
      ·rw [show g_00.Nodes.length - (i + 1) = m by omega]; simpa using h
      ·simp only [List.map_append, List.map_cons, List.map_nil, List.append_assoc]
       refine hS.perm ?_
       refine (List.Perm.swap _ _ _).trans (List.Perm.cons _ ?_)
       exact List.perm_middle.symm
      ·simp only [List.length_append]; exact .refl _
    ·obtain ⟨v13, os⟩ := q
     obtain ⟨hl, h⟩ := hI
     dsimp only at hl h hS hw
     rw [Nat.sub_self] at h
     replace h : some (os.map (·.2.2)) = some r := h
     cases h
     refine a3y hw ?_
     refine aU ?_
     refine j3 ?_
     refine ⟨trivial, _, rfl, ?_⟩
     have := b7X (d8 .i64) hS (os := os) (.head _) (fun x hx => .tail _ (List.mem_append_left _ (List.mem_map_of_mem hx)))
     rw [List.map_map]
     exact this
  | true =>
    rw [if_pos rfl] at hc
    refine a9l rfl ?_
    refine aU ?_
    refine j8 ?_
    refine aU ?_
    refine j8 (a0g (σ := Nat × T3) (fun i => [(1, gR g_00), (3, .ref o3 0 0 g_00.Nodes.length none), (5, .bool i.2.2.2), (6, .int .i64 i.2.1)]) (fun i => (o3, 0, a6v g_00.Kinds.length ads) :: itR ads i.2.2.1)
     (fun i => (whileN (b9b g_00) i.1 i.2).bind (oc fun q => gd (Shp g_00.Nodes.length g_00.Kinds.length q.2.1) (some (.nxt q.2))) = some c) (fun i => i.1) (fuel, (I64 ((List.length g_00.Nodes : Int) - 1), s, false)) hS hc (k9 ⟨.refl _, .refl _, .refl _, .refl _, trivial⟩) (fun i S hc hS => ?_))
    obtain ⟨m, i, s, more⟩ := i
    simp only at hc hS
    obtain ⟨m, c2, rfl, hc2, hc⟩ := a7n hc
    unfold b9b at hc2
    obtain ⟨hsh, hc2⟩ := a0z hc2
    refine aU ?_
    refine m7 rfl (fun hb => ?_) (fun hb => ?_)
    ·rw [g6 hb] at hc2
     obtain ⟨nd, hnd, hc2⟩ := b9 hc2
     obtain ⟨w, hw, hc2⟩ := b9 hc2
     refine aU ?_
     refine j8 ?_
     refine aU ?_
     refine l8 rfl rfl hnd ?_
     refine oP (i7.av nd) ?_
     refine b0M hS rfl (fun o7 S hS => ?_)
     refine E_stS hS rfl zC (by first | exact Rp.here | (repeat (first | exact Rp.here | apply Rp.there | apply Rp.skip))) rfl rfl (by first | exact Nat.le_of_ble_eq_true rfl | (simp; omega) | omega) (fun S hS => ?_)
     refine aU ?_
     replace hS : Sep S ((o7, 0, (i7.av nd).cells) :: (o3, 0, a6v g_00.Kinds.length ads) :: itR ads s) := hS
     refine v9 hS rfl zM (v := i7.av nd) rfl ?_
     refine j6 (a0h hw) rfl ⟨(.refl _), trivial⟩ (i8 ⟨(i7.enc.blw _ 0), trivial⟩) ((d8 .i64).blws 0) ?_
     refine aU ?_
     dsimp only
     obtain ⟨hK, hc2⟩ := a4e hc2
     refine a2Q g_00.Kinds.length (fun s : T4 => [(1, gR g_00), (3, .ref o3 0 0 g_00.Nodes.length none), (5, .bool s.2), (6, .int .i64 i), (7, .ptr o7 0 0), (8, .sl false 1 (List.map (avI .i64) w))]) (fun s => (o7, 0, (i7.av nd).cells) :: (o3, 0, a6v g_00.Kinds.length ads) :: itR ads s.1)
      (fun p s => (a0L (b8u g_00 i nd w) (g_00.Kinds.length - p) p s).bind (oc fun s => gd (Shp g_00.Nodes.length g_00.Kinds.length s.1) (some (.nxt (I64 (i - 1), s)))) = some c2) (s, more) hS hc2 (k9 ⟨.refl _, .refl _, .refl _, .refl _, .refl _, .refl _, .refl _, .refl _, trivial⟩) hK zD zD (fun _ => ⟨rfl, rfl, rfl, rfl⟩) (fun p s S hp hc2 hS => ?_) (fun s fr' S hc2 hS hw => ?_)
     ·obtain ⟨s, more⟩ := s
      simp only at hc2 hS
      obtain ⟨m2, hm2⟩ : ∃ m, g_00.Kinds.length - p = m + 1 := ⟨g_00.Kinds.length - p - 1, by omega⟩
      rw [hm2] at hc2
      obtain ⟨c3, hc3, hc2⟩ := a2j hc2
      unfold b8u at hc3
      obtain ⟨hsh, hc3⟩ := a0z hc3
      obtain ⟨rd, hrd, hc3⟩ := b9 hc3
      obtain ⟨is0, his0, hc3⟩ := b9 hc3
      obtain ⟨nx, hnx, hc3⟩ := b9 hc3
      refine aU ?_
      refine v9 hS rfl zM (v := i7.av nd) rfl ?_
      refine j6 (a3B hrd) rfl ⟨(.refl _), trivial⟩ (i8 ⟨(i7.enc.blw _ 0), trivial⟩) ((d8 .i64).blws 0) ?_
      refine aU ?_
      refine j6 (n5 his0) rfl ⟨(.refl _), (.refl _), trivial⟩ (i8 ⟨(d8 .i64).blws 0, rfl, trivial⟩) rfl ?_
      refine aU ?_
      refine v9 hS rfl zM (v := i7.av nd) rfl ?_
      refine j6 (a0V hnx) rfl ⟨(.refl _), trivial⟩ (i8 ⟨(i7.enc.blw _ 0), trivial⟩) ((d8 .i64).blws 0) ?_
      refine aU ?_
      rw [a8z] at hc3
      obtain ⟨hX, hc3⟩ := a4e hc3
      refine a2Q nx.length (fun is : Bool => [(1, gR g_00), (3, .ref o3 0 0 g_00.Nodes.length none), (5, .bool more), (6, .int .i64 i), (7, .ptr o7 0 0), (8, .sl false 1 (List.map (avI .i64) w)), (9, .int .i64 p), (10, .bool is), (54, .int .i64 p), (53, .int .i64 g_00.Kinds.length), (62, .sl false 1 (List.map (avI .i64) nx))]) (fun _ => (o7, 0, (i7.av nd).cells) :: (o3, 0, a6v g_00.Kinds.length ads) :: itR ads s)
       (fun q is => (a0L (fun i is => nx[i]?.bind fun x => b2E s w (p : Int) i x is) (nx.length - q) q is).bind (oc fun is => if is = true then (u6 s i).bind fun r => (u6 r (p : Int)).bind fun b => (if (!b) = true then some (.nxt (s.set i.toNat (r.set p true), true)) else some (.nxt (s, more))) else some (.nxt (s, more))) = some c3) is0 hS hc3 (k9 ⟨.refl _, .refl _, .refl _, .refl _, .refl _, .refl _, .refl _, .refl _, .refl _, .refl _, .refl _, .refl _, .refl _, trivial⟩) hX zD zD (fun _ => ⟨rfl, rfl, rfl, rfl⟩) (fun q is S hq hc3 hS => ?_) (fun is fr' S hc3 hS hw => ?_)
      ·obtain ⟨m3, hm3⟩ : ∃ m, nx.length - q = m + 1 := ⟨nx.length - q - 1, by omega⟩
       rw [hm3] at hc3
       obtain ⟨c4, hc4, hc3⟩ := a2j hc3
       obtain ⟨to, hto, hc4⟩ := b9 hc4
       unfold b2E at hc4
       refine aU ?_
       refine l8 rfl rfl (a0A hto) ?_
       refine aU ?_
       have e3 : nx.length - (q + 1) = m3 := by omega
       cases is with
       | true =>
         rw [if_pos rfl] at hc4
         cases hc4
         refine aU ?_
         exact R_n true (by rw [e3]; exact hc3) hS (k9 ⟨.refl _, .refl _, .refl _, .refl _, .refl _, .refl _, .refl _, .refl _, .refl _, .refl _, .refl _, .refl _, .refl _, trivial⟩)
       | false =>
         rw [if_neg zS] at hc4
         obtain ⟨rw1, hrw, hc4⟩ := b9 hc4
         obtain ⟨b, hb1, hc4⟩ := b9 hc4
         obtain ⟨t0, t1, t2, t3⟩ := a1H hrw
         obtain ⟨u0, u1, u2, u3⟩ := a1H hb1
         have hN1 : s.length = g_00.Nodes.length := hsh.1
         have hK1 : rw1.length = g_00.Kinds.length := hsh.2 _ (List.mem_of_getElem? t3)
         refine aU ?_
         refine o6 rfl rfl ⟨by omega, by omega⟩ ?_
         refine aU ?_
         refine v9 hS rfl (.tail _ (.head _)) (by exact a6w (show to.toNat < ads.length by omega)) ?_
         refine aU ?_
         refine o6 rfl rfl ⟨by omega, by omega⟩ ?_
         refine aU ?_
         refine v9 hS rfl (.tail _ (.tail _ (b0X zO t3))) (by exact b4I u3 (by simp [f7])) ?_
         refine aU ?_
         cases b with
         | true =>
           rw [if_pos rfl] at hc4
           obtain ⟨x, hx, hc4⟩ := b9 hc4
           cases hc4
           refine aU ?_
           refine j6 (n5 hx) rfl ⟨(.refl _), (.refl _), trivial⟩ (i8 ⟨(d8 .i64).blws 0, rfl, trivial⟩) rfl ?_
           refine aU ?_
           exact R_n (!x) (by rw [e3]; exact hc3) hS (k9 ⟨.refl _, .refl _, .refl _, .refl _, .refl _, .refl _, .refl _, .refl _, .refl _, .refl _, .refl _, .refl _, .refl _, trivial⟩)
         | false =>
           rw [if_neg zS] at hc4
           cases hc4
           refine aU ?_
           exact R_n false (by rw [e3]; exact hc3) hS (k9 ⟨.refl _, .refl _, .refl _, .refl _, .refl _, .refl _, .refl _, .refl _, .refl _, .refl _, .refl _, .refl _, .refl _, trivial⟩)
      ·rw [Nat.sub_self] at hc3
       replace hc3 : (if is = true then (u6 s i).bind fun r => (u6 r (p : Int)).bind fun b => (if (!b) = true then some (.nxt (s.set i.toNat (r.set p true), true)) else some (.nxt (s, more))) else some (.nxt (s, more))) = some c3 := hc3
       refine a3y hw ?_
       have e3 : g_00.Kinds.length - (p + 1) = m2 := by omega
       refine aU ?_
       cases is with
       | false =>
         rw [if_neg zS] at hc3
         cases hc3
         refine aU ?_
         refine a9F rfl ?_
         refine aU ?_
         exact R_n (s, more) (by rw [e3]; exact hc2) hS (k9 ⟨.refl _, .refl _, .refl _, .refl _, .refl _, .refl _, .refl _, .refl _, trivial⟩)
       | true =>
         rw [if_pos rfl] at hc3
         obtain ⟨rw1, hrw, hc3⟩ := b9 hc3
         obtain ⟨b, hb1, hc3⟩ := b9 hc3
         obtain ⟨t0, t1, t2, t3⟩ := a1H hrw
         obtain ⟨u0, u1, u2, u3⟩ := a1H hb1
         have hN1 : s.length = g_00.Nodes.length := hsh.1
         have hK1 : rw1.length = g_00.Kinds.length := hsh.2 _ (List.mem_of_getElem? t3)
         refine aU ?_
         refine o6 rfl rfl ⟨by omega, by omega⟩ ?_
         refine aU ?_
         refine v9 hS rfl (.tail _ (.head _)) (by exact a6w (show i.toNat < ads.length by omega)) ?_
         refine aU ?_
         refine o6 rfl rfl ⟨by omega, by omega⟩ ?_
         refine aU ?_
         refine v9 hS rfl (.tail _ (.tail _ (b0X zO t3))) (by exact b4I u3 (by simp [f7])) ?_
         refine aU ?_
         cases b with
         | true =>
           rw [if_neg zS] at hc3
           cases hc3
           refine a9F rfl ?_
           refine aU ?_
           exact R_n (s, more) (by rw [e3]; exact hc2) hS (k9 ⟨.refl _, .refl _, .refl _, .refl _, .refl _, .refl _, .refl _, .refl _, trivial⟩)
         | false =>
           rw [if_pos (by rfl)] at hc3
           cases hc3
           refine a9l rfl ?_
           refine aU ?_
           refine o6 rfl rfl ⟨by omega, by omega⟩ ?_
           refine aU ?_
           refine v9 hS rfl (.tail _ (.head _)) (by exact a6w (show i.toNat < ads.length by omega)) ?_
           refine aU ?_
           refine o6 rfl rfl ⟨by omega, by omega⟩ ?_
           have hrp : Rp (itR ads s) (ads[i.toNat]'zO, 0, flat avB rw1) (ads[i.toNat]'zO, 0, splice (flat avB rw1) (0 + (p : Int).toNat * f7 none) (AV.bool true).cells) (itR ads (s.set i.toNat (rw1.set p true))) := by
            rw [b8z (p := p) zO (by simp [f7])]; exact c1k zO t3
           refine E_stS hS rfl zC (by exact .there (.there hrp)) rfl rfl (by rw [a8C.length]; simp [f7]; omega) (fun S hS => ?_)
           refine aU ?_
           exact R_n (s.set i.toNat (rw1.set p true), true) (by rw [e3]; exact hc2) hS (k9 ⟨.refl _, .refl _, .refl _, .refl _, .refl _, .refl _, .refl _, .refl _, trivial⟩)
     ·rw [Nat.sub_self] at hc2
      replace hc2 : gd (Shp g_00.Nodes.length g_00.Kinds.length s.1) (some (.nxt (I64 (i - 1), s))) = some c2 := hc2
      obtain ⟨hsh, hc2⟩ := a0z hc2
      cases hc2
      refine l7 ?_
      refine a3y hw ?_
      refine aU ?_
      exact ⟨(m, I64 (i - 1), s), hc, Nat.lt_succ_self _, hS.sub (List.sublist_cons_self _ _), k9 ⟨.refl _, .refl _, .refl _, .refl _, trivial⟩⟩
    ·rw [g7 hb] at hc2
     cases hc2
     refine y6 ?_
     (repeat (first | refine s4 ?_ | refine s6 ?_ | refine s9 rfl ?_ | refine j7 ?_ | refine m9 ?_ | refine l7 ?_))
     replace hc : gd (Shp g_00.Nodes.length g_00.Kinds.length s) (some (.nxt (s, more))) = some c := hc
     obtain ⟨hsh, hc⟩ := a0z hc
     cases hc
     exact ⟨(n, s, more), h, Nat.lt_succ_self _, hS, k9 ⟨.refl _, .refl _, .refl _, trivial⟩⟩
end Go.Proofs.YtepdcebjobjjgaaDoor

