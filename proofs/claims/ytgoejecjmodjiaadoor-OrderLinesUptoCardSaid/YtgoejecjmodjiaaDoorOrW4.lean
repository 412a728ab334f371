/- The intervals, place by place. -/
import Derived.Test.YtgoejecjmodjiaaDoorOrW3
import Derived.Test.YtgoejecjmodjiaaDoorGenOB
import Derived.Test.YtgoejecjmodjiaaDoorOrW1
import Derived.Test.YtgoejecjmodjiaaDoorWlTz
import Derived.Test.YtgoejecjmodjiaaDoorLvW
set_option linter.unusedVariables false
set_option linter.unusedSimpArgs false
namespace Go.Proofs.YtgoejecjmodjiaaDoor
open Go Go.Ab
theorem b1c (a : Int) (x : b7) : wk1 a (wk1 a x) = wk1 a x := by
 unfold wk1
 simp only [b7.mk.injEq, true_and, and_true]
 constructor
 ·by_cases h : a < x.From
  ·rw [if_pos h, if_neg zO]
  ·rw [if_neg h, if_neg h]
 ·by_cases h : a > x.To
  ·rw [if_pos h, if_neg zO]
  ·rw [if_neg h, if_neg h]
theorem a8A (a : Int) (k : Nat) : ∀ (ps : List Int) (all : List b7), (∀ p ∈ ps, 0 ≤ p) → (ps.foldl (wkP a) all)[k]? = (all[k]?).map fun x => if (k : Int) ∈ ps then wk1 a x else x
 | [], all, _ => by simp
 | p :: ps, all, h => by
   rw [List.foldl_cons, a8A a k ps _ (fun q hq => h q (by simp [hq]))]
   unfold wkP
   rw [List.getElem?_modify]
   have hp := h p zS
   cases e : all[k]? with
   | none => simp
   | some x =>
     simp only [Option.map_some, Option.map_eq_map]
     congr 1
     by_cases e1 : p.toNat = k
     ·have e2 : (k : Int) = p := by omega
      rw [if_pos e1]
      simp only [e2, List.mem_cons, true_or, if_true]
      split
      ·exact b1c a x
      ·rfl
     ·have e2 : ¬ (k : Int) = p := by omega
      rw [if_neg e1]
      simp only [List.mem_cons, e2, false_or]
theorem b1d (w : List Int) (k : Nat) : ∀ (ps : List Int) (all : List b7), (∀ p ∈ ps, 0 ≤ p) → (ps.foldl (b0Y w) all)[k]? = (all[k]?).map fun x => if (k : Int) ∈ ps ∧ (k : Int) ∉ w then a8v x else x
 | [], all, _ => by simp
 | p :: ps, all, h => by
   rw [List.foldl_cons, b1d w k ps _ (fun q hq => h q (by simp [hq]))]
   have hp := h p zS
   unfold b0Y
   by_cases hw : p ∈ w
   ·rw [if_pos hw]
    cases e : all[k]? with
    | none => simp
    | some x =>
      simp only [Option.map_some]
      congr 1
      by_cases e2 : (k : Int) = p
      ·rw [if_neg (by rw [e2]; exact fun h => h.2 hw), if_neg (by rw [e2]; exact fun h => h.2 hw)]
      ·simp only [List.mem_cons, e2, false_or]
   ·rw [if_neg hw, List.getElem?_modify]
    cases e : all[k]? with
    | none => simp
    | some x =>
      simp only [Option.map_some, Option.map_eq_map]
      congr 1
      by_cases e1 : p.toNat = k
      ·have e2 : (k : Int) = p := by omega
       rw [if_pos e1]
       simp only [e2, List.mem_cons, true_or, true_and, hw, not_false_eq_true, if_true]
       split
       ·rfl
       ·rfl
      ·have e2 : ¬ (k : Int) = p := by omega
       rw [if_neg e1]
       simp only [List.mem_cons, e2, false_or]
def a8B (g : b5) (k i : Nat) : Prop := (k : Int) ∈ lvI g i ∨ (k : Int) ∈ wrN g i
def b5l (g : b5) (k i : Nat) : Prop := a2p g i = true ∧ (k : Int) ∈ bhI g i ∧ (k : Int) ∉ wrN g i
open Classical in
noncomputable def elS (g : b5) (k a i : Nat) (x : b7) : b7 := if b5l g k i then a8v (if a8B g k i then wk1 a x else x) else if a8B g k i then wk1 a x else x
theorem b7t (g : b5) (i : Nat) : ∀ p ∈ wrN g i, 0 ≤ p := by
 intro p hp
 unfold wrN at hp
 split at hp
 ·exact ((b0g _ p).1 hp).2
 ·cases hp
theorem b3Q (g : b5) (a i k : Nat) (all : List b7) : (a8x g a all i)[k]? = (all[k]?).map (elS g k a i) := by
 unfold a8x
 simp only
 have e2 : ((wrN g i).foldl (wkP (a : Int)) ((lvI g i).foldl (wkP a) all))[k]? = (all[k]?).map fun x => if (k : Int) ∈ lvI g i ∨ (k : Int) ∈ wrN g i then wk1 a x else x := by
  rw [a8A _ _ _ _ (b7t g i), a8A _ _ _ _ (show ∀ p ∈ lvI g i, 0 ≤ p from fun p hp => (a6k p hp).1)]
  cases all[k]? with
  | none => rfl
  | some x =>
    simp only [Option.map_some]
    congr 1
    by_cases h1 : (k : Int) ∈ wrN g i <;> by_cases h2 : (k : Int) ∈ lvI g i <;> simp [h1, h2, b1c]
 by_cases hc : a2p g i = true
 ·rw [if_pos hc, b1d _ _ _ _ (show ∀ p ∈ bhI g i, 0 ≤ p from fun p hp => (a6k p hp).1), e2]
  cases all[k]? with
  | none => rfl
  | some x =>
    simp only [Option.map_some, elS, b5l, a8B, hc, true_and]
    by_cases h1 : (k : Int) ∈ lvI g i ∨ (k : Int) ∈ wrN g i <;> by_cases h2 : (k : Int) ∈ bhI g i ∧ (k : Int) ∉ wrN g i <;> simp [h1, h2]
 ·rw [if_neg hc, e2]
  cases all[k]? with
  | none => rfl
  | some x =>
    simp only [Option.map_some, elS, b5l, a8B, hc, false_and, if_false]
    by_cases h1 : (k : Int) ∈ lvI g i ∨ (k : Int) ∈ wrN g i <;> simp [h1]
structure EI (g : b5) (w : List Nat) (k n : Nat) (x : b7) : Prop where
 pl : x.Place = (k : Int)
 all : ∀ a i, (w[a]? = some i ∧ a < n ∧ a8B g k i) ∨ (a = 0 ∧ (k : Int) ∈ g.Params) → x.From ≤ a ∧ (a : Int) ≤ x.To
 ends : (x.From = (g.Nodes.length : Int) ∧ x.To = -1) ∨ ((∃ a i : Nat, x.From = (a : Int) ∧ ((w[a]? = some i ∧ a < n ∧ a8B g k i) ∨ (a = 0 ∧ (k : Int) ∈ g.Params))) ∧ ∃ a i : Nat, x.To = (a : Int) ∧ ((w[a]? = some i ∧ a < n ∧ a8B g k i) ∨ (a = 0 ∧ (k : Int) ∈ g.Params)))
 held : x.Held = true ↔ ∃ a i, w[a]? = some i ∧ a < n ∧ b5l g k i
theorem EI.step {g : b5} {w : List Nat} {k n i : Nat} {x : b7} (hn : w[n]? = some i) (hnN : n < g.Nodes.length) (h : EI g w k n x) : EI g w k (n + 1) (elS g k n i x) := by
 have hT : ∀ y : b7, (a8v y).Place = y.Place ∧ (a8v y).From = y.From ∧ (a8v y).To = y.To := fun y => ⟨rfl, rfl, rfl⟩
 have hcase : ∀ (b : Prop) [Decidable b], (b ↔ a8B g k i) → ∀ y, y = (if b then wk1 (n : Int) x else x) →
   y.Place = (k : Int) ∧ (∀ a j, (w[a]? = some j ∧ a < n + 1 ∧ a8B g k j) ∨ (a = 0 ∧ (k : Int) ∈ g.Params) → y.From ≤ a ∧ (a : Int) ≤ y.To) ∧
   ((y.From = (g.Nodes.length : Int) ∧ y.To = -1) ∨ ((∃ a i : Nat, y.From = (a : Int) ∧ ((w[a]? = some i ∧ a < n + 1 ∧ a8B g k i) ∨ (a = 0 ∧ (k : Int) ∈ g.Params))) ∧ ∃ a i : Nat, y.To = (a : Int) ∧ ((w[a]? = some i ∧ a < n + 1 ∧ a8B g k i) ∨ (a = 0 ∧ (k : Int) ∈ g.Params)))) ∧ y.Held = x.Held := by
  intro b _ hb y hy
  have wid : ∀ a j, ((w[a]? = some j ∧ a < n ∧ a8B g k j) ∨ (a = 0 ∧ (k : Int) ∈ g.Params)) → ((w[a]? = some j ∧ a < n + 1 ∧ a8B g k j) ∨ (a = 0 ∧ (k : Int) ∈ g.Params)) := fun a j hh => hh.imp (fun ⟨p, q, r⟩ => ⟨p, by omega, r⟩) id
  by_cases hbb : b
  ·rw [if_pos hbb] at hy
   subst hy
   have ht := hb.1 hbb
   have hf : (wk1 (n : Int) x).From = if (n : Int) < x.From then (n : Int) else x.From := rfl
   have hto : (wk1 (n : Int) x).To = if (n : Int) > x.To then (n : Int) else x.To := rfl
   refine ⟨h.pl, fun a j hh => ?_, .inr ⟨?_, ?_⟩, rfl⟩
   ·have key : (x.From ≤ a ∧ (a : Int) ≤ x.To) ∨ a = n := by
     rcases hh with ⟨p, q, r⟩ | hh
     ·by_cases e : a = n
      ·exact .inr e
      ·exact .inl (h.all a j (.inl ⟨p, by omega, r⟩))
     ·exact .inl (h.all a j (.inr hh))
    rw [hf, hto]
    rcases key with ⟨p, q⟩ | rfl
    ·constructor <;> split <;> omega
    ·constructor <;> split <;> omega
   ·by_cases e : (n : Int) < x.From
    ·exact ⟨n, i, by rw [hf, if_pos e], .inl ⟨hn, by omega, ht⟩⟩
    ·rcases h.ends with ⟨p, q⟩ | ⟨⟨a, j, p, q⟩, _⟩
     ·omega
     ·exact ⟨a, j, by rw [hf, if_neg e, p], wid a j q⟩
   ·by_cases e : (n : Int) > x.To
    ·exact ⟨n, i, by rw [hto, if_pos e], .inl ⟨hn, by omega, ht⟩⟩
    ·rcases h.ends with ⟨p, q⟩ | ⟨_, ⟨a, j, p, q⟩⟩
     ·omega
     ·exact ⟨a, j, by rw [hto, if_neg e, p], wid a j q⟩
  ·rw [if_neg hbb] at hy
   subst hy
   have ht : ¬ a8B g k i := fun hh => hbb (hb.2 hh)
   refine ⟨h.pl, fun a j hh => ?_, ?_, rfl⟩
   ·rcases hh with ⟨p, q, r⟩ | hh
    ·by_cases e : a = n
     ·subst e; rw [hn] at p; cases p; exact absurd r ht
     ·exact h.all a j (.inl ⟨p, by omega, r⟩)
    ·exact h.all a j (.inr hh)
   ·rcases h.ends with hh | ⟨⟨a, j, p, q⟩, ⟨b, l, r, s⟩⟩
    ·exact .inl hh
    ·exact .inr ⟨⟨a, j, p, wid a j q⟩, ⟨b, l, r, wid b l s⟩⟩
 unfold elS
 obtain ⟨q1, q2, q3, q4⟩ := @hcase (a8B g k i) (Classical.propDecidable _) Iff.rfl _ rfl
 split
 ·rename_i hh
  refine ⟨q1, q2, q3, ?_⟩
  constructor
  ·intro _; exact ⟨n, i, hn, by omega, hh⟩
  ·intro _; rfl
 ·rename_i hh
  refine ⟨q1, q2, q3, ?_⟩
  rw [q4, h.held]
  constructor
  ·rintro ⟨a, j, p, q, r⟩; exact ⟨a, j, p, by omega, r⟩
  ·rintro ⟨a, j, p, q, r⟩
   by_cases e : a = n
   ·subst e; rw [hn] at p; cases p; exact absurd r hh
   ·exact ⟨a, j, p, by omega, r⟩
theorem a9x {g : b5} {w : List Nat} {k : Nat} (hw : w.length ≤ g.Nodes.length) : ∀ (m n : Nat) (all : List b7) (x : b7), w.length - n = m → n ≤ w.length → all[k]? = some x → EI g w k n x → ∃ y, (a4v g n (w.drop n) all)[k]? = some y ∧ EI g w k w.length y
 | 0, n, all, x, hm, hn, hx, h => by
   have : n = w.length := by omega
   subst this
   rw [List.drop_length]
   exact ⟨x, hx, h⟩
 | m + 1, n, all, x, hm, hn, hx, h => by
   have hlt : n < w.length := by omega
   obtain ⟨i, hi⟩ : ∃ i, w[n]? = some i := ⟨w[n], List.getElem?_eq_getElem hlt⟩
   rw [a2T hi]
   simp only [a4v]
   exact a9x hw m (n + 1) _ _ zO hlt (by rw [b3Q, hx]; rfl) (h.step hi zO)
theorem b7u {g : b5} (hg : a1E g) (hp : a7n g) {w : List Nat} (hw1 : a0Z g = w.map (fun (n : Nat) => (n : Int))) (hwl : w.length ≤ g.Nodes.length) {k : Nat} (hk : k < g.Kinds.length) : ∃ x, (b0h g)[k]? = some x ∧ EI g w k w.length x := by
 unfold b0h
 have hmapN : (a0Z g).map Int.toNat = w := by rw [hw1, List.map_map]; exact (List.map_congr_left (fun x _ => by simp)).trans (List.map_id w)
 rw [hmapN]
 have h0 : (a5Y g)[k]? = some ⟨(k : Int), (g.Nodes.length : Int), -1, false⟩ := by simp [a5Y, hk]
 have h1 := a8A 0 k g.Params (a5Y g) (fun p hp' => (hp p hp').1)
 rw [h0] at h1
 simp only [Option.map_some] at h1
 have hn0 := hg.n0
 refine a9x hwl _ 0 _ _ rfl (Nat.zero_le _) h1 ?_
 by_cases e : (k : Int) ∈ g.Params
 ·rw [if_pos e]
  have hf : (wk1 0 ⟨(k : Int), (g.Nodes.length : Int), -1, false⟩ : b7).From = 0 := by show (if (0 : Int) < _ then (0 : Int) else _) = 0; rw [if_pos zE]
  have ht : (wk1 0 ⟨(k : Int), (g.Nodes.length : Int), -1, false⟩ : b7).To = 0 := rfl
  refine ⟨rfl, fun a j hh => ?_, .inr ⟨⟨0, 0, by rw [hf]; rfl, .inr ⟨rfl, e⟩⟩, ⟨0, 0, by rw [ht]; rfl, .inr ⟨rfl, e⟩⟩⟩, ?_⟩
  ·rcases hh with ⟨_, q, _⟩ | ⟨rfl, _⟩
   ·omega
   ·rw [hf, ht]; omega
  ·constructor
   ·intro h; cases h
   ·rintro ⟨a, j, _, q, _⟩; omega
 ·rw [if_neg e]
  refine ⟨rfl, fun a j hh => ?_, .inl ⟨rfl, rfl⟩, ?_⟩
  ·rcases hh with ⟨_, q, _⟩ | ⟨_, q⟩
   ·omega
   ·exact absurd q e
  ·constructor
   ·intro h; cases h
   ·rintro ⟨a, j, _, q, _⟩; omega
theorem a7M (g : b5) : ∀ (l : List Nat) (a : Nat) (all : List b7), (a4v g a l all).length = all.length
 | [], _, _ => rfl
 | i :: l, a, all => by simp only [a4v]; rw [a7M g l, b3I]
theorem a8C (g : b5) : (b0h g).length = g.Kinds.length := by
 unfold b0h
 rw [a7M, a3p]; simp [a5Y]
end Go.Proofs.YtgoejecjmodjiaaDoor

/- OrderMeets: the law. -/
namespace Go.Proofs.YtgoejecjmodjiaaDoor
open Go Go.Ab
set_option maxRecDepth 20000
theorem b1e {σ β : Type} {body : Nat → σ → Option (Stp σ (Option β))} {n : Int} {s0 : σ} {F : σ → Option β} {r : Option β} (Inv : Nat → σ → Prop) (hl : n ≤ 4611686018427387904) (h0 : Inv 0 s0)
  (h : ∀ (i : Nat) s, (i : Int) < n → Inv i s → ∃ s', body i s = some (.nxt s') ∧ Inv (i + 1) s') (hF : ∀ s, Inv n.toNat s → F s = r) : (rni body n s0).bind (oc F) = r := by
 obtain ⟨o, e, s, rfl, hs⟩ := b2M (Q := fun o => ∃ s, o = .fin s ∧ Inv n.toNat s) Inv hl h0 (fun i s hx hI => .inl (h i s hx hI)) (fun s hs => ⟨s, rfl, hs⟩)
 rw [e]
 exact hF s hs
theorem b5m (G : g9) (f : Int) : a0t 100000000000 G f = some (if a1P G = true then (match s6 G.Funcs f with | some g => ((a3Y g, 0) : List b7 × Int) | none => ([], 2)) else ([], 70)) := by
 unfold a0t
 rw [if_pos (Nat.le_refl _)]
 split
 ·cases s6 G.Funcs f <;> rfl
 ·rfl
theorem b1I {G : g9} (hR : a1P G = true) {f : Int} {g : b5} (hgf : s6 G.Funcs f = some g) : a1E g ∧ a7n g ∧ 0 ≤ g.Entry ∧ g.Entry < g.Nodes.length ∧ (∀ n ∈ g.Nodes, a2H G.Funcs g n = true) ∧ g.Params.length ≤ 4 := by
 obtain ⟨h0, h1, h2⟩ := j9 hgf
 obtain ⟨hg, hhd, hnd⟩ := a3o hR g (List.mem_of_getElem? h2)
 obtain ⟨_, h4, hpar, _, _, he0, heN⟩ := a0k hhd
 exact ⟨hg, hpar, he0, heN, hnd, h4⟩
end Go.Proofs.YtgoejecjmodjiaaDoor

/- The document's line: the walk. -/
namespace Go.Proofs.YtgoejecjmodjiaaDoor
open Go Go.Ab
set_option maxRecDepth 20000
set_option maxHeartbeats 2000000
def c5I : FC := .reg [⟨(some 4), none, .op (.box (.t 1))⟩] []
def c5J : FC := .reg [⟨(some 8), none, .op (.mv (.t 0))⟩,  ⟨(some 9), none, .op (.nchk (.t 8))⟩,  ⟨(some 10), none, .op (.fad 0 (.t 9))⟩,  ⟨(some 11), none, .op (.load none (.t 10))⟩,  ⟨(some 12), none, .op (.mv (.t 2))⟩,  ⟨(some 13), none, .op (.iad none none (.t 11) (.t 12))⟩,  ⟨none, none, .op (.store 1 (.t 13) (.v (.bool true)))⟩] []
def c5K : FC := .reg [⟨(some 14), none, .op (.fad 6 (.t 4))⟩,  ⟨(some 15), none, .op (.load none (.t 14))⟩,  ⟨(some 16), none, .op (.mv (.t 2))⟩,  ⟨(some 17), none, .op (.iad none (some 12) (.t 15) (.t 16))⟩,  ⟨(some 18), none, .op (.load (some 12) (.t 17))⟩,  ⟨(some 19), none, .call 23 [(.t 18)]⟩,  ⟨(some 20), none, .op (.len .sl (.t 19))⟩,  ⟨(some 21), none, .op (.mv (.v (.int .i64 0)))⟩] []
def c5L : FC := .reg [⟨(some 23), none, .op (.iad none none (.t 19) (.t 21))⟩,  ⟨(some 24), none, .op (.load none (.t 23))⟩,  ⟨(some 7), none, .op (.mv (.t 24))⟩] []
def c5M : FC := .reg [⟨(some 25), none, .op (.mv (.t 0))⟩,  ⟨(some 26), none, .op (.nchk (.t 25))⟩,  ⟨(some 27), none, .op (.fad 0 (.t 26))⟩,  ⟨(some 28), none, .op (.load none (.t 27))⟩,  ⟨(some 29), none, .op (.mv (.t 7))⟩,  ⟨(some 30), none, .op (.iad none none (.t 28) (.t 29))⟩,  ⟨(some 31), none, .op (.load none (.t 30))⟩,  ⟨(some 32), none, .op (.un .not (.t 31))⟩] []
def c5N : FC := .reg [⟨(some 33), none, .op (.mv (.t 0))⟩,  ⟨(some 34), none, .op (.load (some 8) (.t 4))⟩,  ⟨(some 35), none, .op (.mv (.t 7))⟩,  ⟨(some 36), none, .call 52 [(.t 33), (.t 34), (.t 35)]⟩] []
def c5O : FC := .cond (.t 32) c5N FC.skip
def c5P : FC := .seq c5M c5O
def c5Q : FC := .seq c5L c5P
def c2R : FC := .loop (.seq (.reg [⟨(some 22), none, .op (.bin .none .lss (.t 21) (.t 20))⟩] []) (.seq (.cond (.t 22) .skip (.exit 0)) (.seq (.block 1 c5Q) (.reg [⟨(some 37), none, .op (.bin .none .add (.t 21) (.v (.int .i64 1)))⟩,  ⟨(some 21), none, .op (.mv (.t 37))⟩] []))))
def c2S : FC := .block 0 c2R
def c2T : FC := .seq c5K c2S
def c2U : FC := .reg [⟨(some 38), none, .op (.mv (.t 0))⟩,  ⟨(some 39), none, .op (.mv (.t 0))⟩,  ⟨(some 40), none, .op (.nchk (.t 39))⟩,  ⟨(some 41), none, .op (.fad 1 (.t 40))⟩,  ⟨(some 42), none, .op (.load none (.t 41))⟩,  ⟨(some 43), none, .op (.mv (.t 2))⟩,  ⟨(some 44), none, .op (.bsl none [(.int .i64 0)] 1 [(0, 1, (.t 43))])⟩,  ⟨(some 45), none, .op (.app none 8 (.t 42) (.t 44))⟩,  ⟨(some 46), none, .op (.nchk (.t 38))⟩,  ⟨(some 47), none, .op (.fad 1 (.t 46))⟩,  ⟨none, none, .op (.store 1 (.t 47) (.t 45))⟩] []
def c2V : FC := .seq c2T c2U
def c2W : FC := .seq c5J c2V
def c2X : FC := .seq c5I c2W
def c8u : FC := c2X
theorem c8v : Fn3 Tryd.prog 52 48 [] c8u := ⟨_, _, Tryd.func52, rfl, rfl, rfl, by kernel_rfl⟩
def c5R : FC := .reg [⟨(some 1), none, .op (.box (.t 0))⟩,  ⟨(some 2), none, .op (.mv (.v .nils))⟩] []
def c5S : FC := .reg [⟨(some 6), none, .op (.fad 6 (.t 1))⟩,  ⟨(some 7), none, .op (.load none (.t 6))⟩,  ⟨(some 8), none, .op (.len .sl (.t 7))⟩,  ⟨(some 9), none, .op (.mksl none 1 [(.bool false)] (.t 8) (.t 8))⟩,  ⟨(some 10), none, .op (.build [.nils, .nils] [(0, 1, (.t 9))])⟩,  ⟨(some 11), none, .op (.box (.t 10))⟩,  ⟨(some 3), none, .op (.mv (.t 11))⟩] []
def c5T : FC := .reg [⟨(some 12), none, .op (.mv (.t 3))⟩,  ⟨(some 13), none, .op (.load (some 8) (.t 1))⟩,  ⟨(some 14), none, .op (.fad 7 (.t 1))⟩,  ⟨(some 15), none, .op (.load none (.t 14))⟩,  ⟨(some 16), none, .call 52 [(.t 12), (.t 13), (.t 15)]⟩] []
def c5U : FC := .reg [⟨(some 4), none, .op (.mv (.v .nils))⟩] []
def c5V : FC := .reg [⟨(some 17), none, .op (.mv (.t 3))⟩,  ⟨(some 18), none, .op (.nchk (.t 17))⟩,  ⟨(some 19), none, .op (.fad 1 (.t 18))⟩,  ⟨(some 20), none, .op (.load none (.t 19))⟩,  ⟨(some 21), none, .op (.len .sl (.t 20))⟩,  ⟨(some 22), none, .op (.bin .none .sub (.t 21) (.v (.int .i64 1)))⟩,  ⟨(some 5), none, .op (.mv (.t 22))⟩] []
def c5W : FC := .reg [⟨(some 23), none, .op (.mv (.t 5))⟩,  ⟨(some 24), none, .op (.bin .none .geq (.t 23) (.v (.int .i64 0)))⟩] []
def c5X : FC := .cond (.t 24) FC.skip (FC.exit 0)
def c5Y : FC := .seq c5W c5X
def c5Z : FC := .reg [⟨(some 27), none, .op (.mv (.t 4))⟩,  ⟨(some 28), none, .op (.mv (.t 3))⟩,  ⟨(some 29), none, .op (.nchk (.t 28))⟩,  ⟨(some 30), none, .op (.fad 1 (.t 29))⟩,  ⟨(some 31), none, .op (.load none (.t 30))⟩,  ⟨(some 32), none, .op (.mv (.t 5))⟩,  ⟨(some 33), none, .op (.iad none none (.t 31) (.t 32))⟩,  ⟨(some 34), none, .op (.load none (.t 33))⟩,  ⟨(some 35), none, .op (.bsl none [(.int .i64 0)] 1 [(0, 1, (.t 34))])⟩,  ⟨(some 36), none, .op (.app none 8 (.t 27) (.t 35))⟩,  ⟨(some 4), none, .op (.mv (.t 36))⟩] []
def c2Y : FC := .block 1 c5Z
def c2Z : FC := .reg [⟨(some 25), none, .op (.mv (.t 5))⟩,  ⟨(some 26), none, .op (.bin .none .sub (.t 25) (.v (.int .i64 1)))⟩,  ⟨(some 5), none, .op (.mv (.t 26))⟩] []
def c3a : FC := .seq c2Y c2Z
def c3b : FC := .seq c5Y c3a
def c3c : FC := .loop c3b
def c3d : FC := .block 0 c3c
def c3e : FC := .seq c5V c3d
def c3f : FC := .reg [⟨(some 37), none, .op (.mv (.t 4))⟩,  ⟨(some 2), none, .op (.mv (.t 37))⟩] []
def c3g : FC := .seq c3f FC.ret
def c3h : FC := .seq c3e c3g
def c3i : FC := .seq c5U c3h
def c3j : FC := .seq c5T c3i
def c3k : FC := .seq c5S c3j
def c3l : FC := .seq c5R c3k
def c8w : FC := c3l
theorem c8x : Fn3 Tryd.prog 27 38 [(2, none)] c8w := ⟨_, _, Tryd.func27, rfl, rfl, rfl, by kernel_rfl⟩

theorem b1f {v : Nat → St → St} (hv : ∀ t s, s.1.getD t true = false → (v t s).2.length + uns (v t s).1 = s.2.length + uns s.1) : ∀ (ts : List Nat) (s : St), (ts.foldl (a0N v) s).2.length + uns (ts.foldl (a0N v) s).1 = s.2.length + uns s.1
 | [], s => rfl
 | t :: ts, s => by
   rw [List.foldl_cons, b1f hv ts]
   unfold a0N
   split
   ·rfl
   ·rename_i h; exact hv t s (by simpa using h)
theorem b0l (g : b5) : ∀ (k n : Nat) (s : St), s.1.getD n true = false → (vis g k n s).2.length + uns (vis g k n s).1 = s.2.length + uns s.1
 | 0, n, s, h => rfl
 | k + 1, n, s, h => by
   have h1 := a2I h
   have h2 := b1f (fun t s e => b0l g k t s e) (sc g n) (s.1.set n true, s.2)
   show (((sc g n).foldl (a0N (vis g k)) (s.1.set n true, s.2)).2 ++ [(n : Int)]).length + uns ((sc g n).foldl (a0N (vis g k)) (s.1.set n true, s.2)).1 = _
   simp only at h2
   rw [List.length_append]
   simp only [List.length_cons, List.length_nil]
   omega
def WI (ow os ol vl N : Nat) (s : St) : List It := [(ow, 0, [.ref os 0 0 N none, .ref ol vl 0 s.2.length none]), (os, 0, flat avB s.1), (ol, vl, flat (avI .i64) s.2)]
theorem b1g {g : b5} (hg : a1E g) {ow os ol : Nat} : ∀ (k n : Nat) (s : St) (vl : Nat), s.1.length = g.Nodes.length → s.1.getD n true = false → uns s.1 ≤ k → s.2.length + uns s.1 ≤ 5000 →
  Tri Tryd.prog 52 [.ptr ow 0 0, b5.av g, .int .i64 (n : Int)] (WI ow os ol vl g.Nodes.length s) (fun _ L' => ∃ vl', L' = WI ow os ol vl' g.Nodes.length (vis g k n s))
 | 0, n, s, vl, hl, h, hu, _ => by have := a2I h; omega
 | k + 1, n, s, vl, hl, h, hu, hb => by
   have hu1 := a2I h
   have hn := a3W h
   have hN := hg.nn
   obtain ⟨nd, hnd⟩ : ∃ x, g.Nodes[n]? = some x := ⟨g.Nodes[n]'zO, List.getElem?_eq_getElem _⟩
   have hsn : s.1[n]? = some false := by
    rw [List.getD_eq_getElem?_getD, List.getElem?_eq_getElem hn] at h
    rw [List.getElem?_eq_getElem hn]; simpa using h
   refine a9g mixed c8v zS [] (fun R S hS => ?_)
   unfold WI at hS
   refine g5 (b8 ?_)
   refine oP (gR g) ?_
   refine aU ?_
   refine a1j hS rfl (.head _) rfl ?_
   refine aU ?_
   refine p9 rfl rfl ⟨by omega, by omega⟩ ?_
   refine a5N (l := s.1) hS a8g rfl zC (n := n) (fo := 0) (y := false) (y' := true) (by simp [j4]) hsn (by first | exact Rp.here | (repeat (first | exact Rp.here | apply Rp.there | apply Rp.skip))) rfl rfl (by simp [j4]) rfl (fun S hS => ?_)
   refine aU ?_
   refine k6 rfl rfl (a5R hnd) ?_
   refine oP (g7.av nd) ?_
   refine j3 (a0u (a6l nd)) rfl ⟨(.refl _), trivial⟩ (i6 ⟨(g7.enc.blw _ 0), trivial⟩) ((f4 .i64).blws 0) ?_
   rw [← b3A hnd, b3z hg]
   refine aU ?_
   have hsl := b5R g n
   have hrec : ∀ t s, s.1.getD t true = false → b0d s (vis g k t s) := fun t s e => a6j g k t s e
   refine a3S (sc g n).length (fun q : Nat × St => [(0, .ptr ow 0 0), (2, .int .i64 (n : Int)), (4, gR g), (19, .sl false 1 ((sc g n).map svN))]) (fun q => WI ow os ol q.1 g.Nodes.length q.2 ++ R)
    (fun i q => q.2.1.length = g.Nodes.length ∧ uns q.2.1 ≤ k ∧ q.2.2.length + uns q.2.1 ≤ 4999 ∧ ((sc g n).drop i).foldl (a0N (vis g k)) q.2 = (sc g n).foldl (a0N (vis g k)) (s.1.set n true, s.2)) (vl, s.1.set n true, s.2) hS ⟨by simp [hl], by simp only; omega, by simp only; omega, rfl⟩
    (a0f ⟨.refl _, .refl _, .refl _, .refl _, .refl _, .refl _, trivial⟩) zO zD zD (fun _ => ⟨rfl, rfl, rfl, rfl⟩) (fun i q S hi hI hS => ?_) (fun q fr' S hI hS hw => ?_)
   ·obtain ⟨vl, s⟩ := q
    obtain ⟨hl, hu, hb, hI⟩ := hI
    dsimp only at hl hu hb hI hS
    obtain ⟨t, ht⟩ : ∃ t, (sc g n)[i]? = some t := ⟨(sc g n)[i], List.getElem?_eq_getElem hi⟩
    have htN := b6T hg (List.mem_of_getElem? ht)
    obtain ⟨b, hbs⟩ : ∃ b, s.1[t]? = some b := ⟨s.1[t]'zO, List.getElem?_eq_getElem _⟩
    have hbg : s.1.getD t true = b := by rw [List.getD_eq_getElem?_getD, hbs]; rfl
    rw [a2T ht, List.foldl_cons] at hI
    unfold WI at hS
    refine aU ?_
    refine k6 rfl rfl (a5R ht) ?_
    refine oP (.int .i64 (t : Int)) ?_
    refine aU ?_
    refine a1j hS rfl (.head _) rfl ?_
    refine aU ?_
    refine p9 rfl rfl ⟨by omega, by omega⟩ ?_
    refine a6M hS a8g rfl (.tail _ (.head _)) (n := t) (fo := 0) (y := b) (v := .bool b) (by simp [j4]) hbs rfl ?_
    refine aU ?_
    cases b with
    | true =>
      refine a9z rfl ?_
      refine aU ?_
      exact R_n (vl, s) ⟨hl, hu, hb, by rw [show a0N (vis g k) s t = s by unfold a0N; rw [if_pos hbg]] at hI; exact hI⟩ hS (a0f ⟨.refl _, .refl _, .refl _, .refl _, .refl _, .refl _, trivial⟩)
    | false =>
      refine a9y rfl ?_
      refine aU ?_
      refine b8s (b1g hg (ow := ow) (os := os) (ol := ol) k t s vl hl hbg hu zO) hS rfl (Spl.cons Pk.here (Spl.cons Pk.here (Spl.cons Pk.here Spl.nil))) (fun v S L' hL hS => ?_)
      obtain ⟨vl', rfl⟩ := hL
      refine aU ?_
      have hgr := a6j g k t s hbg
      have hcn := b0l g k t s hbg
      exact R_n (vl', vis g k t s) ⟨by rw [hgr.len]; exact hl, Nat.le_trans hgr.uns hu, by simp only; omega, by rw [show a0N (vis g k) s t = vis g k t s by unfold a0N; rw [hbg, if_neg zD]] at hI; exact hI⟩ hS (a0f ⟨.refl _, .refl _, .refl _, .refl _, .refl _, .refl _, trivial⟩)
   ·obtain ⟨vl, s'⟩ := q
    obtain ⟨hl', hu', hb', hI⟩ := hI
    rw [List.drop_length] at hI
    have hI : s' = (sc g n).foldl (a0N (vis g k)) (s.1.set n true, s.2) := hI
    dsimp only at hS hb'
    unfold WI at hS
    refine a4l hw ?_
    refine aU ?_
    refine a1j hS rfl (.head _) rfl ?_
    refine aU ?_
    refine b2S (l := s'.2) (m := [(n : Int)]) (j := []) hS (f4 .i64) rfl rfl (by rw [List.append_nil]; exact .there (.there .here)) ⟨by simp; omega, by simp; omega⟩ (fun S hS => ?_)
    refine aU ?_
    refine E_stS hS rfl zC (by first | exact Rp.here | (repeat (first | exact Rp.here | apply Rp.there | apply Rp.skip))) rfl rfl (by first | exact Nat.le_of_ble_eq_true rfl | (simp; omega) | omega) (fun S hS => ?_)
    refine aU ?_
    refine ⟨trivial, _, rfl, _, ⟨vl + 1, rfl⟩, ?_⟩
    have e : vis g (k + 1) n s = (s'.1, s'.2 ++ [(n : Int)]) := by rw [hI]; rfl
    rw [e]
    exact hS
open Classical in
noncomputable def w5 (fuel : Nat) (g : b5) : Option (List Int) := if a1E g ∧ 0 ≤ g.Entry ∧ g.Entry < g.Nodes.length then some (a0Z g) else none
theorem a1Q {fuel : Nat} {g_00 : b5} {r : List Int} (h : w5 fuel g_00 = some r) : n9 Tryd.prog 27 [(b5.av g_00)] (.sl false 1 (List.map (avI .i64) r)) := by
 unfold w5 at h
 split at h
 case isFalse => cases h
 rename_i hc
 cases h
 obtain ⟨hg, he0, heN⟩ := hc
 obtain ⟨en, hen⟩ : ∃ e : Nat, g_00.Entry = (e : Int) := ⟨g_00.Entry.toNat, by omega⟩
 have hN := hg.nn
 have henN : en < g_00.Nodes.length := by omega
 have hs0 : (List.replicate g_00.Nodes.length false).getD en true = false := by simp [List.getD_eq_getElem?_getD, henN]
 have hu0 := a8t g_00.Nodes.length
 refine k8 mixed c8x zS [9, 11] 1 ?_
 have hS : Sep [] [] := Sep.nil
 refine g5 (b8 ?_)
 refine oP (gR g_00) ?_
 refine aU ?_
 refine b2Q (x := false) hS a8g rfl rfl rfl rfl zO (fun os S hS => ?_)
 simp only [Int.toNat_natCast] at hS ⊢
 refine oP (.agg [.ref os 0 0 g_00.Nodes.length none, .nils]) ?_
 refine c4f hS rfl rfl rfl (fun ow S hS => ?_)
 refine aS ?_
 refine b6 ?_
 refine c4j (o := ow) 1 none hS (fun o' => Rp.here) rfl (fun ol S hS => ?_)
 refine aU ?_
 rw [hen]
 replace hS : Sep S ((ol, 0, flat (avI .i64) []) :: (ow, 0, [.ref os 0 0 g_00.Nodes.length none, .ref ol 0 0 0 none]) :: (os, 0, flat avB (List.replicate g_00.Nodes.length false)) :: []) := hS
 refine b8s (b1g hg (ow := ow) (os := os) (ol := ol) g_00.Nodes.length en (List.replicate g_00.Nodes.length false, []) 0 zS hs0 (by simp only; omega) zE) hS rfl (Spl.cons (Pk.there Pk.here) (Spl.cons (Pk.there Pk.here) (Spl.cons Pk.here Spl.nil))) (fun v S L' hL hS => ?_)
 obtain ⟨vl, rfl⟩ := hL
 have hcn := b0l g_00 g_00.Nodes.length en (List.replicate g_00.Nodes.length false, []) hs0
 have hline : a0Z g_00 = (vis g_00 g_00.Nodes.length en (List.replicate g_00.Nodes.length false, [])).2.reverse := by unfold a0Z; rw [hen, Int.toNat_natCast]
 rw [hline]
 generalize vis g_00 g_00.Nodes.length en (List.replicate g_00.Nodes.length false, []) = q at hS hcn
 obtain ⟨sn, left⟩ := q
 simp only [List.length_nil, Nat.zero_add, hu0] at hcn
 unfold WI at hS
 refine b6 ?_
 refine g8 ?_
 refine g5 (b8 ?_)
 refine aS ?_
 refine b6 ?_
 refine b4I 4 none hS rfl (fun o4 S hS => ?_)
 refine aU ?_
 refine a1j hS rfl (.tail _ (.head _)) rfl ?_
 refine aU ?_
 dsimp only at hS ⊢
 have hwm : IntKind.i64.wrap ((left.length : Int) - 1) = (left.length : Int) - 1 := a1s zO
 refine u9 (a4E (σ := Nat × Nat) (fun s => [(3, .ptr ow 0 0), (4, .ref o4 s.2 0 (left.drop s.1).length none), (5, .int .i64 ((s.1 : Int) - 1))])
  (fun s => (o4, s.2, flat (avI .i64) (left.drop s.1).reverse) :: (ow, 0, [.ref os 0 0 g_00.Nodes.length none, .ref ol vl 0 left.length none]) :: (os, 0, flat avB sn) :: (ol, vl, flat (avI .i64) left) :: []) (fun s => s.1 ≤ left.length) (fun s => s.1) (left.length, 0) (by rw [List.drop_length]; exact hS) (Nat.le_refl _)
  (a0f ⟨.refl _, by rw [List.drop_length]; exact .refl _, by show a8a none (.int .i64 (IntKind.i64.wrap ((left.length : Int) - 1))) (.int .i64 ((left.length : Int) - 1)); rw [hwm]; exact .refl _, trivial⟩) (fun s S hI hS => ?_))
 obtain ⟨m, v4⟩ := s
 dsimp only at hI hS
 refine aU ?_
 dsimp only
 cases m with
 | zero =>
   refine a9z rfl (a2w ?_)
   (repeat (first | refine a2h ?_ | refine a3x ?_ | refine a3M rfl ?_ | refine m8 ?_ | refine z9 ?_ | refine a0y ?_))
   refine aU ?_
   refine j8 ?_
   refine ⟨trivial, _, rfl, ?_⟩
   rw [List.drop_zero] at hS
   have := a8l (k := 0) (f4 .i64) (j := []) rfl rfl (by rw [List.append_nil]; exact hS.at (.head _))
   rw [List.length_reverse] at this
   show AVw (frz 0 S (0 + 1) (.ref o4 v4 0 (left.drop 0).length none)) _
   rw [List.drop_zero, this]
   exact .refl _
 | succ m =>
   have hm : m < left.length := by omega
   obtain ⟨x, hx⟩ : ∃ x, left[m]? = some x := ⟨left[m], List.getElem?_eq_getElem hm⟩
   have e1 : ((m + 1 : Nat) : Int) - 1 = (m : Int) := by omega
   rw [e1]
   refine a9y (by simp [ev, Fr.get]) ?_
   refine aU ?_
   refine u9 ?_
   refine aU ?_
   refine a1j hS rfl (.tail _ (.head _)) rfl ?_
   refine aU ?_
   refine p9 rfl rfl ⟨by omega, by omega⟩ ?_
   refine a6M hS (f4 .i64) rfl (.tail _ (.tail _ (.tail _ (.head _)))) (n := m) (fo := 0) (y := x) (v := .int .i64 x) (by simp [j4]) hx rfl ?_
   refine aU ?_
   refine b2S (o := o4) (ver := v4) (l := (left.drop (m + 1)).reverse) (m := [x]) (j := []) hS (f4 .i64) (by simp [ev, Fr.get]) rfl (by rw [List.append_nil]; exact Rp.here) ⟨by simp; omega, by simp; omega⟩ (fun S hS => ?_)
   refine aU ?_
   refine a0y ?_
   refine aU ?_
   have e2 : (left.drop (m + 1)).reverse ++ [x] = (left.drop m).reverse := by rw [a2T hx]; simp
   rw [e2] at hS ⊢
   rw [List.length_reverse]
   refine ⟨(m, v4 + 1), by simp only; omega, Nat.lt_succ_self _, hS, a0f ⟨.refl _, .refl _, ?_, trivial⟩⟩
   have e3 : IntKind.i64.wrap ((m : Int) - 1) = (m : Int) - 1 := a1s zO
   show a8a none (.int .i64 (IntKind.i64.wrap ((m : Int) - 1))) (.int .i64 ((m : Int) - 1)); rw [e3]; exact .refl _
end Go.Proofs.YtgoejecjmodjiaaDoor

