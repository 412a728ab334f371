/- ref7.Copy: the walk. -/
import Derived.Test.YtepdcebjobjjgaaDoorScW12
import Derived.Test.YtepdcebjobjjgaaDoorWlTz
import Derived.Test.YtepdcebjobjjgaaDoorGenS
set_option linter.unusedVariables false
set_option linter.unusedSimpArgs false
namespace Go.Proofs.YtepdcebjobjjgaaDoor
open Go Go.Ab
set_option maxRecDepth 20000
set_option maxHeartbeats 2000000
def c1x (G : f7) : Prop := ∀ g ∈ G.Funcs, ∀ k ∈ g.Kinds, 0 <= k
theorem c3h (G : f7) (f : Int) : a2B 0 [f7.av G, .int .i64 f] = true := i6 ⟨(f7.enc.blw _ 0), rfl, trivial⟩
theorem c1y {G : f7} {f : Int} {g : b5} (hpos : c1x G) (hR : a1h G = true) (hg : o6 G.Funcs f = some g) :
  ∃ l : List Int, b9J g.Kinds (y7 g) l /\ Ev Tryd.prog 8 [f7.av G, .int .i64 f] (hp []) (.tup [.ref 0 0 0 l.length none, .int .i64 0]) (hp [.arr 0 (flat (avI .i64) l)]) := by
 have h := a5R G f hpos
 unfold c1w at h
 simp only [if_pos hR, hg] at h
 obtain ⟨l, x, ⟨h1, rfl⟩, _, h3⟩ := Tri.base (g5 .i64) (Q := fun l x => b9J g.Kinds (y7 g) l /\ x = .int .i64 0) (h.mono fun r L' ⟨oo, O, h1, h2, h3⟩ => ⟨oo, O, .int .i64 0, h1, rfl, h2, h3, rfl⟩)
 exact ⟨l, h1, h3⟩
open Classical in
noncomputable def b0E (G : f7) (f : Int) : List Int := if h : ∃ l : List Int, Ev Tryd.prog 8 [f7.av G, .int .i64 f] (hp []) (.tup [.ref 0 0 0 l.length none, .int .i64 0]) (hp [.arr 0 (flat (avI .i64) l)]) /\ a1h G = true /\ ∃ g, o6 G.Funcs f = some g /\ b9J g.Kinds (y7 g) l then h.choose else []
def b0A (G : f7) (f : Int) : Int := if a1h G = true then (match o6 G.Funcs f with | some _ => 0 | none => 2) else 70
def c6E (G : f7) (f : Int) (r : AV) (L' : List It) : Prop :=
 (∃ oo, r = .tup [.ref oo 0 0 (b0E G f).length none, .int .i64 (b0A G f)] /\ L' = [(oo, 0, flat (avI .i64) (b0E G f))]) \/ (r = .tup [.nils, .int .i64 (b0A G f)] /\ L' = [] /\ b0E G f = [])
theorem a9u {G : f7} {f : Int} {g : b5} (hpos : c1x G) (hR : a1h G = true) (hg : o6 G.Funcs f = some g) : b9J g.Kinds (y7 g) (b0E G f) /\ Ev Tryd.prog 8 [f7.av G, .int .i64 f] (hp []) (.tup [.ref 0 0 0 (b0E G f).length none, .int .i64 0]) (hp [.arr 0 (flat (avI .i64) (b0E G f))]) := by
 obtain ⟨l, h1, h2⟩ := c1y hpos hR hg
 have hex : ∃ l : List Int, Ev Tryd.prog 8 [f7.av G, .int .i64 f] (hp []) (.tup [.ref 0 0 0 l.length none, .int .i64 0]) (hp [.arr 0 (flat (avI .i64) l)]) /\ a1h G = true /\ ∃ g, o6 G.Funcs f = some g /\ b9J g.Kinds (y7 g) l := ⟨l, h2, hR, g, hg, h1⟩
 have e : b0E G f = hex.choose := by unfold b0E; rw [dif_pos hex]
 obtain ⟨k1, _, g', k2, k3⟩ := hex.choose_spec
 rw [e]
 rw [hg] at k2; cases k2
 exact ⟨k3, k1⟩
theorem b9n {G : f7} (f : Int) (hpos : c1x G) : Tri Tryd.prog 8 [f7.av G, .int .i64 f] [] (c6E G f) := by
 by_cases hR : a1h G = true
 ·cases hg : o6 G.Funcs f with
  | some g =>
    have h := (a9u hpos hR hg).2.tri1 (g5 .i64) (c3h G f) rfl
    refine h.mono fun r L' ⟨oo, h1, h2⟩ => .inl ⟨oo, ?_, h2⟩
    rw [h1]; unfold b0A; rw [if_pos hR, hg]
  | none =>
    have h := a5R G f hpos
    unfold c1w at h
    simp only [if_pos hR, hg] at h
    refine h.mono fun r L' ⟨h1, h2⟩ => .inr ⟨?_, h2, ?_⟩
    ·rw [h1]; unfold b0A; rw [if_pos hR, hg]
    ·unfold b0E; rw [dif_neg]; rintro ⟨l, _, _, g, h, _⟩; rw [hg] at h; cases h
 ·have h := a5R G f hpos
  unfold c1w at h
  simp only [if_neg hR] at h
  refine h.mono fun r L' ⟨h1, h2⟩ => .inr ⟨?_, h2, ?_⟩
  ·rw [h1]; unfold b0A; rw [if_neg hR]
  ·unfold b0E; rw [dif_neg]; rintro ⟨l, _, h, _⟩; exact hR h
def b9K (G : f7) : Bool := G.Funcs.all fun g => g.Kinds.all fun k => decide (0 <= k)
theorem a6L {G : f7} : b9K G = true ↔ c1x G := by
 unfold b9K c1x
 simp only [List.all_eq_true, decide_eq_true_eq]
noncomputable def a1e (G : f7) (f : Int) : Option (List Int × Int) := if b9K G = true then some (b0E G f, b0A G f) else none
theorem a4M {g_00 : f7} {f_01 : Int} {r : List Int × Int} (h : a1e g_00 f_01 = some r) : m5 Tryd.prog 8 [(f7.av g_00), (.int .i64 f_01)] (.tup [(.sl false 1 (List.map (avI .i64) r.1)), (.int .i64 r.2)]) := by
 unfold a1e at h
 split at h
 case isFalse => cases h
 rename_i hp
 cases h
 obtain ⟨r, h1, rfl⟩ := Tri.pure (Q' := fun r => r = .tup [(.sl false 1 (List.map (avI .i64) (b0E g_00 f_01))), (.int .i64 (b0A g_00 f_01))]) 2 (b9n f_01 (a6L.1 hp)) (fun v L' S hq hS => by
  rcases hq with ⟨oo, rfl, rfl⟩ | ⟨rfl, rfl, e⟩
  ·refine ⟨.tup [(.sl false 1 (List.map (avI .i64) (b0E g_00 f_01))), (.int .i64 (b0A g_00 f_01))], a7i ⟨?_, a0k rfl (.refl _), trivial⟩, rfl⟩
   rw [a8V (j := []) (g5 .i64) rfl rfl (by rw [List.append_nil]; exact hS.at (.head _))]
   exact .refl _
  ·rw [e]
   exact ⟨.tup [(.sl false 1 (List.map (avI .i64) [])), (.int .i64 (b0A g_00 f_01))], a7i ⟨a0k rfl .nil, a0k rfl (.refl _), trivial⟩, rfl⟩)
 exact h1
end Go.Proofs.YtepdcebjobjjgaaDoor

