/- ref7.Copy: the walk. -/
import Derived.Test.YtepdcebjobjjgaaDoorScW12
import Derived.Test.YtepdcebjobjjgaaDoorWlTz
import Derived.Test.YtepdcebjobjjgaaDoorGenS
set_option linter.unusedVariables false
set_option linter.unusedSimpArgs false
namespace Go.Proofs.YtepdcebjobjjgaaDoor
open Go Go.Ab
set_option maxRecDepth 20000
set_option maxHeartbeats 2000000
end Go.Proofs.YtepdcebjobjjgaaDoor

/- scan.Assign: one answer; ScanAgain: the walk. -/
namespace Go.Proofs.YtepdcebjobjjgaaDoor
open Go Go.Ab
set_option maxRecDepth 20000
set_option maxHeartbeats 2000000
def c6w (G : f6) : Prop := ∀ g ∈ G.Funcs, ∀ k ∈ g.Kinds, 0 ≤ k
theorem d2q (G : f6) (f : Int) : a1N 0 [f6.av G, .int .i64 f] = true := j5 ⟨(f6.enc.blw _ 0), rfl, trivial⟩
theorem c6x {G : f6} {f : Int} {g : b5} (hpos : c6w G) (hR : RightB G = true) (hg : y5 G.Funcs f = some g) :
  ∃ l : List Int, b8i g.Kinds (x9 g) l ∧ Ev Tryd.prog 8 [f6.av G, .int .i64 f] (hp []) (.tup [.ref 0 0 0 l.length none, .int .i64 0]) (hp [.arr 0 (flat (avI .i64) l)]) := by
 have h := a4R G f hpos
 unfold c6v at h
 simp only [if_pos hR, hg] at h
 obtain ⟨l, x, ⟨h1, rfl⟩, _, h3⟩ := Tri.base (g6 .i64) (Q := fun l x => b8i g.Kinds (x9 g) l ∧ x = .int .i64 0) (h.mono fun r L' ⟨oo, O, h1, h2, h3⟩ => ⟨oo, O, .int .i64 0, h1, rfl, h2, h3, rfl⟩)
 exact ⟨l, h1, h3⟩
open Classical in
noncomputable def a7j (G : f6) (f : Int) : List Int := if h : ∃ l : List Int, Ev Tryd.prog 8 [f6.av G, .int .i64 f] (hp []) (.tup [.ref 0 0 0 l.length none, .int .i64 0]) (hp [.arr 0 (flat (avI .i64) l)]) ∧ RightB G = true ∧ ∃ g, y5 G.Funcs f = some g ∧ b8i g.Kinds (x9 g) l then h.choose else []
def b1y (G : f6) (f : Int) : Int := if RightB G = true then (match y5 G.Funcs f with | some _ => 0 | none => 2) else 70
def d5g (G : f6) (f : Int) (r : AV) (L' : List It) : Prop :=
 (∃ oo, r = .tup [.ref oo 0 0 (a7j G f).length none, .int .i64 (b1y G f)] ∧ L' = [(oo, 0, flat (avI .i64) (a7j G f))]) ∨ (r = .tup [.nils, .int .i64 (b1y G f)] ∧ L' = [] ∧ a7j G f = [])
theorem a8e {G : f6} {f : Int} {g : b5} (hpos : c6w G) (hR : RightB G = true) (hg : y5 G.Funcs f = some g) : b8i g.Kinds (x9 g) (a7j G f) ∧ Ev Tryd.prog 8 [f6.av G, .int .i64 f] (hp []) (.tup [.ref 0 0 0 (a7j G f).length none, .int .i64 0]) (hp [.arr 0 (flat (avI .i64) (a7j G f))]) := by
 obtain ⟨l, h1, h2⟩ := c6x hpos hR hg
 have hex : ∃ l : List Int, Ev Tryd.prog 8 [f6.av G, .int .i64 f] (hp []) (.tup [.ref 0 0 0 l.length none, .int .i64 0]) (hp [.arr 0 (flat (avI .i64) l)]) ∧ RightB G = true ∧ ∃ g, y5 G.Funcs f = some g ∧ b8i g.Kinds (x9 g) l := ⟨l, h2, hR, g, hg, h1⟩
 have e : a7j G f = hex.choose := by unfold a7j; rw [dif_pos hex]
 obtain ⟨k1, _, g', k2, k3⟩ := hex.choose_spec
 rw [e]
 rw [hg] at k2; cases k2
 exact ⟨k3, k1⟩
theorem b7O {G : f6} (f : Int) (hpos : c6w G) : Tri Tryd.prog 8 [f6.av G, .int .i64 f] [] (d5g G f) := by
 by_cases hR : RightB G = true
 ·cases hg : y5 G.Funcs f with
  | some g =>
    have h := (a8e hpos hR hg).2.tri1 (g6 .i64) (d2q G f) rfl
    refine h.mono fun r L' ⟨oo, h1, h2⟩ => .inl ⟨oo, ?_, h2⟩
    rw [h1]; unfold b1y; rw [if_pos hR, hg]
  | none =>
    have h := a4R G f hpos
    unfold c6v at h
    simp only [if_pos hR, hg] at h
    refine h.mono fun r L' ⟨h1, h2⟩ => .inr ⟨?_, h2, ?_⟩
    ·rw [h1]; unfold b1y; rw [if_pos hR, hg]
    ·unfold a7j; rw [dif_neg]; rintro ⟨l, _, _, g, h, _⟩; rw [hg] at h; cases h
 ·have h := a4R G f hpos
  unfold c6v at h
  simp only [if_neg hR] at h
  refine h.mono fun r L' ⟨h1, h2⟩ => .inr ⟨?_, h2, ?_⟩
  ·rw [h1]; unfold b1y; rw [if_neg hR]
  ·unfold a7j; rw [dif_neg]; rintro ⟨l, _, h, _⟩; exact hR h
def b7P (G : f6) : Bool := G.Funcs.all fun g => g.Kinds.all fun k => decide (0 ≤ k)
theorem a8f {G : f6} : b7P G = true ↔ c6w G := by
 unfold b7P c6w
 simp only [List.all_eq_true, decide_eq_true_eq]
noncomputable def z8 (G : f6) (f : Int) : Option (List Int × Int) := if b7P G = true then some (a7j G f, b1y G f) else none
theorem a3B {g_00 : f6} {f_01 : Int} {r : List Int × Int} (h : z8 g_00 f_01 = some r) : n5 Tryd.prog 8 [(f6.av g_00), (.int .i64 f_01)] (.tup [(.sl false 1 (List.map (avI .i64) r.1)), (.int .i64 r.2)]) := by
 unfold z8 at h
 split at h
 case isFalse => cases h
 rename_i hp
 cases h
 obtain ⟨r, h1, rfl⟩ := Tri.pure (Q' := fun r => r = .tup [(.sl false 1 (List.map (avI .i64) (a7j g_00 f_01))), (.int .i64 (b1y g_00 f_01))]) 2 (b7O f_01 (a8f.1 hp)) (fun v L' S hq hS => by
  rcases hq with ⟨oo, rfl, rfl⟩ | ⟨rfl, rfl, e⟩
  ·refine ⟨.tup [(.sl false 1 (List.map (avI .i64) (a7j g_00 f_01))), (.int .i64 (b1y g_00 f_01))], a5Z ⟨?_, a0F rfl (.refl _), trivial⟩, rfl⟩
   rw [b2P (j := []) (g6 .i64) rfl rfl (by rw [List.append_nil]; exact hS.at (.head _))]
   exact .refl _
  ·rw [e]
   exact ⟨.tup [(.sl false 1 (List.map (avI .i64) [])), (.int .i64 (b1y g_00 f_01))], a5Z ⟨a0F rfl .nil, a0F rfl (.refl _), trivial⟩, rfl⟩)
 exact h1
end Go.Proofs.YtepdcebjobjjgaaDoor

