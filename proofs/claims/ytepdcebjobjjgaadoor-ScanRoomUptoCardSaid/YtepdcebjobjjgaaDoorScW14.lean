/- ref7.Copy: the walk. -/
import Derived.Test.YtepdcebjobjjgaaDoorScW12
import Derived.Test.YtepdcebjobjjgaaDoorWlTz
import Derived.Test.YtepdcebjobjjgaaDoorGenS
set_option linter.unusedVariables false
set_option linter.unusedSimpArgs false
namespace Go.Proofs.YtepdcebjobjjgaaDoor
open Go Go.Ab
set_option maxRecDepth 20000
set_option maxHeartbeats 2000000
end Go.Proofs.YtepdcebjobjjgaaDoor

/- scan.Assign: one answer; ScanAgain: the walk. -/
namespace Go.Proofs.YtepdcebjobjjgaaDoor
open Go Go.Ab
set_option maxRecDepth 20000
set_option maxHeartbeats 2000000
def c1v (G : g5) : Prop := ∀ g ∈ G.Funcs, ∀ k ∈ g.Kinds, 0 ≤ k
theorem c3n (G : g5) (f : Int) : a2p 0 [g5.av G, .int .i64 f] = true := i8 ⟨(g5.enc.blw _ 0), rfl, trivial⟩
theorem c1w {G : g5} {f : Int} {g : b5} (hpos : c1v G) (hR : a1m G = true) (hg : u6 G.Funcs f = some g) :
  ∃ l : List Int, b9f g.Kinds (y4 g) l ∧ Ev Tryd.prog 8 [g5.av G, .int .i64 f] (hp []) (.tup [.ref 0 0 0 l.length none, .int .i64 0]) (hp [.arr 0 (flat (avI .i64) l)]) := by
 have h := a5H G f hpos
 unfold c1u at h
 simp only [if_pos hR, hg] at h
 obtain ⟨l, x, ⟨h1, rfl⟩, _, h3⟩ := Tri.base (d8 .i64) (Q := fun l x => b9f g.Kinds (y4 g) l ∧ x = .int .i64 0) (h.mono fun r L' ⟨oo, O, h1, h2, h3⟩ => ⟨oo, O, .int .i64 0, h1, rfl, h2, h3, rfl⟩)
 exact ⟨l, h1, h3⟩
open Classical in
noncomputable def b0r (G : g5) (f : Int) : List Int := if h : ∃ l : List Int, Ev Tryd.prog 8 [g5.av G, .int .i64 f] (hp []) (.tup [.ref 0 0 0 l.length none, .int .i64 0]) (hp [.arr 0 (flat (avI .i64) l)]) ∧ a1m G = true ∧ ∃ g, u6 G.Funcs f = some g ∧ b9f g.Kinds (y4 g) l then h.choose else []
def b0n (G : g5) (f : Int) : Int := if a1m G = true then (match u6 G.Funcs f with | some _ => 0 | none => 2) else 70
def c6C (G : g5) (f : Int) (r : AV) (L' : List It) : Prop :=
 (∃ oo, r = .tup [.ref oo 0 0 (b0r G f).length none, .int .i64 (b0n G f)] ∧ L' = [(oo, 0, flat (avI .i64) (b0r G f))]) ∨ (r = .tup [.nils, .int .i64 (b0n G f)] ∧ L' = [] ∧ b0r G f = [])
theorem a9i {G : g5} {f : Int} {g : b5} (hpos : c1v G) (hR : a1m G = true) (hg : u6 G.Funcs f = some g) : b9f g.Kinds (y4 g) (b0r G f) ∧ Ev Tryd.prog 8 [g5.av G, .int .i64 f] (hp []) (.tup [.ref 0 0 0 (b0r G f).length none, .int .i64 0]) (hp [.arr 0 (flat (avI .i64) (b0r G f))]) := by
 obtain ⟨l, h1, h2⟩ := c1w hpos hR hg
 have hex : ∃ l : List Int, Ev Tryd.prog 8 [g5.av G, .int .i64 f] (hp []) (.tup [.ref 0 0 0 l.length none, .int .i64 0]) (hp [.arr 0 (flat (avI .i64) l)]) ∧ a1m G = true ∧ ∃ g, u6 G.Funcs f = some g ∧ b9f g.Kinds (y4 g) l := ⟨l, h2, hR, g, hg, h1⟩
 have e : b0r G f = hex.choose := by unfold b0r; rw [dif_pos hex]
 obtain ⟨k1, _, g', k2, k3⟩ := hex.choose_spec
 rw [e]
 rw [hg] at k2; cases k2
 exact ⟨k3, k1⟩
theorem b8K {G : g5} (f : Int) (hpos : c1v G) : Tri Tryd.prog 8 [g5.av G, .int .i64 f] [] (c6C G f) := by
 by_cases hR : a1m G = true
 ·cases hg : u6 G.Funcs f with
  | some g =>
    have h := (a9i hpos hR hg).2.tri1 (d8 .i64) (c3n G f) rfl
    refine h.mono fun r L' ⟨oo, h1, h2⟩ => .inl ⟨oo, ?_, h2⟩
    rw [h1]; unfold b0n; rw [if_pos hR, hg]
  | none =>
    have h := a5H G f hpos
    unfold c1u at h
    simp only [if_pos hR, hg] at h
    refine h.mono fun r L' ⟨h1, h2⟩ => .inr ⟨?_, h2, ?_⟩
    ·rw [h1]; unfold b0n; rw [if_pos hR, hg]
    ·unfold b0r; rw [dif_neg]; rintro ⟨l, _, _, g, h, _⟩; rw [hg] at h; cases h
 ·have h := a5H G f hpos
  unfold c1u at h
  simp only [if_neg hR] at h
  refine h.mono fun r L' ⟨h1, h2⟩ => .inr ⟨?_, h2, ?_⟩
  ·rw [h1]; unfold b0n; rw [if_neg hR]
  ·unfold b0r; rw [dif_neg]; rintro ⟨l, _, h, _⟩; exact hR h
def b9g (G : g5) : Bool := G.Funcs.all fun g => g.Kinds.all fun k => decide (0 ≤ k)
theorem a6z {G : g5} : b9g G = true ↔ c1v G := by
 unfold b9g c1v
 simp only [List.all_eq_true, decide_eq_true_eq]
noncomputable def a0Z (G : g5) (f : Int) : Option (List Int × Int) := if b9g G = true then some (b0r G f, b0n G f) else none
theorem a4z {g_00 : g5} {f_01 : Int} {r : List Int × Int} (h : a0Z g_00 f_01 = some r) : m8 Tryd.prog 8 [(g5.av g_00), (.int .i64 f_01)] (.tup [(.sl false 1 (List.map (avI .i64) r.1)), (.int .i64 r.2)]) := by
 unfold a0Z at h
 split at h
 case isFalse => cases h
 rename_i hp
 cases h
 obtain ⟨r, h1, rfl⟩ := Tri.pure (Q' := fun r => r = .tup [(.sl false 1 (List.map (avI .i64) (b0r g_00 f_01))), (.int .i64 (b0n g_00 f_01))]) 2 (b8K f_01 (a6z.1 hp)) (fun v L' S hq hS => by
  rcases hq with ⟨oo, rfl, rfl⟩ | ⟨rfl, rfl, e⟩
  ·refine ⟨.tup [(.sl false 1 (List.map (avI .i64) (b0r g_00 f_01))), (.int .i64 (b0n g_00 f_01))], a6V ⟨?_, a0Y rfl (.refl _), trivial⟩, rfl⟩
   rw [a8H (j := []) (d8 .i64) rfl rfl (by rw [List.append_nil]; exact hS.at (.head _))]
   exact .refl _
  ·rw [e]
   exact ⟨.tup [(.sl false 1 (List.map (avI .i64) [])), (.int .i64 (b0n g_00 f_01))], a6V ⟨a0Y rfl .nil, a0Y rfl (.refl _), trivial⟩, rfl⟩)
 exact h1
end Go.Proofs.YtepdcebjobjjgaaDoor

