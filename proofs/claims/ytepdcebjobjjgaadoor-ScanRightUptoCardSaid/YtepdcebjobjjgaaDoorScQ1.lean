/- f7 are the same as themselves. -/
import Derived.Test.YtepdcebjobjjgaaDoorGenS
import Derived.Test.YtepdcebjobjjgaaDoorWlH2
import Derived.Test.YtepdcebjobjjgaaDoorGenQ1
set_option linter.unusedVariables false
set_option linter.unusedSimpArgs false
namespace Go.Proofs.YtepdcebjobjjgaaDoor
open Go Go.Ab
structure SpF (g : b5) : Prop where
 kn : g.Kinds.length <= 1024
 n0 : 1 <= g.Nodes.length
 nn : g.Nodes.length <= 4096
 len : (y7 g).length <= g.Kinds.length
 inc : (y7 g).Pairwise fun x y => x.Place < y.Place
 mem : ∀ x ∈ y7 g, 0 <= x.Place /\ x.Place < g.Kinds.length /\ 0 <= x.From /\ x.From <= x.To /\ x.From < g.Nodes.length
 spans : u7 100000000000 g = some (y7 g)
theorem spF {G : f7} (hR : a1h G = true) {f : Int} {g : b5} (hgf : o6 G.Funcs f = some g) : SpF g := by
 obtain ⟨h0, h1, h2⟩ := i8 hgf
 obtain ⟨hg, hhd, hnd⟩ := a3z hR g (List.mem_of_getElem? h2)
 obtain ⟨hK, hp4, hpar, hn1, hN, he0, heN⟩ := a0d hhd
 obtain ⟨w, hw1, hw2, hw3, hwl⟩ := b2w hg hK hN he0 heN
 refine ⟨hK, hn1, hN, a5Q g, b0z hg hpar hw1 hwl, fun x hx => ?_, b5g hg hpar hp4 he0 heN⟩
 obtain ⟨k, a1, a2, a3, a4, a5, a6⟩ := b1z hg hpar hw1 hwl hx
 refine ⟨by omega, by omega, a5, a6, ?_⟩
 rcases a4.ends with ⟨q, q2⟩ | ⟨⟨a, i, q, q2⟩, _⟩
 ·omega
 ·rcases q2 with ⟨_, b, _⟩ | ⟨b, _⟩
  ·omega
  ·omega
end Go.Proofs.YtepdcebjobjjgaaDoor

