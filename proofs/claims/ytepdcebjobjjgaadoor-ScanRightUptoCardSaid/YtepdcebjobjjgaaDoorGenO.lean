/- What the functions compute, and that they do (printed by wip/gen/gen.py), part 1. -/
import Derived.Test.YtepdcebjobjjgaaDoorWlH2
import Derived.Test.YtepdcebjobjjgaaDoorRows
import Derived.Test.YtepdcebjobjjgaaDoorOrW1
set_option linter.unusedVariables false
set_option linter.unusedSimpArgs false
namespace Go.Proofs.YtepdcebjobjjgaaDoor
open Go Go.Ab
noncomputable section
set_option maxRecDepth 20000
set_option maxHeartbeats 2000000
structure b6 where
  Place : Int
  From : Int
  To : Int
  Held : Bool
def b6.cells (x : b6) : List AV := [(.int .i64 x.Place), (.int .i64 x.From), (.int .i64 x.To), (.bool x.Held)]
def b6.av (x : b6) : AV := .agg (b6.cells x)
theorem b6.enc : Enc b6.av (some 4) := ⟨fun _ => rfl, fun _ => rfl, fun _ => rfl, fun x n => i6 ⟨((g5 .i64).blw x.Place n), ((g5 .i64).blw x.From n), ((g5 .i64).blw x.To n), (a8R.blw x.Held n), trivial⟩⟩
noncomputable def c4a : FC := fcO 35
theorem c5t : Fn3 Tryd.prog 35 6 [(2, none)] c4a := ⟨_, _, Tryd.func35, rfl, rfl, rfl, by kernel_rfl⟩
def a4n (s00 : b6) : Option Bool :=
  (some (decide (s00.To < 0)))
theorem a6o {s00 : b6} {r : Bool} (h : a4n s00 = some r) : m5 Tryd.prog 35 [(b6.av s00)] (.bool r) := by
  unfold a4n at h
  refine k6 mixed c5t zS [] 6 ?_
  unfold c4a
  refine d9 ?_
  refine b8 ?_
  refine oP (pC (b6.av s00) 0) ?_
  refine oM (.bool false) ?_
  refine b7 ?_
  refine f5 ?_
  refine d9 ?_
  refine b8 ?_
  refine oP (pC (b6.av s00) 2) ?_
  refine oP (iZ s00.To) ?_
  refine oP (.bool (decide (s00.To < 0))) ?_
  refine oM (.bool (decide (s00.To < 0))) ?_
  refine b7 ?_
  refine f5 ?_
  refine j5 ?_
  cases h
  exact ⟨trivial, _, rfl, (a0k rfl (.refl _))⟩
end
end Go.Proofs.YtepdcebjobjjgaaDoor

