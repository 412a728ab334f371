/- What the functions compute, and that they do (printed by wip/gen/gen.py), part 1. -/
import Derived.Test.YtepdcebjobjjgaaDoorWlH2
import Derived.Test.YtepdcebjobjjgaaDoorRows
import Derived.Test.YtepdcebjobjjgaaDoorOrW1
set_option linter.unusedVariables false
set_option linter.unusedSimpArgs false
namespace Go.Proofs.YtepdcebjobjjgaaDoor
open Go Go.Ab
noncomputable section
set_option maxRecDepth 20000
set_option maxHeartbeats 2000000
structure b6 where
  Place : Int
  From : Int
  To : Int
  Held : Bool
def b6.cells (x : b6) : List AV := [(.int .i64 x.Place), (.int .i64 x.From), (.int .i64 x.To), (.bool x.Held)]
def b6.av (x : b6) : AV := .agg (b6.cells x)
theorem b6.enc : Enc b6.av (some 4) := ⟨fun _ => rfl, fun _ => rfl, fun _ => rfl, fun x n => i8 ⟨((d8 .i64).blw x.Place n), ((d8 .i64).blw x.From n), ((d8 .i64).blw x.To n), (a8C.blw x.Held n), trivial⟩⟩
noncomputable def c4f : FC := fcO 35
theorem c5v : Fn3 Tryd.prog 35 6 [(2, none)] c4f := ⟨_, _, Tryd.func35, rfl, rfl, rfl, by kernel_rfl⟩
def a4c (s00 : b6) : Option Bool :=
  (some (decide (s00.To < 0)))
theorem a6f {s00 : b6} {r : Bool} (h : a4c s00 = some r) : m8 Tryd.prog 35 [(b6.av s00)] (.bool r) := by
  unfold a4c at h
  refine k7 mixed c5v zS [] 6 ?_
  unfold c4f
  refine f6 ?_
  refine b8 ?_
  refine oP (.cptr (b6.av s00).cells 0) ?_
  refine oM (.bool false) ?_
  refine b7 ?_
  refine f8 ?_
  refine f6 ?_
  refine b8 ?_
  refine oP (.cptr (b6.av s00).cells 2) ?_
  refine oP (.int .i64 s00.To) ?_
  refine oP (.bool (decide (s00.To < 0))) ?_
  refine oM (.bool (decide (s00.To < 0))) ?_
  refine b7 ?_
  refine f8 ?_
  refine j3 ?_
  cases h
  exact ⟨trivial, _, rfl, (a0Y rfl (.refl _))⟩
end
end Go.Proofs.YtepdcebjobjjgaaDoor

