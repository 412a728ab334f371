/- What the functions compute, and that they do (printed by wip/gen/gen.py), part 1. -/
import Derived.Test.YtepdcebjobjjgaaDoorWlH2
import Derived.Test.YtepdcebjobjjgaaDoorRows
import Derived.Test.YtepdcebjobjjgaaDoorOrW1
set_option linter.unusedVariables false
set_option linter.unusedSimpArgs false
namespace Go.Proofs.YtepdcebjobjjgaaDoor
open Go Go.Ab
noncomputable section
set_option maxRecDepth 20000
set_option maxHeartbeats 2000000
structure b7 where
  Place : Int
  From : Int
  To : Int
  Held : Bool
def b7.cells (x : b7) : List AV := [(.int .i64 x.Place), (.int .i64 x.From), (.int .i64 x.To), (.bool x.Held)]
def b7.av (x : b7) : AV := .agg (b7.cells x)
theorem b7.enc : Enc b7.av (some 4) := ⟨fun _ => rfl, fun _ => rfl, fun _ => rfl, fun x n => j5 ⟨((g6 .i64).blw x.Place n), ((g6 .i64).blw x.From n), ((g6 .i64).blw x.To n), (b0t.blw x.Held n), trivial⟩⟩
def d3i : FC := (.seq (.reg [oO 1 (.box (.t 0)), oO 2 (.mv (.v (.bool false)))] []) (.seq (.reg [oO 3 (.fad 2 (.t 1)), oO 4 (.load none (.t 3)), oO 5 (.bin .none .lss (.t 4) (.v (.int .i64 0))), oO 2 (.mv (.t 5))] []) .ret))
theorem d4c : Fn3 Tryd.prog 35 6 [(2, none)] d3i := ⟨_, _, Tryd.func35, rfl, rfl, rfl, by kernel_rfl⟩
def a3j (s00 : b7) : Option Bool :=
  (some (decide (s00.To < 0)))
theorem a5o {s00 : b7} {r : Bool} (h : a3j s00 = some r) : n5 Tryd.prog 35 [(b7.av s00)] (.bool r) := by
  unfold a3j at h
  refine m0 mixed d4c zS [] 6 ?_
  unfold d3i
  refine f8 ?_
  refine b9 ?_
  refine oP (.cptr (b7.av s00).cells 0) ?_
  refine oM (.bool false) ?_
  refine b6 ?_
  refine g7 ?_
  refine f8 ?_
  refine b9 ?_
  refine oP (.cptr (b7.av s00).cells 2) ?_
  refine oP (.int .i64 s00.To) ?_
  refine oP (.bool (decide (s00.To < 0))) ?_
  refine oM (.bool (decide (s00.To < 0))) ?_
  refine b6 ?_
  refine g7 ?_
  refine i9 ?_
  cases h
  exact ⟨trivial, _, rfl, (a0F rfl (.refl _))⟩
end
end Go.Proofs.YtepdcebjobjjgaaDoor

