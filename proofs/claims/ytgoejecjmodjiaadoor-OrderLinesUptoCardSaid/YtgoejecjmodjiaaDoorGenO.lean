/- What the functions compute, and that they do (printed by wip/gen/gen.py), part 1. -/
import Derived.Test.YtgoejecjmodjiaaDoorWlH2
import Derived.Test.YtgoejecjmodjiaaDoorRows
import Derived.Test.YtgoejecjmodjiaaDoorOrW1
set_option linter.unusedVariables false
set_option linter.unusedSimpArgs false
namespace Go.Proofs.YtgoejecjmodjiaaDoor
open Go Go.Ab
set_option maxRecDepth 20000
set_option maxHeartbeats 2000000
structure b7 where
  Place : Int
  From : Int
  To : Int
  Held : Bool
def b7.cells (x : b7) : List AV := [(.int .i64 x.Place), (.int .i64 x.From), (.int .i64 x.To), (.bool x.Held)]
def b7.av (x : b7) : AV := .agg (b7.cells x)
theorem b7.enc : Enc b7.av (some 4) := ⟨fun _ => rfl, fun _ => rfl, fun _ => rfl, fun x n => i6 ⟨((f4 .i64).blw x.Place n), ((f4 .i64).blw x.From n), ((f4 .i64).blw x.To n), (a8g.blw x.Held n), trivial⟩⟩
def c6S : FC := (.seq (.reg [oO 1 (.box (.t 0)), oO 2 (.mv (.v (.bool false)))] []) (.seq (.reg [oO 3 (.fad 2 (.t 1)), oO 4 (.load none (.t 3)), oO 5 (.bin .none .lss (.t 4) (.v (.int .i64 0))), oO 2 (.mv (.t 5))] []) .ret))
theorem c7V : Fn3 Tryd.prog 50 6 [(2, none)] c6S := ⟨_, _, Tryd.func50, rfl, rfl, rfl, by kernel_rfl⟩
def a3X (s00 : b7) : Option Bool :=
  (some (decide (s00.To < 0)))
theorem a5X {s00 : b7} {r : Bool} (h : a3X s00 = some r) : n9 Tryd.prog 50 [(b7.av s00)] (.bool r) := by
  unfold a3X at h
  refine k8 mixed c7V zS [] 6 ?_
  unfold c6S
  refine g5 ?_
  refine b8 ?_
  refine oP (.cptr (b7.av s00).cells 0) ?_
  refine oM (.bool false) ?_
  refine b6 ?_
  refine g8 ?_
  refine g5 ?_
  refine b8 ?_
  refine oP (.cptr (b7.av s00).cells 2) ?_
  refine oP (.int .i64 s00.To) ?_
  refine oP (.bool (decide (s00.To < 0))) ?_
  refine oM (.bool (decide (s00.To < 0))) ?_
  refine b6 ?_
  refine g8 ?_
  refine j8 ?_
  cases h
  exact ⟨trivial, _, rfl, (a0n rfl (.refl _))⟩
end Go.Proofs.YtgoejecjmodjiaaDoor

