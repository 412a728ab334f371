/- What the functions compute, and that they do (printed by wip/gen/gen.py), part 1. -/
import Derived.Test.YtgoejecjmodjiaaDoorWlH2
import Derived.Test.YtgoejecjmodjiaaDoorRows
import Derived.Test.YtgoejecjmodjiaaDoorOrW1
namespace Go.Proofs.YtgoejecjmodjiaaDoor
open Go Go.Ab
set_option maxRecDepth 20000
set_option maxHeartbeats 2000000
set_option linter.unusedVariables false
set_option linter.unusedSimpArgs false
structure Interval where
  Place : Int
  From : Int
  To : Int
  Held : Bool
def Interval.cells (x : Interval) : List AV := [(.int .i64 x.Place), (.int .i64 x.From), (.int .i64 x.To), (.bool x.Held)]
def Interval.av (x : Interval) : AV := .agg (Interval.cells x)
theorem Interval.enc : Enc Interval.av (some 4) := ⟨fun _ => rfl, fun _ => rfl, fun _ => rfl, fun x n => blwL_of ⟨((encI .i64).blw x.Place n), ((encI .i64).blw x.From n), ((encI .i64).blw x.To n), (encB.blw x.Held n), trivial⟩⟩
def fc50 : FC := (.seq (.reg [oO 1 (.box (.t 0)), oO 2 (.mv (.v (.bool false)))] []) (.seq (.reg [oO 3 (.fad 2 (.t 1)), oO 4 (.load none (.t 3)), oO 5 (.bin .none .lss (.t 4) (.v (.int .i64 0))), oO 2 (.mv (.t 5))] []) .ret))
theorem fn50 : Fn3 Tryd.prog 50 6 [(2, none)] fc50 := ⟨_, _, Tryd.func50, rfl, rfl, rfl, by kernel_rfl⟩
def order_Spans_2_s (s_00 : Interval) : Option Bool :=
  (some (decide (s_00.To < 0)))
theorem order_Spans_2_ev {s_00 : Interval} {r : Bool} (h : order_Spans_2_s s_00 = some r) : PureEv Tryd.prog 50 [(Interval.av s_00)] (.bool r) := by
  unfold order_Spans_2_s at h
  refine PureEv_end mixed fn50 (by simp) [] 6 ?_
  unfold fc50
  refine E_sq ?_
  refine E_reg ?_
  refine E_op0 (v' := (.cptr (Interval.av s_00).cells 0)) rfl rfl ?_
  refine E_mv (v' := (.bool false)) rfl ?_
  refine E_nil ?_
  refine E_nx ?_
  refine E_sq ?_
  refine E_reg ?_
  refine E_op0 (v' := (.cptr (Interval.av s_00).cells 2)) rfl rfl ?_
  refine E_op0 (v' := (.int .i64 s_00.To)) rfl rfl ?_
  refine E_op0 (v' := (.bool (decide (s_00.To < 0)))) rfl rfl ?_
  refine E_mv (v' := (.bool (decide (s_00.To < 0)))) rfl ?_
  refine E_nil ?_
  refine E_nx ?_
  refine E_ret ?_
  cases h
  exact ⟨trivial, _, rfl, (fz_b rfl (.refl _))⟩
end Go.Proofs.YtgoejecjmodjiaaDoor

