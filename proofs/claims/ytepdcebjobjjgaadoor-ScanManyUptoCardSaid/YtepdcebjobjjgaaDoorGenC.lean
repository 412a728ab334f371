/- What the functions compute, and that they do (printed by wip/gen/gen.py), part 1. -/
import Derived.Test.YtepdcebjobjjgaaDoorWlH2
import Derived.Test.YtepdcebjobjjgaaDoorRows
import Derived.Test.YtepdcebjobjjgaaDoorScW2
import Derived.Test.YtepdcebjobjjgaaDoorScP3
set_option linter.unusedVariables false
set_option linter.unusedSimpArgs false
namespace Go.Proofs.YtepdcebjobjjgaaDoor
open Go Go.Ab
noncomputable section
set_option maxRecDepth 20000
set_option maxHeartbeats 2000000
def d3m : FC := (.seq (.reg [oO 2 (.mv (.v (.bool false)))] []) (.seq (.reg [oO 3 (.mv (.t 0)), oO 4 (.mv (.t 0)), oO 5 (.bin .none .neq (.t 3) (.t 4)), oO 2 (.mv (.t 5))] []) .ret))
theorem d4U : Fn3 Tryd.prog 37 6 [(2, none)] d3m := ⟨_, _, Tryd.func37, rfl, rfl, rfl, by kernel_rfl⟩
def a1L (x00 : Int) : Option Bool :=
  (some (x00 != x00))
theorem a5f {x00 : Int} {r : Bool} (h : a1L x00 = some r) : n5 Tryd.prog 37 [(.int .i64 x00)] (.bool r) := by
  unfold a1L at h
  refine m0 mixed d4U zS [] 6 ?_
  unfold d3m
  refine f8 ?_
  refine b9 ?_
  refine oM (.bool false) ?_
  refine b6 ?_
  refine g7 ?_
  refine f8 ?_
  refine b9 ?_
  refine oM (.int .i64 x00) ?_
  refine oM (.int .i64 x00) ?_
  refine oP (.bool (x00 != x00)) ?_
  refine oM (.bool (x00 != x00)) ?_
  refine b6 ?_
  refine g7 ?_
  refine i9 ?_
  cases h
  exact ⟨trivial, _, rfl, (a0F rfl (.refl _))⟩
def d3n : FC := (.seq (.reg [oO 4 (.mv (.v (.int .i64 0)))] []) (.seq (.reg [oO 7 (.mv (.t 0)), ⟨(some 8), none, .call 37 [(.t 7)]⟩, oO 5 (.mv (.t 8))] []) (.seq (.reg [oO 9 (.mv (.t 1)), ⟨(some 10), none, .call 37 [(.t 9)]⟩, oO 6 (.mv (.t 10))] []) (.seq (.seq (.reg [oO 11 (.mv (.t 5))] []) (.cond (.t 11) (.seq (.seq (.reg [oO 12 (.mv (.t 6))] []) (.cond (.t 12) (.seq (.reg [oO 4 (.mv (.v (.int .i64 0)))] []) .ret) .skip)) (.seq (.reg [oO 4 (.mv (.v (.int .i64 (-1))))] []) .ret)) .skip)) (.seq (.seq (.reg [oO 13 (.mv (.t 6))] []) (.cond (.t 13) (.seq (.reg [oO 4 (.mv (.v (.int .i64 1)))] []) .ret) .skip)) (.seq (.seq (.reg [oO 14 (.mv (.t 0)), oO 15 (.mv (.t 1)), oO 16 (.bin .none .lss (.t 14) (.t 15))] []) (.cond (.t 16) (.seq (.reg [oO 4 (.mv (.v (.int .i64 (-1))))] []) .ret) .skip)) (.seq (.seq (.reg [oO 17 (.mv (.t 0)), oO 18 (.mv (.t 1)), oO 19 (.bin .none .gtr (.t 17) (.t 18))] []) (.cond (.t 19) (.seq (.reg [oO 4 (.mv (.v (.int .i64 1)))] []) .ret) .skip)) (.seq (.reg [oO 4 (.mv (.v (.int .i64 0)))] []) .ret))))))))
theorem d4V : Fn3 Tryd.prog 18 20 [(4, none)] d3n := ⟨_, _, Tryd.func18, rfl, rfl, rfl, by kernel_rfl⟩
def a1w (x00 : Int) (y01 : Int) : Option Int :=
  ((a1L x00).bind fun i1 => ((a1L y01).bind fun i2 => (if i1 then (if i2 then (some 0) else (some (-1))) else (if i2 then (some 1) else (if (decide (x00 < y01)) then (some (-1)) else (if (decide (x00 > y01)) then (some 1) else (some 0)))))))
theorem a6F {x00 : Int} {y01 : Int} {r : Int} (h : a1w x00 y01 = some r) : n5 Tryd.prog 18 [(.int .i64 x00), (.int .i64 y01)] (.int .i64 r) := by
 unfold a1w at h;refine m0 mixed d4V zS [] 6 ?_;unfold d3n;refine f8 (b9 (oM (.int .i64 0) (b6 (g7 (f8 (b9 (oM (.int .i64 x00) ?_)))))));obtain ⟨i1, hi1, h⟩ := c9 h;refine l7 (a5f  hi1) rfl ⟨(.refl _), trivial⟩ (j5 ⟨rfl, trivial⟩) rfl (oM (.bool i1) (b6 (g7 (f8 (b9 (oM (.int .i64 y01) ?_))))));obtain ⟨i2, hi2, h⟩ := c9 h;refine l7 (a5f  hi2) rfl ⟨(.refl _), trivial⟩ (j5 ⟨rfl, trivial⟩) rfl (oM (.bool i2) (b6 (g7 (a0o (f8 (b9 (oM (.bool i1) (b6 (g7 (f8 ?_))))))))));refine n6 (t := i1) rfl (fun hb => ?_) (fun hb => ?_);{rw [g8 hb] at h;refine a0o (f8 (b9 (oM (.bool i2) (b6 (g7 (f8 ?_))))));refine n6 (t := i2) rfl (fun hb => ?_) (fun hb => ?_);{rw [g8 hb] at h;refine f8 (b9 (oM (.int .i64 0) (b6 (g7 (i9 (j4 (j4 ?_)))))));cases h;exact ⟨trivial, _, rfl, (a0F rfl (.refl _))⟩};{rw [g9 hb] at h;refine i7 (g7 (f8 (b9 (oM (.int .i64 (-1)) (b6 (g7 (i9 (j4 ?_))))))));cases h;exact ⟨trivial, _, rfl, (a0F rfl (.refl _))⟩}};{rw [g9 hb] at h;refine i7 (g7 (a0o (f8 (b9 (oM (.bool i2) (b6 (g7 (f8 ?_))))))));refine n6 (t := i2) rfl (fun hb => ?_) (fun hb => ?_);{rw [g8 hb] at h;refine f8 (b9 (oM (.int .i64 1) (b6 (g7 (i9 (j4 ?_))))));cases h;exact ⟨trivial, _, rfl, (a0F rfl (.refl _))⟩};{rw [g9 hb] at h;refine i7 (g7 (a0o (f8 (b9 (oM (.int .i64 x00) (oM (.int .i64 y01) (oP (.bool (decide (x00 < y01))) (b6 (g7 (f8 ?_))))))))));refine n6 (t := (decide (x00 < y01))) rfl (fun hb => ?_) (fun hb => ?_);{rw [g8 hb] at h;refine f8 (b9 (oM (.int .i64 (-1)) (b6 (g7 (i9 (j4 ?_))))));cases h;exact ⟨trivial, _, rfl, (a0F rfl (.refl _))⟩};{rw [g9 hb] at h;refine i7 (g7 (a0o (f8 (b9 (oM (.int .i64 x00) (oM (.int .i64 y01) (oP (.bool (decide (x00 > y01))) (b6 (g7 (f8 ?_))))))))));refine n6 (t := (decide (x00 > y01))) rfl (fun hb => ?_) (fun hb => ?_);{rw [g8 hb] at h;refine f8 (b9 (oM (.int .i64 1) (b6 (g7 (i9 (j4 ?_))))));cases h;exact ⟨trivial, _, rfl, (a0F rfl (.refl _))⟩};{rw [g9 hb] at h;refine i7 (g7 (f8 (b9 (oM (.int .i64 0) (b6 (g7 (i9 ?_)))))));cases h;exact ⟨trivial, _, rfl, (a0F rfl (.refl _))⟩}}}}
def d3o : FC := (.seq (.reg [oO 2 (.box (.t 0)), oO 3 (.box (.t 1)), oO 4 (.mv (.v (.int .i64 0)))] []) (.seq (.reg [oO 5 (.fad 1 (.t 2)), oO 6 (.load none (.t 5)), oO 7 (.fad 1 (.t 3)), oO 8 (.load none (.t 7)), ⟨(some 9), none, .call 18 [(.t 6), (.t 8)]⟩, oO 4 (.mv (.t 9))] []) .ret))
theorem d4W : Fn3 Tryd.prog 17 10 [(4, none)] d3o := ⟨_, _, Tryd.func17, rfl, rfl, rfl, by kernel_rfl⟩
def a1M (a00 : b7) (b01 : b7) : Option Int :=
  ((a1w a00.From b01.From).bind fun c1 => (some c1))
theorem a5r {a00 : b7} {b01 : b7} {r : Int} (h : a1M a00 b01 = some r) : n5 Tryd.prog 17 [(b7.av a00), (b7.av b01)] (.int .i64 r) := by
  unfold a1M at h
  refine m0 mixed d4W zS [] 6 ?_
  unfold d3o
  refine f8 ?_
  refine b9 ?_
  refine oP (.cptr (b7.av a00).cells 0) ?_
  refine oP (.cptr (b7.av b01).cells 0) ?_
  refine oM (.int .i64 0) ?_
  refine b6 ?_
  refine g7 ?_
  refine f8 ?_
  refine b9 ?_
  refine oP (.cptr (b7.av a00).cells 1) ?_
  refine oP (.int .i64 a00.From) ?_
  refine oP (.cptr (b7.av b01).cells 1) ?_
  refine oP (.int .i64 b01.From) ?_
  obtain ⟨c1, hc1, h⟩ := c9 h
  refine l7 (a6F  hc1) rfl ⟨(.refl _), (.refl _), trivial⟩ (j5 ⟨rfl, rfl, trivial⟩) rfl ?_
  refine oM (.int .i64 c1) ?_
  refine b6 ?_
  refine g7 ?_
  refine i9 ?_
  cases h
  exact ⟨trivial, _, rfl, (a0F rfl (.refl _))⟩
end
end Go.Proofs.YtepdcebjobjjgaaDoor

