/- What the functions compute, and that they do (printed by wip/gen/gen.py), part 1. -/
import Derived.Test.YtepdcebjobjjgaaDoorWlH2
import Derived.Test.YtepdcebjobjjgaaDoorRows
import Derived.Test.YtepdcebjobjjgaaDoorOrW3
import Derived.Test.YtepdcebjobjjgaaDoorScP3
set_option linter.unusedVariables false
set_option linter.unusedSimpArgs false
namespace Go.Proofs.YtepdcebjobjjgaaDoor
open Go Go.Ab
noncomputable section
set_option maxRecDepth 20000
set_option maxHeartbeats 2000000
noncomputable def c4q : FC := fcO 37
theorem c6z : Fn3 Tryd.prog 37 6 [(2, none)] c4q := ⟨_, _, Tryd.func37, rfl, rfl, rfl, by kernel_rfl⟩
def a2l (x00 : Int) : Option Bool :=
  (some (x00 != x00))
theorem a5Y {x00 : Int} {r : Bool} (h : a2l x00 = some r) : m8 Tryd.prog 37 [(.int .i64 x00)] (.bool r) := by
  unfold a2l at h
  refine k7 mixed c6z zS [] 6 ?_
  unfold c4q
  refine f6 ?_
  refine b8 ?_
  refine oM (.bool false) ?_
  refine b7 ?_
  refine f8 ?_
  refine f6 ?_
  refine b8 ?_
  refine oM (.int .i64 x00) ?_
  refine oM (.int .i64 x00) ?_
  refine oP (.bool (x00 != x00)) ?_
  refine oM (.bool (x00 != x00)) ?_
  refine b7 ?_
  refine f8 ?_
  refine j3 ?_
  cases h
  exact ⟨trivial, _, rfl, (a0Y rfl (.refl _))⟩
noncomputable def c4r : FC := fcO 18
theorem c6A : Fn3 Tryd.prog 18 20 [(4, none)] c4r := ⟨_, _, Tryd.func18, rfl, rfl, rfl, by kernel_rfl⟩
def a1X (x00 : Int) (y01 : Int) : Option Int :=
  ((a2l x00).bind fun i1 => ((a2l y01).bind fun i2 => (if i1 then (if i2 then (some 0) else (some (-1))) else (if i2 then (some 1) else (if (decide (x00 < y01)) then (some (-1)) else (if (decide (x00 > y01)) then (some 1) else (some 0)))))))
theorem a7F {x00 : Int} {y01 : Int} {r : Int} (h : a1X x00 y01 = some r) : m8 Tryd.prog 18 [(.int .i64 x00), (.int .i64 y01)] (.int .i64 r) := by
 unfold a1X at h;refine k7 mixed c6A zS [] 6 ?_;unfold c4r;refine f6 (b8 (oM (.int .i64 0) (b7 (f8 (f6 (b8 (oM (.int .i64 x00) ?_)))))));obtain ⟨i1, hi1, h⟩ := b9 h;refine j6 (a5Y  hi1) rfl ⟨(.refl _), trivial⟩ (i8 ⟨rfl, trivial⟩) rfl (oM (.bool i1) (b7 (f8 (f6 (b8 (oM (.int .i64 y01) ?_))))));obtain ⟨i2, hi2, h⟩ := b9 h;refine j6 (a5Y  hi2) rfl ⟨(.refl _), trivial⟩ (i8 ⟨rfl, trivial⟩) rfl (oM (.bool i2) (b7 (f8 (a0o (f6 (b8 (oM (.bool i1) (b7 (f8 (f6 ?_))))))))));refine m7 (t := i1) rfl (fun hb => ?_) (fun hb => ?_);{rw [g6 hb] at h;refine a0o (f6 (b8 (oM (.bool i2) (b7 (f8 (f6 ?_))))));refine m7 (t := i2) rfl (fun hb => ?_) (fun hb => ?_);{rw [g6 hb] at h;refine f6 (b8 (oM (.int .i64 0) (b7 (f8 (j3 (j7 (j7 ?_)))))));cases h;exact ⟨trivial, _, rfl, (a0Y rfl (.refl _))⟩};{rw [g7 hb] at h;refine i6 (f8 (f6 (b8 (oM (.int .i64 (-1)) (b7 (f8 (j3 (j7 ?_))))))));cases h;exact ⟨trivial, _, rfl, (a0Y rfl (.refl _))⟩}};{rw [g7 hb] at h;refine i6 (f8 (a0o (f6 (b8 (oM (.bool i2) (b7 (f8 (f6 ?_))))))));refine m7 (t := i2) rfl (fun hb => ?_) (fun hb => ?_);{rw [g6 hb] at h;refine f6 (b8 (oM (.int .i64 1) (b7 (f8 (j3 (j7 ?_))))));cases h;exact ⟨trivial, _, rfl, (a0Y rfl (.refl _))⟩};{rw [g7 hb] at h;refine i6 (f8 (a0o (f6 (b8 (oM (.int .i64 x00) (oM (.int .i64 y01) (oP (.bool (decide (x00 < y01))) (b7 (f8 (f6 ?_))))))))));refine m7 (t := (decide (x00 < y01))) rfl (fun hb => ?_) (fun hb => ?_);{rw [g6 hb] at h;refine f6 (b8 (oM (.int .i64 (-1)) (b7 (f8 (j3 (j7 ?_))))));cases h;exact ⟨trivial, _, rfl, (a0Y rfl (.refl _))⟩};{rw [g7 hb] at h;refine i6 (f8 (a0o (f6 (b8 (oM (.int .i64 x00) (oM (.int .i64 y01) (oP (.bool (decide (x00 > y01))) (b7 (f8 (f6 ?_))))))))));refine m7 (t := (decide (x00 > y01))) rfl (fun hb => ?_) (fun hb => ?_);{rw [g6 hb] at h;refine f6 (b8 (oM (.int .i64 1) (b7 (f8 (j3 (j7 ?_))))));cases h;exact ⟨trivial, _, rfl, (a0Y rfl (.refl _))⟩};{rw [g7 hb] at h;refine i6 (f8 (f6 (b8 (oM (.int .i64 0) (b7 (f8 (j3 ?_)))))));cases h;exact ⟨trivial, _, rfl, (a0Y rfl (.refl _))⟩}}}}
noncomputable def c4s : FC := fcO 17
theorem c6B : Fn3 Tryd.prog 17 10 [(4, none)] c4s := ⟨_, _, Tryd.func17, rfl, rfl, rfl, by kernel_rfl⟩
def a2m (a00 : b6) (b01 : b6) : Option Int :=
  ((a1X a00.From b01.From).bind fun c1 => (some c1))
theorem a6i {a00 : b6} {b01 : b6} {r : Int} (h : a2m a00 b01 = some r) : m8 Tryd.prog 17 [(b6.av a00), (b6.av b01)] (.int .i64 r) := by
  unfold a2m at h
  refine k7 mixed c6B zS [] 6 ?_
  unfold c4s
  refine f6 ?_
  refine b8 ?_
  refine oP (.cptr (b6.av a00).cells 0) ?_
  refine oP (.cptr (b6.av b01).cells 0) ?_
  refine oM (.int .i64 0) ?_
  refine b7 ?_
  refine f8 ?_
  refine f6 ?_
  refine b8 ?_
  refine oP (.cptr (b6.av a00).cells 1) ?_
  refine oP (.int .i64 a00.From) ?_
  refine oP (.cptr (b6.av b01).cells 1) ?_
  refine oP (.int .i64 b01.From) ?_
  obtain ⟨c1, hc1, h⟩ := b9 h
  refine j6 (a7F  hc1) rfl ⟨(.refl _), (.refl _), trivial⟩ (i8 ⟨rfl, rfl, trivial⟩) rfl ?_
  refine oM (.int .i64 c1) ?_
  refine b7 ?_
  refine f8 ?_
  refine j3 ?_
  cases h
  exact ⟨trivial, _, rfl, (a0Y rfl (.refl _))⟩
end
end Go.Proofs.YtepdcebjobjjgaaDoor

