/- What the functions compute, and that they do (printed by wip/gen/gen.py), part 1. -/
import Derived.Test.YtepdcebjobjjgaaDoorWlH2
import Derived.Test.YtepdcebjobjjgaaDoorRows
import Derived.Test.YtepdcebjobjjgaaDoorOrW3
import Derived.Test.YtepdcebjobjjgaaDoorScP3
set_option linter.unusedVariables false
set_option linter.unusedSimpArgs false
namespace Go.Proofs.YtepdcebjobjjgaaDoor
open Go Go.Ab
noncomputable section
set_option maxRecDepth 20000
set_option maxHeartbeats 2000000
noncomputable def c4p : FC := fcO 37
theorem c6B : Fn3 Tryd.prog 37 6 [(2, none)] c4p := ⟨_, _, Tryd.func37, rfl, rfl, rfl, by kernel_rfl⟩
def a2x (x00 : Int) : Option Bool :=
  (some (x00 != x00))
theorem a6h {x00 : Int} {r : Bool} (h : a2x x00 = some r) : m5 Tryd.prog 37 [(.int .i64 x00)] (.bool r) := by
  unfold a2x at h
  refine k6 mixed c6B zS [] 6 ?_
  unfold c4p
  refine d9 ?_
  refine b8 ?_
  refine oM (.bool false) ?_
  refine b7 ?_
  refine f5 ?_
  refine d9 ?_
  refine b8 ?_
  refine oM (iZ x00) ?_
  refine oM (iZ x00) ?_
  refine oP (.bool (x00 != x00)) ?_
  refine oM (.bool (x00 != x00)) ?_
  refine b7 ?_
  refine f5 ?_
  refine j5 ?_
  cases h
  exact ⟨trivial, _, rfl, (a0k rfl (.refl _))⟩
noncomputable def c4q : FC := fcO 18
theorem c6C : Fn3 Tryd.prog 18 20 [(4, none)] c4q := ⟨_, _, Tryd.func18, rfl, rfl, rfl, by kernel_rfl⟩
def a2g (x00 : Int) (y01 : Int) : Option Int :=
  ((a2x x00).bind fun i1 => ((a2x y01).bind fun i2 => (if i1 then (if i2 then (some 0) else (some (-1))) else (if i2 then (some 1) else (if (decide (x00 < y01)) then (some (-1)) else (if (decide (x00 > y01)) then (some 1) else (some 0)))))))
theorem a7V {x00 : Int} {y01 : Int} {r : Int} (h : a2g x00 y01 = some r) : m5 Tryd.prog 18 [(.int .i64 x00), (.int .i64 y01)] (.int .i64 r) := by
 unfold a2g at h;refine k6 mixed c6C zS [] 6 ?_;unfold c4q;refine d9 (b8 (oM (iZ 0) (b7 (f5 (d9 (b8 (oM (iZ x00) ?_)))))));obtain ⟨i1, hi1, h⟩ := b9 h;refine j4 (a6h  hi1) rfl ⟨(.refl _), trivial⟩ (i6 ⟨rfl, trivial⟩) rfl (oM (.bool i1) (b7 (f5 (d9 (b8 (oM (iZ y01) ?_))))));obtain ⟨i2, hi2, h⟩ := b9 h;refine j4 (a6h  hi2) rfl ⟨(.refl _), trivial⟩ (i6 ⟨rfl, trivial⟩) rfl (oM (.bool i2) (b7 (f5 (x9 (d9 (b8 (oM (.bool i1) (b7 (f5 (d9 ?_))))))))));refine xC h ?_ ?_;{intro h;refine x9 (d9 (b8 (oM (.bool i2) (b7 (f5 (d9 ?_))))));refine xC h ?_ ?_;{intro h;refine d9 (b8 (oM (iZ 0) (b7 (f5 (j5 (m7 (m7 ?_)))))));cases h;exact ⟨trivial, _, rfl, (a0k rfl (.refl _))⟩};{intro h;refine i7 (f5 (d9 (b8 (oM (iZ (-1)) (b7 (f5 (j5 (m7 ?_))))))));cases h;exact ⟨trivial, _, rfl, (a0k rfl (.refl _))⟩}};{intro h;refine i7 (f5 (x9 (d9 (b8 (oM (.bool i2) (b7 (f5 (d9 ?_))))))));refine xC h ?_ ?_;{intro h;refine d9 (b8 (oM (iZ 1) (b7 (f5 (j5 (m7 ?_))))));cases h;exact ⟨trivial, _, rfl, (a0k rfl (.refl _))⟩};{intro h;refine i7 (f5 (x9 (d9 (b8 (oM (iZ x00) (oM (iZ y01) (oP (.bool (decide (x00 < y01))) (b7 (f5 (d9 ?_))))))))));refine xC h ?_ ?_;{intro h;refine d9 (b8 (oM (iZ (-1)) (b7 (f5 (j5 (m7 ?_))))));cases h;exact ⟨trivial, _, rfl, (a0k rfl (.refl _))⟩};{intro h;refine i7 (f5 (x9 (d9 (b8 (oM (iZ x00) (oM (iZ y01) (oP (.bool (decide (x00 > y01))) (b7 (f5 (d9 ?_))))))))));refine xC h ?_ ?_;{intro h;refine d9 (b8 (oM (iZ 1) (b7 (f5 (j5 (m7 ?_))))));cases h;exact ⟨trivial, _, rfl, (a0k rfl (.refl _))⟩};{intro h;refine i7 (f5 (d9 (b8 (oM (iZ 0) (b7 (f5 (j5 ?_)))))));cases h;exact ⟨trivial, _, rfl, (a0k rfl (.refl _))⟩}}}}
noncomputable def c4r : FC := fcO 17
theorem c6D : Fn3 Tryd.prog 17 10 [(4, none)] c4r := ⟨_, _, Tryd.func17, rfl, rfl, rfl, by kernel_rfl⟩
def a2y (a00 : b6) (b01 : b6) : Option Int :=
  ((a2g a00.From b01.From).bind fun c1 => (some c1))
theorem a6r {a00 : b6} {b01 : b6} {r : Int} (h : a2y a00 b01 = some r) : m5 Tryd.prog 17 [(b6.av a00), (b6.av b01)] (.int .i64 r) := by
  unfold a2y at h
  refine k6 mixed c6D zS [] 6 ?_
  unfold c4r
  refine d9 ?_
  refine b8 ?_
  refine oP (pC (b6.av a00) 0) ?_
  refine oP (pC (b6.av b01) 0) ?_
  refine oM (iZ 0) ?_
  refine b7 ?_
  refine f5 ?_
  refine d9 ?_
  refine b8 ?_
  refine oP (pC (b6.av a00) 1) ?_
  refine oP (iZ a00.From) ?_
  refine oP (pC (b6.av b01) 1) ?_
  refine oP (iZ b01.From) ?_
  obtain ⟨c1, hc1, h⟩ := b9 h
  refine j4 (a7V  hc1) rfl ⟨(.refl _), (.refl _), trivial⟩ (i6 ⟨rfl, rfl, trivial⟩) rfl ?_
  refine oM (iZ c1) ?_
  refine b7 ?_
  refine f5 ?_
  refine j5 ?_
  cases h
  exact ⟨trivial, _, rfl, (a0k rfl (.refl _))⟩
end
end Go.Proofs.YtepdcebjobjjgaaDoor

