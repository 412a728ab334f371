/- KindsFollow: what is reached goes on to what is reached. -/
import Derived.Test.YtiocagilhbomgaaKdL6
namespace Go.Proofs.Ytiocagilhbomgaa
open Go Go.Ab Go.RowKit
set_option maxRecDepth 20000
set_option linter.unusedVariables false
set_option linter.unusedSimpArgs false

theorem bind_eq {α β : Type} {x : Option α} {F : α → Option β} {r : β} (h : ∃ o, x = some o ∧ F o = some r) : x.bind F = some r := by
  obtain ⟨o, rfl, h⟩ := h
  exact h

theorem follow_law (p : Program) (hp : Program.Ok 1048576 p) : windlasslaw05_KindsFollow_s 1048577 p = some true := by
  have hl : p.Funcs.length ≤ 1048576 := hp.1
  obtain ⟨o, ho, ha⟩ := Check_ok p hl
  unfold windlasslaw05_KindsFollow_s
  have e1 : windlasslaw05_first_s 1048577 = some true := by kernel_rfl
  rw [e1, ho]
  simp only [Option.bind_some, Bool.not_true, Bool.false_eq_true, if_false]
  rcases ha with ⟨_, rfl⟩ | ⟨_, _, rfl⟩ | ⟨_, _, _, rfl⟩ | ⟨_, _, rfl⟩ | ⟨_, _, _, rfl⟩ | ⟨hg, hnd, T, rfl, hT1, hT2, hT⟩
  · rfl
  · rfl
  · rfl
  · rfl
  · rfl
  simp only [jp, bne_self_eq_false, Bool.false_eq_true, if_false, Option.isNone_some, Option.bind_some]
  refine bind_eq (rng_ex (fun _ _ => True) _ (by omega) trivial (fun i g s hi _ => .inl ⟨(), ?_, trivial⟩) (fun s _ => rfl))
  obtain ⟨rd, st, h1, h2, R, hR, h3, h4, h5⟩ := hT i g hi
  have hmem := List.mem_of_getElem? hi
  have hF := goodP_ok hg hmem
  obtain ⟨hn1, hn2⟩ := hF.n
  have hn0 := h5 0 (by omega)
  rw [hR.1] at hn0
  rw [getI_nat, h1]
  simp only [Option.bind_some]
  rw [show (0 : Int) = ((0 : Nat) : Int) from rfl, getI_nat, hn0.1]
  simp only [Option.bind_some, Option.isSome_some, Bool.not_true, Bool.false_eq_true, if_false]
  rw [getI_nat, h2]
  simp only [Option.bind_some]
  rw [getI_nat, hn0.2]
  simp only [Option.bind_some, Option.getD_some, List.length_nil]
  simp only [bne_self_eq_false, Bool.false_eq_true, if_false]
  refine bind_eq (rng_ex (fun _ _ => True) _ (by omega) trivial (fun a x s hx _ => .inl ⟨(), ?_, trivial⟩) (fun s _ => rfl))
  have halt := (List.getElem?_eq_some_iff.1 hx).1
  obtain ⟨ra, sa⟩ := h5 a halt
  rw [getI_nat, ra]
  simp only [Option.bind_some]
  cases hRa : R a with
  | none => rfl
  | some y =>
    rw [hRa] at sa
    simp only [Option.isSome_some, Bool.not_true, Bool.false_eq_true, if_false]
    rw [getI_nat, sa]
    simp only [Option.bind_some, Option.getD_some]
    obtain ⟨hd, x2, y', d1, d2, d3⟩ := hR.2 a y hRa
    rw [hx] at d1; cases d1
    have hy := hd.le (hnd g hmem)
    have c1 : ¬ ((List.length y : Int) > 16) := by omega
    have hreach : ∀ b : Int, b ∈ folL x a → ∃ m : Nat, b = m ∧ m < g.Code.length ∧ rd[m]? = some true := fun b hb => by
      obtain ⟨m, m1, m2, m3⟩ := d3 b hb
      have := (h5 m m2).1
      rw [m3] at this
      exact ⟨m, m1, m2, this⟩
    simp only [decide_eq_false c1, Bool.false_eq_true, if_false]
    have hsucc : x.Op ≠ 21 → ¬ (x.Op = 24 ∨ x.Op = 26 ∨ x.Op = 30) → ¬ (I64 ((a : Int) + 1) ≥ (List.length g.Code : Int)) ∧ getI rd (I64 ((a : Int) + 1)) = some true := fun h21 he => by
      have hb : (a : Int) + 1 ∈ folL x a := by
        unfold folL
        rw [if_neg h21]
        split
        · simp
        · simp
      obtain ⟨m, m1, m2, m3⟩ := hreach _ hb
      rw [I64_of (by omega), m1, getI_nat]
      exact ⟨by omega, m3⟩
    have harg : x.Op = 21 ∨ x.Op = 22 → getI rd x.Arg = some true := fun h => by
      have hb : x.Arg ∈ folL x a := by
        unfold folL
        rcases h with h | h <;> simp [h]
      obtain ⟨m, m1, m2, m3⟩ := hreach _ hb
      rw [m1, getI_nat]; exact m3
    by_cases e24 : x.Op = 24
    · have hl := step_ret d2 e24
      have c2 : (g.Result == ((List.length y : Int) == 1)) = true := by
        rw [hl]; cases g.Result <;> rfl
      have c3 : ¬ ((List.length y : Int) > 1) := by rw [hl]; split <;> decide
      simp only [e24, c2, decide_eq_false c3]
      rfl
    have n24 : (x.Op == 24) = false := by simpa using e24
    by_cases e26 : x.Op = 26
    · simp only [e26]; rfl
    have n26 : (x.Op == 26) = false := by simpa using e26
    by_cases e30 : x.Op = 30
    · simp only [e30]; rfl
    have n30 : (x.Op == 30) = false := by simpa using e30
    have hne : ¬ (x.Op = 24 ∨ x.Op = 26 ∨ x.Op = 30) := by
      rintro (h | h | h)
      · exact e24 h
      · exact e26 h
      · exact e30 h
    simp only [n24, n26, n30, Bool.false_eq_true, if_false, Bool.not_false, if_true]
    by_cases e21 : x.Op = 21
    · simp only [e21]
      rw [harg (.inl e21)]
      rfl
    · have n21 : (x.Op != 21) = true := by simpa using e21
      have n21' : (x.Op == 21) = false := by simpa using e21
      obtain ⟨s1, s2⟩ := hsucc e21 hne
      simp only [n21, n21', if_true, decide_eq_false s1, Bool.false_eq_true, if_false]
      rw [s2]
      simp only [Option.bind_some, Bool.not_true, Bool.false_eq_true, if_false]
      by_cases e22 : x.Op = 22
      · have n22 : (x.Op == 22) = true := by simpa using e22
        simp only [n22, if_true]
        rw [harg (.inr e22)]
        rfl
      · have n22 : (x.Op == 22) = false := by simpa using e22
        simp only [n22, Bool.false_eq_true, if_false]
end Go.Proofs.Ytiocagilhbomgaa
