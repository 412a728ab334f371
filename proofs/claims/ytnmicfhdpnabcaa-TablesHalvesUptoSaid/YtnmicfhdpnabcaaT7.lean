/- TablesHalves: the statement. -/
import Derived.Test.YtnmicfhdpnabcaaT6
import Derived.WalkKit
import Derived.ProofKit
import Derived.OpenShut
import Derived.JoinedCond
namespace Go.Proofs.Ytnmicfhdpnabcaa
open Go Go.Ab Go.RowKit
set_option maxRecDepth 20000
set_option linter.unusedVariables false
set_option linter.unusedSimpArgs false

theorem part_le {H : Type} {d : DataW H} {l : List (DataW H)} (h : d ∈ l) : Rows.uptoBulk d ≤ Rows.uptoBulkAll l := by
  induction l with
  | nil => cases h
  | cons x r ih =>
    simp only [Rows.uptoBulkAll]
    rcases List.mem_cons.1 h with e | e
    · subst e; omega
    · have := ih e; omega
theorem one_le {H : Type} (d : DataW H) : 1 ≤ Rows.uptoBulk d := by
  cases d with
  | lit l => cases l <;> simp [Rows.uptoBulk]
  | _ => simp [Rows.uptoBulk]
theorem length_le {H : Type} (l : List (DataW H)) : l.length ≤ Rows.uptoBulkAll l := by
  induction l with
  | nil => simp [Rows.uptoBulkAll]
  | cons x r ih => have := one_le x; simp only [Rows.uptoBulkAll, List.length_cons]; omega
theorem bulk {H : Type} : Bulk (H := H) Rows.uptoBulk :=
  ⟨fun bytes => by simp [Rows.uptoBulk], fun e s => by have := length_le e; simp only [Rows.uptoBulk]; omega, fun e s d h => by have := part_le h; simp only [Rows.uptoBulk]; omega, fun p d h => by have := part_le h; simp only [Rows.uptoBulk]; omega⟩

theorem ints_of {N : Nat} {x : AV} {t e : TypeId} (h : Arg Try.prog N t x) (ht : Try.prog.underlying t = some (.slice e)) (he : Try.prog.underlying e = some (.int .i64)) (hc : Try.prog.cellsOf e = 1) : ∃ l : List Int, x = .sl false 1 (l.map iav) ∧ l.length ≤ N := by
  obtain ⟨h1, h2⟩ := h
  have h2 : x.cells = [x] := by
    rcases h2 with ⟨⟨fs, h⟩, _⟩ | ⟨_, h⟩
    · rw [ht] at h; cases h
    · exact h
  rw [h2] at h1
  generalize hq : [x] = q at h1
  cases h1 with
  | bool h => rw [ht] at h; cases h
  | int h => rw [ht] at h; cases h
  | str h => rw [ht] at h; cases h
  | struct h => rw [ht] at h; cases h
  | sl h hl hx ha =>
    rename_i xs
    rw [ht] at h
    cases h
    obtain rfl := List.cons.inj hq |>.1
    rw [hc]
    have key : ∀ y ∈ xs, ∃ n : Int, y = iav n ∧ True := fun y hy => by
      have hcy : y.cells = [y] := by
        rcases ha y hy with ⟨⟨fs, h⟩, _⟩ | ⟨_, h⟩
        · rw [he] at h; cases h
        · exact h
      have h1 := hx y hy
      rw [hcy] at h1
      generalize hq2 : [y] = q2 at h1
      cases h1 with
      | bool h => rw [he] at h; cases h
      | str h => rw [he] at h; cases h
      | struct h => rw [he] at h; cases h
      | sl h => rw [he] at h; cases h
      | int h =>
        rw [he] at h
        cases h
        exact ⟨_, (List.cons.inj hq2).1, trivial⟩
    obtain ⟨l, rfl, _⟩ := exists_map (f := iav) (Q := fun _ => True) key
    exact ⟨l, rfl, by simpa using hl⟩

namespace halves
open Go.ChangeShapes Go.WideShapes Go.ChangeAt

theorem own : ownKnob Try.prog.godebug = none := by kernel_rfl
theorem laidOut : laidOutB Try.prog = true := by kernel_rfl

theorem contract (H : Type) (enc : TypeId × Value → H) (W : World) (base : Nat) (args : Array Value) (ds gs : List (DataW H)) (before : List MemPlace)
    (hval : ∀ (j : Nat) t v, Try.f3.params[j]? = some t → args[j]? = some v → Value.okWide Try.prog W .any base t v)
    (hW : DataW.Whole enc Try.prog Try.f3.params.toList Rows.tablesHalvesSpec.vars false W args.toList ds gs before) (hk : Rows.uptoSmall H (ds ++ gs) = true) :
    Calls Try.prog 3 args W fun e W' => ∃ v, e = .returned v ∧ Rows.tablesHalvesSpec.post enc Try.prog Try.f3 false true false false W args v W' := by
  have hW' := hW
  have hlt := hW.lt
  obtain ⟨p, q, hA0, hV, rfl, hfz, hnd⟩ := hW
  have hA : DataW.TrodAll enc Try.prog W 0 (fun _ => true) true Try.f3.params.toList args.toList ds p := hA0
  rw [Try.params3] at hA hval
  obtain ⟨v0, vs0, d0, ds0, p0, q0, hargs, rfl, rfl, h0, r0⟩ := trodAll_cons hA
  obtain ⟨rfl, rfl, rfl⟩ := trodAll_nil r0
  obtain rfl : args = #[v0] := by cases args; simp_all
  obtain ⟨rfl, rfl⟩ := trodVars_none hV
  have hbk : Rows.uptoBulk d0 ≤ 1048576 := by simpa [Rows.uptoSmall, Rows.uptoBulkAll] using hk
  obtain ⟨x, hx, hvr⟩ := arg_av (m := 8) bulk (hval 0 22 v0 rfl rfl) h0 (by kernel_rfl) (by kernel_rfl) hbk
  obtain ⟨l, rfl, hl⟩ := ints_of hx Try.underlying22 Try.underlying3 (by kernel_rfl)
  refine (law_true (W := W) (halves_ev l hl) (VRs1 hvr)).mono fun e W' ⟨he, hb⟩ => ?_
  subst he
  refine ⟨_, rfl, post_true (pa := p0 ++ []) hW' rfl rfl rfl rfl rfl rfl Try.underlying4 hb ?_⟩
  rw [Try.params3]
  exact ⟨p0, [], Below.trod laidOut (by kernel_rfl) (of_decide_eq_true (by kernel_rfl)) h0 hb (fun y hy => hlt y (by simpa using hy)), rfl, rfl⟩

set_option maxRecDepth 100000 in
theorem lifted (os : Os) (started : os.Started) (H : Type) (enc : TypeId × Value → H) (F : Stop.Interp) :
    ReturnsInHanded {} Try.checked os 3 .any ((Rows.OpenSpec.upto Rows.tablesHalvesSpec).pre6 enc Try.prog Try.f3 Rows.tablesHalvesUptoRow.domain false) (((Rows.OpenSpec.upto Rows.tablesHalvesSpec).at F).post enc Try.prog Try.f3 false true false false) := by
  refine returnsInHanded_of_cond (C := Try.checked) (s := Rows.OpenSpec.upto Rows.tablesHalvesSpec) (k := Rows.uptoSmall) rfl own started (by kernel_rfl) Try.func3
    (OpenSpec.witness (enc := enc) (C := Try.checked) (s := Rows.OpenSpec.upto Rows.tablesHalvesSpec) (k := Rows.uptoSmall) rfl false ⟨#[], #[.slice none 0 0], []⟩ 8 (by kernel_rfl) (by kernel_rfl) (by kernel_rfl)
      (x := ([.nil], [], [])) (by kernel_rfl) rfl (by kernel_rfl)) ?_
  intro W base args ds gs before hval hW _ hk _
  exact contract H enc W base args ds gs before hval hW hk

theorem over : Rows.tablesHalvesUptoRow.holds Try.pinned (Rows.OpenSpec.upto Rows.tablesHalvesSpec) :=
  OpenClaim.holds_of_cond 3 Try.f3 rfl rfl rfl rfl rfl rfl rfl ⟨rfl, rfl, rfl, rfl, rfl⟩ rfl rfl rfl rfl rfl (by kernel_rfl) Try.func3 (by kernel_rfl)
    (of_decide_eq_true (by kernel_rfl)) (by unfold Func.isWrapper; first | (rw [if_pos (by decide +kernel)]; kernel_rfl) | (rw [if_neg (by decide +kernel)]; exact ⟨rfl, rfl⟩))
    (fun os started H enc _ F => lifted os started H enc F)

theorem proved : Rows.TablesHalvesUptoSaid := over
end halves
end Go.Proofs.Ytnmicfhdpnabcaa
