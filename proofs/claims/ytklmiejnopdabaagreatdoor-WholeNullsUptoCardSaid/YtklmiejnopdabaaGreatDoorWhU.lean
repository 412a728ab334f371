/- WholeNulls: its four cases. -/
import Derived.Test.YtklmiejnopdabaaGreatDoorWh_na
import Derived.Test.YtklmiejnopdabaaGreatDoorWh_nb
import Derived.Test.YtklmiejnopdabaaGreatDoorWh_nc
import Derived.Test.YtklmiejnopdabaaGreatDoorWh_nd
import Derived.Test.YtklmiejnopdabaaGreatDoorWhH
import Derived.Test.YtklmiejnopdabaaGreatDoorWlM5
import Derived.Test.YtklmiejnopdabaaGreatDoorRows
import Derived.Lib.LaidTab
import Derived.Deep.DeepHandedRow
namespace Go.Proofs.YtklmiejnopdabaaGreatDoor
set_option linter.constructorNameAsVariable false
set_option linter.unusedSimpArgs false
set_option linter.unusedVariables false
open Go Go.Ab Go.RowKit
theorem no_facts {ρ : Env} : FactsOK ρ fs0 := nofun
theorem nulls_law (a b : Bool) (_ : True) (_ : True) : PureEv Tryz.prog 3 [AV.bool a, AV.bool b] (.bool true) := by
  cases a <;> cases b
  · exact na_ev (ρ := env0) no_facts rfl (Nat.le_refl _)
  · exact nc_ev (ρ := env0) no_facts rfl (Nat.le_refl _)
  · exact nb_ev (ρ := env0) no_facts rfl (Nat.le_refl _)
  · exact nd_ev (ρ := env0) no_facts rfl (Nat.le_refl _)
end Go.Proofs.YtklmiejnopdabaaGreatDoor
/- From the row's list to the settings: the table for the trailing zeros; the bulk of arguments. -/
namespace Go.Proofs.YtklmiejnopdabaaGreatDoor
set_option linter.constructorNameAsVariable false
set_option linter.unusedSimpArgs false
set_option linter.unusedVariables false
open Go Go.Ab Go.RowKit
set_option maxRecDepth 20000
set_option linter.unusedVariables false
set_option linter.unusedSimpArgs false
theorem tz_laid : (Rows.laid_math_bits_deBruijn64tab : DataW Unit) = Lib.tabData .u8 tzT := by kernel_rfl
theorem tab_isH {P : Program} {W : World} {nm : String} {k : IntKind} {zs : List Int} {b : Nat} (hg : P.globalNamed nm = some b) (h : Lib.TabIs P W nm k zs) : ∃ t fz, W.heap[b]? = some (.cells (zs.map fun z => Value.int k z).toArray t fz) := by
  unfold Lib.TabIs World.var? at h
  rw [hg, Option.bind_some] at h
  cases e2 : W.heap[b]? with
  | none => rw [e2] at h; cases h
  | some o =>
    rw [e2] at h
    cases o with
    | cells c t fz => cases h; exact ⟨t, fz, rfl⟩
    | _ => cases h
theorem tab_of {nm : String} (h0 : Tryz.prog.globalNamed nm = some 1) {W : World} (h : laidMet Tryz.prog [(nm, Rows.laid_math_bits_deBruijn64tab)] W) : TabOK W.heap.size W := by
  have h' := h
  rw [tz_laid] at h'
  have hp := Lib.tabIs_of_head (rest := []) h0 (t := 407) (e := 5) (n := 64) (by kernel_rfl) Tryz.underlying407 Tryz.underlying5 (by kernel_rfl) (by kernel_rfl) h'
  obtain ⟨t, fz, q⟩ := tab_isH h0 hp
  intro b p e
  match b, e with
  | 1, e => cases Option.some.inj e; exact ⟨(Array.getElem?_eq_some_iff.1 q).1, _, t, fz, q, rfl⟩
  | 0, e => cases e
  | n + 2, e => cases e
theorem part_le {H : Type} {d : DataW H} {l : List (DataW H)} (h : d ∈ l) : Rows.uptoBulk d ≤ Rows.uptoBulkAll l := by
  induction l with
  | nil => cases h
  | cons x r ih =>
    simp only [Rows.uptoBulkAll]
    rcases List.mem_cons.1 h with e | e
    · subst e; omega
    · have := ih e; omega
theorem one_le {H : Type} (d : DataW H) : 1 ≤ Rows.uptoBulk d := by
  cases d with
  | lit l => cases l <;> simp [Rows.uptoBulk]
  | _ => simp [Rows.uptoBulk]
theorem length_le {H : Type} (l : List (DataW H)) : l.length ≤ Rows.uptoBulkAll l := by
  induction l with
  | nil => simp [Rows.uptoBulkAll]
  | cons x r ih => have := one_le x; simp only [Rows.uptoBulkAll, List.length_cons]; omega
theorem bulk {H : Type} : Bulk (H := H) Rows.uptoBulk :=
  ⟨fun bytes => by simp [Rows.uptoBulk], fun e s => by have := length_le e; simp only [Rows.uptoBulk]; omega, fun e s d h => by have := part_le h; simp only [Rows.uptoBulk]; omega, fun p d h => by have := part_le h; simp only [Rows.uptoBulk]; omega⟩
theorem own : ownKnob Tryz.prog.godebug = none := by kernel_rfl
theorem laidOut : laidOutB Tryz.prog = true := by kernel_rfl
end Go.Proofs.YtklmiejnopdabaaGreatDoor
