/- How arguments are read. -/
import Derived.Test.YtnmicfhdpnabcaaGenT
import Derived.Test.YtnmicfhdpnabcaaWlR
import Derived.WalkKit
import Derived.ProofKit
import Derived.OpenShut
import Derived.JoinedCond
namespace Go.Proofs.Ytnmicfhdpnabcaa
open Go Go.Ab Go.RowKit
set_option maxRecDepth 20000
set_option linter.unusedVariables false
set_option linter.unusedSimpArgs false
theorem part_le {H : Type} {d : DataW H} {l : List (DataW H)} (h : d ∈ l) : Rows.uptoBulk d ≤ Rows.uptoBulkAll l := by
  induction l with
  | nil => cases h
  | cons x r ih =>
    simp only [Rows.uptoBulkAll]
    rcases List.mem_cons.1 h with e | e
    · subst e; omega
    · have := ih e; omega
theorem one_le {H : Type} (d : DataW H) : 1 ≤ Rows.uptoBulk d := by
  cases d with
  | lit l => cases l <;> simp [Rows.uptoBulk]
  | _ => simp [Rows.uptoBulk]
theorem length_le {H : Type} (l : List (DataW H)) : l.length ≤ Rows.uptoBulkAll l := by
  induction l with
  | nil => simp [Rows.uptoBulkAll]
  | cons x r ih => have := one_le x; simp only [Rows.uptoBulkAll, List.length_cons]; omega
theorem bulk {H : Type} : Bulk (H := H) Rows.uptoBulk :=
  ⟨fun bytes => by simp [Rows.uptoBulk], fun e s => by have := length_le e; simp only [Rows.uptoBulk]; omega, fun e s d h => by have := part_le h; simp only [Rows.uptoBulk]; omega, fun p d h => by have := part_le h; simp only [Rows.uptoBulk]; omega⟩

theorem cells3 : Try.prog.cellsOf 3 = 1 := by kernel_rfl
theorem cells57 : Try.prog.cellsOf 57 = 1 := by kernel_rfl
theorem cells59 : Try.prog.cellsOf 59 = 2 := by kernel_rfl
def Save.Ok (N : Nat) (x : Save) : Prop := (fun n => (Lit.int .i64 n).wf = true) x.Reg ∧ (fun n => (Lit.int .i64 n).wf = true) x.Off
theorem Save.rd {N : Nat} : Rd Try.prog N Save.av (Save.Ok N) 59 := by
  intro avs ht
  obtain ⟨hl, hf⟩ := ty_struct Try.underlying59 ht
  have e0 : Ty Try.prog N 3 ((avs.drop 0).take (Try.prog.cellsOf 3)) := hf 0 _ rfl
  rw [cells3] at e0
  obtain ⟨a0, h0, q0⟩ := (rdI Try.underlying3) _ e0
  have e1 : Ty Try.prog N 3 ((avs.drop 1).take (Try.prog.cellsOf 3)) := hf 1 _ rfl
  rw [cells3] at e1
  obtain ⟨a1, h1, q1⟩ := (rdI Try.underlying3) _ e1
  refine ⟨⟨a0, a1⟩, ?_, ⟨q0, q1⟩⟩
  have := (st_cons h0 (st_cons h1 (st_nil (hl.trans cells59))))
  exact this
theorem cells29 : Try.prog.cellsOf 29 = 1 := by kernel_rfl
theorem cells30 : Try.prog.cellsOf 30 = 1 := by kernel_rfl
theorem cells32 : Try.prog.cellsOf 32 = 6 := by kernel_rfl
def FuncRow.Ok (N : Nat) (x : FuncRow) : Prop := (fun n => (Lit.int .i64 n).wf = true) x.Start ∧ (fun n => (Lit.int .i64 n).wf = true) x.Stop ∧ (fun n => (Lit.int .i64 n).wf = true) x.Size ∧ (fun l => List.length l ≤ N ∧ ∀ a ∈ l, (fun n => (Lit.int .u8 n).wf = true) a) x.Params ∧ (fun l => List.length l ≤ N ∧ ∀ a ∈ l, (Save.Ok N) a) x.Saves ∧ (fun n => (Lit.int .i64 n).wf = true) x.Resume
theorem FuncRow.rd {N : Nat} : Rd Try.prog N FuncRow.av (FuncRow.Ok N) 32 := by
  intro avs ht
  obtain ⟨hl, hf⟩ := ty_struct Try.underlying32 ht
  have e0 : Ty Try.prog N 3 ((avs.drop 0).take (Try.prog.cellsOf 3)) := hf 0 _ rfl
  rw [cells3] at e0
  obtain ⟨a0, h0, q0⟩ := (rdI Try.underlying3) _ e0
  have e1 : Ty Try.prog N 3 ((avs.drop 1).take (Try.prog.cellsOf 3)) := hf 1 _ rfl
  rw [cells3] at e1
  obtain ⟨a1, h1, q1⟩ := (rdI Try.underlying3) _ e1
  have e2 : Ty Try.prog N 3 ((avs.drop 2).take (Try.prog.cellsOf 3)) := hf 2 _ rfl
  rw [cells3] at e2
  obtain ⟨a2, h2, q2⟩ := (rdI Try.underlying3) _ e2
  have e3 : Ty Try.prog N 29 ((avs.drop 3).take (Try.prog.cellsOf 29)) := hf 3 _ rfl
  rw [cells29] at e3
  obtain ⟨a3, h3, q3⟩ := (rdL (encI .u8) (fun fs h => by rw [Try.underlying57] at h; cases h) Try.underlying29 cells57 (rdI Try.underlying57)) _ e3
  have e4 : Ty Try.prog N 30 ((avs.drop 4).take (Try.prog.cellsOf 30)) := hf 4 _ rfl
  rw [cells30] at e4
  obtain ⟨a4, h4, q4⟩ := (rdL Save.enc ⟨_, Try.underlying59⟩ Try.underlying30 cells59 Save.rd) _ e4
  have e5 : Ty Try.prog N 3 ((avs.drop 5).take (Try.prog.cellsOf 3)) := hf 5 _ rfl
  rw [cells3] at e5
  obtain ⟨a5, h5, q5⟩ := (rdI Try.underlying3) _ e5
  refine ⟨⟨a0, a1, a2, a3, a4, a5⟩, ?_, ⟨q0, q1, q2, q3, q4, q5⟩⟩
  have := (st_cons h0 (st_cons h1 (st_cons h2 (st_cons h3 (st_cons h4 (st_cons h5 (st_nil (hl.trans cells32))))))))
  exact this
theorem cells22 : Try.prog.cellsOf 22 = 1 := by kernel_rfl
theorem cells40 : Try.prog.cellsOf 40 = 2 := by kernel_rfl
def Site.Ok (N : Nat) (x : Site) : Prop := (fun n => (Lit.int .i64 n).wf = true) x.At ∧ (fun l => List.length l ≤ N ∧ ∀ a ∈ l, (fun n => (Lit.int .i64 n).wf = true) a) x.Live
theorem Site.rd {N : Nat} : Rd Try.prog N Site.av (Site.Ok N) 40 := by
  intro avs ht
  obtain ⟨hl, hf⟩ := ty_struct Try.underlying40 ht
  have e0 : Ty Try.prog N 3 ((avs.drop 0).take (Try.prog.cellsOf 3)) := hf 0 _ rfl
  rw [cells3] at e0
  obtain ⟨a0, h0, q0⟩ := (rdI Try.underlying3) _ e0
  have e1 : Ty Try.prog N 22 ((avs.drop 1).take (Try.prog.cellsOf 22)) := hf 1 _ rfl
  rw [cells22] at e1
  obtain ⟨a1, h1, q1⟩ := (rdL (encI .i64) (fun fs h => by rw [Try.underlying3] at h; cases h) Try.underlying22 cells3 (rdI Try.underlying3)) _ e1
  refine ⟨⟨a0, a1⟩, ?_, ⟨q0, q1⟩⟩
  have := (st_cons h0 (st_cons h1 (st_nil (hl.trans cells40))))
  exact this
theorem cells24 : Try.prog.cellsOf 24 = 1 := by kernel_rfl
theorem cells25 : Try.prog.cellsOf 25 = 1 := by kernel_rfl
theorem cells27 : Try.prog.cellsOf 27 = 2 := by kernel_rfl
def Tables.Ok (N : Nat) (x : Tables) : Prop := (fun l => List.length l ≤ N ∧ ∀ a ∈ l, (FuncRow.Ok N) a) x.Funcs ∧ (fun l => List.length l ≤ N ∧ ∀ a ∈ l, (Site.Ok N) a) x.Sites
theorem Tables.rd {N : Nat} : Rd Try.prog N Tables.av (Tables.Ok N) 27 := by
  intro avs ht
  obtain ⟨hl, hf⟩ := ty_struct Try.underlying27 ht
  have e0 : Ty Try.prog N 24 ((avs.drop 0).take (Try.prog.cellsOf 24)) := hf 0 _ rfl
  rw [cells24] at e0
  obtain ⟨a0, h0, q0⟩ := (rdL FuncRow.enc ⟨_, Try.underlying32⟩ Try.underlying24 cells32 FuncRow.rd) _ e0
  have e1 : Ty Try.prog N 25 ((avs.drop 1).take (Try.prog.cellsOf 25)) := hf 1 _ rfl
  rw [cells25] at e1
  obtain ⟨a1, h1, q1⟩ := (rdL Site.enc ⟨_, Try.underlying40⟩ Try.underlying25 cells40 Site.rd) _ e1
  refine ⟨⟨a0, a1⟩, ?_, ⟨q0, q1⟩⟩
  have := (st_cons h0 (st_cons h1 (st_nil (hl.trans cells27))))
  exact this
theorem cells5 : Try.prog.cellsOf 5 = 1 := by kernel_rfl

theorem own : ownKnob Try.prog.godebug = none := by kernel_rfl
theorem laidOut : laidOutB Try.prog = true := by kernel_rfl
end Go.Proofs.Ytnmicfhdpnabcaa
