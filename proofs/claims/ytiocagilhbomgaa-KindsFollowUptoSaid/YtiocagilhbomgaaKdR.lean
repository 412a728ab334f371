/- How arguments are read. -/
import Derived.Test.YtiocagilhbomgaaGenK
import Derived.Test.YtiocagilhbomgaaWlR
import Derived.WalkKit
import Derived.ProofKit
import Derived.OpenShut
import Derived.JoinedCond
namespace Go.Proofs.Ytiocagilhbomgaa
open Go Go.Ab Go.RowKit
set_option maxRecDepth 20000
set_option linter.unusedVariables false
set_option linter.unusedSimpArgs false
theorem part_le {H : Type} {d : DataW H} {l : List (DataW H)} (h : d ∈ l) : Rows.uptoBulk d ≤ Rows.uptoBulkAll l := by
  induction l with
  | nil => cases h
  | cons x r ih =>
    simp only [Rows.uptoBulkAll]
    rcases List.mem_cons.1 h with e | e
    · subst e; omega
    · have := ih e; omega
theorem one_le {H : Type} (d : DataW H) : 1 ≤ Rows.uptoBulk d := by
  cases d with
  | lit l => cases l <;> simp [Rows.uptoBulk]
  | _ => simp [Rows.uptoBulk]
theorem length_le {H : Type} (l : List (DataW H)) : l.length ≤ Rows.uptoBulkAll l := by
  induction l with
  | nil => simp [Rows.uptoBulkAll]
  | cons x r ih => have := one_le x; simp only [Rows.uptoBulkAll, List.length_cons]; omega
theorem bulk {H : Type} : Bulk (H := H) Rows.uptoBulk :=
  ⟨fun bytes => by simp [Rows.uptoBulk], fun e s => by have := length_le e; simp only [Rows.uptoBulk]; omega, fun e s d h => by have := part_le h; simp only [Rows.uptoBulk]; omega, fun p d h => by have := part_le h; simp only [Rows.uptoBulk]; omega⟩

theorem cells57 : Try.prog.cellsOf 57 = 1 := by kernel_rfl
theorem cells48 : Try.prog.cellsOf 48 = 1 := by kernel_rfl
theorem cells3 : Try.prog.cellsOf 3 = 1 := by kernel_rfl
theorem cells49 : Try.prog.cellsOf 49 = 1 := by kernel_rfl
theorem cells51 : Try.prog.cellsOf 51 = 3 := by kernel_rfl
def Instr.Ok (N : Nat) (x : Instr) : Prop := (fun n => (Lit.int .u8 n).wf = true) x.Op ∧ (fun n => (Lit.int .i64 n).wf = true) x.Arg ∧ (fun n => (Lit.int .u64 n).wf = true) x.Imm
theorem Instr.rd {N : Nat} : Rd Try.prog N Instr.av (Instr.Ok N) 51 := by
  intro avs ht
  obtain ⟨hl, hf⟩ := ty_struct Try.underlying51 ht
  have e0 : Ty Try.prog N 48 ((avs.drop 0).take (Try.prog.cellsOf 48)) := hf 0 _ rfl
  rw [cells48] at e0
  obtain ⟨a0, h0, q0⟩ := (rdI Try.underlying48) _ e0
  have e1 : Ty Try.prog N 3 ((avs.drop 1).take (Try.prog.cellsOf 3)) := hf 1 _ rfl
  rw [cells3] at e1
  obtain ⟨a1, h1, q1⟩ := (rdI Try.underlying3) _ e1
  have e2 : Ty Try.prog N 49 ((avs.drop 2).take (Try.prog.cellsOf 49)) := hf 2 _ rfl
  rw [cells49] at e2
  obtain ⟨a2, h2, q2⟩ := (rdI Try.underlying49) _ e2
  refine ⟨⟨a0, a1, a2⟩, ?_, ⟨q0, q1, q2⟩⟩
  have := (st_cons h0 (st_cons h1 (st_cons h2 (st_nil (hl.trans cells51)))))
  exact this
theorem cells43 : Try.prog.cellsOf 43 = 1 := by kernel_rfl
theorem cells4 : Try.prog.cellsOf 4 = 1 := by kernel_rfl
theorem cells45 : Try.prog.cellsOf 45 = 1 := by kernel_rfl
theorem cells47 : Try.prog.cellsOf 47 = 5 := by kernel_rfl
def Func.Ok (N : Nat) (x : Func) : Prop := (fun n => (Lit.int .i64 n).wf = true) x.Params ∧ (fun l => List.length l ≤ N ∧ ∀ a ∈ l, (fun n => (Lit.int .u8 n).wf = true) a) x.Locals ∧ (fun _ => True) x.Result ∧ (fun n => (Lit.int .i64 n).wf = true) x.Keep ∧ (fun l => List.length l ≤ N ∧ ∀ a ∈ l, (Instr.Ok N) a) x.Code
theorem Func.rd {N : Nat} : Rd Try.prog N Func.av (Func.Ok N) 47 := by
  intro avs ht
  obtain ⟨hl, hf⟩ := ty_struct Try.underlying47 ht
  have e0 : Ty Try.prog N 3 ((avs.drop 0).take (Try.prog.cellsOf 3)) := hf 0 _ rfl
  rw [cells3] at e0
  obtain ⟨a0, h0, q0⟩ := (rdI Try.underlying3) _ e0
  have e1 : Ty Try.prog N 43 ((avs.drop 1).take (Try.prog.cellsOf 43)) := hf 1 _ rfl
  rw [cells43] at e1
  obtain ⟨a1, h1, q1⟩ := (rdL (encI .u8) (fun fs h => by rw [Try.underlying57] at h; cases h) Try.underlying43 cells57 (rdI Try.underlying57)) _ e1
  have e2 : Ty Try.prog N 4 ((avs.drop 2).take (Try.prog.cellsOf 4)) := hf 2 _ rfl
  rw [cells4] at e2
  obtain ⟨a2, h2, q2⟩ := (rdB Try.underlying4) _ e2
  have e3 : Ty Try.prog N 3 ((avs.drop 3).take (Try.prog.cellsOf 3)) := hf 3 _ rfl
  rw [cells3] at e3
  obtain ⟨a3, h3, q3⟩ := (rdI Try.underlying3) _ e3
  have e4 : Ty Try.prog N 45 ((avs.drop 4).take (Try.prog.cellsOf 45)) := hf 4 _ rfl
  rw [cells45] at e4
  obtain ⟨a4, h4, q4⟩ := (rdL Instr.enc ⟨_, Try.underlying51⟩ Try.underlying45 cells51 Instr.rd) _ e4
  refine ⟨⟨a0, a1, a2, a3, a4⟩, ?_, ⟨q0, q1, q2, q3, q4⟩⟩
  have := (st_cons h0 (st_cons h1 (st_cons h2 (st_cons h3 (st_cons h4 (st_nil (hl.trans cells47)))))))
  exact this
theorem cells22 : Try.prog.cellsOf 22 = 1 := by kernel_rfl
theorem cells24 : Try.prog.cellsOf 24 = 1 := by kernel_rfl
def Program.Ok (N : Nat) (x : Program) : Prop := (fun l => List.length l ≤ N ∧ ∀ a ∈ l, (Func.Ok N) a) x.Funcs
theorem Program.rd {N : Nat} : Rd Try.prog N Program.av (Program.Ok N) 24 := by
  intro avs ht
  obtain ⟨hl, hf⟩ := ty_struct Try.underlying24 ht
  have e0 : Ty Try.prog N 22 ((avs.drop 0).take (Try.prog.cellsOf 22)) := hf 0 _ rfl
  rw [cells22] at e0
  obtain ⟨a0, h0, q0⟩ := (rdL Func.enc ⟨_, Try.underlying47⟩ Try.underlying22 cells47 Func.rd) _ e0
  refine ⟨⟨a0⟩, ?_, q0⟩
  have := (st_cons h0 (st_nil (hl.trans cells24)))
  exact this

theorem own : ownKnob Try.prog.godebug = none := by kernel_rfl
theorem laidOut : laidOutB Try.prog = true := by kernel_rfl
end Go.Proofs.Ytiocagilhbomgaa
