/- From the row's list to the settings: the table for the trailing zeros; the bulk of arguments. -/
import Derived.Test.YtcicbbceknhkfaaGreatDoorGc1
import Derived.Test.YtcicbbceknhkfaaGreatDoorWlL2
import Derived.Test.YtcicbbceknhkfaaGreatDoorRows
import Derived.Lib.LaidTab
import Derived.Deep.DeepHandedRow
import Derived.Test.YtcicbbceknhkfaaGreatDoorGcF
namespace Go.Proofs.YtcicbbceknhkfaaGreatDoor
set_option linter.constructorNameAsVariable false
set_option linter.unusedSimpArgs false
set_option linter.unusedVariables false
open Go Go.Ab Go.RowKit
set_option maxRecDepth 20000
set_option linter.unusedVariables false
set_option linter.unusedSimpArgs false
theorem tz_laid : (Rows.laid_math_bits_deBruijn64tab : DataW Unit) = Lib.tabData .u8 tzT := by kernel_rfl
theorem tab_isH {P : Program} {W : World} {nm : String} {k : IntKind} {zs : List Int} {b : Nat} (hg : P.globalNamed nm = some b) (h : Lib.TabIs P W nm k zs) : ∃ t fz, W.heap[b]? = some (.cells (zs.map fun z => Value.int k z).toArray t fz) := by
  unfold Lib.TabIs World.var? at h
  rw [hg, Option.bind_some] at h
  cases e2 : W.heap[b]? with
  | none => rw [e2] at h; cases h
  | some o =>
    rw [e2] at h
    cases o with
    | cells c t fz => cases h; exact ⟨t, fz, rfl⟩
    | _ => cases h
theorem tab_of {nm : String} (h0 : Tryz.prog.globalNamed nm = some 1) {W : World} (h : laidMet Tryz.prog [(nm, Rows.laid_math_bits_deBruijn64tab)] W) : TabOK W.heap.size W := by
  have h' := h
  rw [tz_laid] at h'
  have hp := Lib.tabIs_of_head (rest := []) h0 (t := 400) (e := 5) (n := 64) (by kernel_rfl) Tryz.underlying400 Tryz.underlying5 (by kernel_rfl) (by kernel_rfl) h'
  obtain ⟨t, fz, q⟩ := tab_isH h0 hp
  intro b p e
  match b, e with
  | 1, e => cases Option.some.inj e; exact ⟨(Array.getElem?_eq_some_iff.1 q).1, _, t, fz, q, rfl⟩
  | 0, e => cases e
  | n + 2, e => cases e
theorem part_le {H : Type} {d : DataW H} {l : List (DataW H)} (h : d ∈ l) : Rows.uptoBulk d ≤ Rows.uptoBulkAll l := by
  induction l with
  | nil => cases h
  | cons x r ih =>
    simp only [Rows.uptoBulkAll]
    rcases List.mem_cons.1 h with e | e
    · subst e; omega
    · have := ih e; omega
theorem one_le {H : Type} (d : DataW H) : 1 ≤ Rows.uptoBulk d := by
  cases d with
  | lit l => cases l <;> simp [Rows.uptoBulk]
  | _ => simp [Rows.uptoBulk]
theorem length_le {H : Type} (l : List (DataW H)) : l.length ≤ Rows.uptoBulkAll l := by
  induction l with
  | nil => simp [Rows.uptoBulkAll]
  | cons x r ih => have := one_le x; simp only [Rows.uptoBulkAll, List.length_cons]; omega
theorem bulk {H : Type} : Bulk (H := H) Rows.uptoBulk :=
  ⟨fun bytes => by simp [Rows.uptoBulk], fun e s => by have := length_le e; simp only [Rows.uptoBulk]; omega, fun e s d h => by have := part_le h; simp only [Rows.uptoBulk]; omega, fun p d h => by have := part_le h; simp only [Rows.uptoBulk]; omega⟩
theorem own : ownKnob Tryz.prog.godebug = none := by kernel_rfl
theorem laidOut : laidOutB Tryz.prog = true := by kernel_rfl
end Go.Proofs.YtcicbbceknhkfaaGreatDoor
/- How the argument that says where the stack is moved is read; what the cases are made of. -/
namespace Go.Proofs.YtcicbbceknhkfaaGreatDoor
set_option linter.constructorNameAsVariable false
set_option linter.unusedSimpArgs false
set_option linter.unusedVariables false
open Go Go.Ab Go.RowKit
set_option linter.unusedVariables false
set_option linter.unusedSimpArgs false
set_option maxRecDepth 20000
structure Windlasstop_Where where
  Picks : List Int
  Stack : Int
def Windlasstop_Where.av (x : Windlasstop_Where) : AV := .agg [avL 1 (avI .i64) x.Picks, .int .i64 x.Stack]
theorem Windlasstop_Where.enc : Enc Windlasstop_Where.av (some 2) := ⟨fun _ => rfl, fun _ => rfl, fun _ => rfl⟩
theorem cells3 : Tryz.prog.cellsOf 3 = 1 := by kernel_rfl
theorem cells23 : Tryz.prog.cellsOf 23 = 1 := by kernel_rfl
theorem cells25 : Tryz.prog.cellsOf 25 = 2 := by kernel_rfl
def Windlasstop_Where.Ok (N : Nat) (x : Windlasstop_Where) : Prop := (fun l => List.length l ≤ N ∧ ∀ a ∈ l, (fun n => (Lit.int .i64 n).wf = true) a) x.Picks ∧ (fun n => (Lit.int .i64 n).wf = true) x.Stack
theorem Windlasstop_Where.rd {N : Nat} : Rd Tryz.prog N Windlasstop_Where.av (Windlasstop_Where.Ok N) 25 := by
  intro avs ht
  obtain ⟨hl, hf⟩ := ty_struct Tryz.underlying25 ht
  have e0 : Ty Tryz.prog N 23 ((avs.drop 0).take (Tryz.prog.cellsOf 23)) := hf 0 _ rfl
  rw [cells23] at e0
  obtain ⟨a0, h0, q0⟩ := (rdL (encI .i64) (fun fs h => by rw [Tryz.underlying3] at h; cases h) Tryz.underlying23 cells3 (rdI Tryz.underlying3)) _ e0
  have e1 : Ty Tryz.prog N 3 ((avs.drop 1).take (Tryz.prog.cellsOf 3)) := hf 1 _ rfl
  rw [cells3] at e1
  obtain ⟨a1, h1, q1⟩ := (rdI Tryz.underlying3) _ e1
  refine ⟨⟨a0, a1⟩, ?_, ⟨q0, q1⟩⟩
  have := (st_cons h0 (st_cons h1 (st_nil (hl.trans cells25))))
  exact this

def envG (a b : Nat) (w : Windlasstop_Where) : Env := { v := fun i => match i with | 0 => (a / 2 : Nat) | 1 => (b / 2 : Nat) | 5 => w.Stack | 6 => a | 7 => b | _ => 0, t := w.Picks.map (AV.int .i64) }
theorem u64_nat {v : Int} (h : (Lit.int .u64 v).wf = true) : ∃ x : Nat, v = x ∧ x < 18446744073709551616 := by
  have h2 : 0 ≤ v ∧ v < 18446744073709551616 := by
    simp [Lit.wf, IntKind.min, IntKind.max, IntKind.bits, IntKind.signed] at h
    omega
  obtain ⟨x, rfl⟩ := Int.eq_ofNat_of_zero_le h2.1
  exact ⟨x, rfl, by omega⟩
theorem shr1 {ρ : Env} {p : SE} {a : Nat} (h : p.val ρ = a) : (SE.bop .shr .u64 p (.num 1)).val ρ = (a / 2 : Nat) := by
  simp only [SE.val, h, shBin]
  show (a : Int).fdiv 2 = _
  rw [Int.fdiv_eq_ediv_of_nonneg _ (by decide)]
  omega
theorem gcd_law (a b : Int) (w : Windlasstop_Where) (ha : (Lit.int .u64 a).wf = true) (hb : (Lit.int .u64 b).wf = true) (hw0 : w.Ok 1048576) : PureEv Tryz.prog 3 [avI .u64 a, avI .u64 b, w.av] (.bool true) := by
  have hw : w.Picks.length ≤ 9223372036854775807 := Nat.le_trans hw0.1.1 (by decide)
  obtain ⟨x, rfl, hx⟩ := u64_nat ha
  obtain ⟨y, rfl, hy⟩ := u64_nat hb
  have h3 : FactsOK (envG x y w) fs3 := by
    intro p hp
    simp only [fs3, List.mem_cons, List.mem_nil_iff, or_false] at hp
    rcases hp with rfl | rfl
    · exact shr1 rfl
    · exact shr1 rfl
  exact gcd_ev (ρ := envG x y w) (x := x / 2) (y := y / 2) rfl rfl (by omega) (by omega) h3 rfl hw rfl (Nat.le_refl _)
end Go.Proofs.YtcicbbceknhkfaaGreatDoor
