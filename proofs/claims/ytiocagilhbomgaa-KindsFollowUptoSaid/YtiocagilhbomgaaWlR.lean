/- From a reading of arguments to native values. -/
import Derived.Test.YtiocagilhbomgaaWlF7
import Derived.Test.YtiocagilhbomgaaWlE2
namespace Go.Ab
open Go.RowKit
set_option linter.unusedVariables false
set_option linter.unusedSimpArgs false
variable {P : Program} {N : Nat}

def Rd (P : Program) (N : Nat) {α : Type} (f : α → AV) (Q : α → Prop) (t : TypeId) : Prop := ∀ avs, Ty P N t avs → ∃ a, avs = (f a).cells ∧ Q a

theorem rdI {t k} (h : P.underlying t = some (.int k)) : Rd P N (avI k) (fun n => (Lit.int k n).wf = true) t := by
  intro avs ht
  cases ht with
  | bool h' => rw [h] at h'; cases h'
  | int h' hw => rw [h] at h'; cases h'; exact ⟨_, rfl, hw⟩
  | str h' => rw [h] at h'; cases h'
  | sl h' => rw [h] at h'; cases h'
  | struct h' => rw [h] at h'; cases h'
theorem rdB {t} (h : P.underlying t = some .bool) : Rd P N avB (fun _ => True) t := by
  intro avs ht
  cases ht with
  | bool h' => exact ⟨_, rfl, trivial⟩
  | int h' => rw [h] at h'; cases h'
  | str h' => rw [h] at h'; cases h'
  | sl h' => rw [h] at h'; cases h'
  | struct h' => rw [h] at h'; cases h'
theorem rdS {t} (h : P.underlying t = some .string) : Rd P N avS (fun s => s.size ≤ N) t := by
  intro avs ht
  cases ht with
  | bool h' => rw [h] at h'; cases h'
  | int h' => rw [h] at h'; cases h'
  | str h' hs => exact ⟨_, rfl, hs⟩
  | sl h' => rw [h] at h'; cases h'
  | struct h' => rw [h] at h'; cases h'

/-- Is it a struct, and so laid? -/
def Form (P : Program) (e : TypeId) (esh : Option Nat) : Prop := match esh with | some _ => ∃ fs, P.underlying e = some (.struct fs) | none => ∀ fs, P.underlying e ≠ some (.struct fs)

theorem form_eq {α : Type} {f : α → AV} {esh : Option Nat} {e : TypeId} (he : Enc f esh) (hf : Form P e esh) {x : AV} {a : α} (hc : x.cells = (f a).cells)
    (hx : ((∃ fs, P.underlying e = some (.struct fs)) ∧ ∃ cs, x = .agg cs) ∨ ((∀ fs, P.underlying e ≠ some (.struct fs)) ∧ x.cells = [x])) : x = f a := by
  have h := he.form a
  cases esh with
  | none =>
    rcases hx with ⟨⟨fs, h1⟩, _⟩ | ⟨_, h1⟩
    · exact (hf fs h1).elim
    · rw [h1] at hc
      have h2 : (f a).cells = [f a] := h
      rw [h2] at hc
      exact (List.cons.inj hc).1
  | some n =>
    have h2 : f a = .agg (f a).cells := h
    rcases hx with ⟨_, cs, rfl⟩ | ⟨h1, _⟩
    · rw [h2, ← hc]; rfl
    · obtain ⟨fs, h3⟩ := hf
      exact (h1 fs h3).elim

theorem rdL {α : Type} {f : α → AV} {Q : α → Prop} {esh : Option Nat} {t e : TypeId} (he : Enc f esh) (hf : Form P e esh) (h : P.underlying t = some (.slice e)) {sz : Nat} (hc : P.cellsOf e = sz) (hr : Rd P N f Q e) : Rd P N (avL sz f) (fun l => l.length ≤ N ∧ ∀ a ∈ l, Q a) t := by
  intro avs ht
  cases ht with
  | bool h' => rw [h] at h'; cases h'
  | int h' => rw [h] at h'; cases h'
  | str h' => rw [h] at h'; cases h'
  | struct h' => rw [h] at h'; cases h'
  | sl h' hl hx ha =>
    rename_i e' xs
    rw [h] at h'; cases h'
    have key : ∀ y ∈ xs, ∃ a, y = f a ∧ Q a := fun y hy => by
      obtain ⟨a, h1, h2⟩ := hr _ (hx y hy)
      exact ⟨a, form_eq he hf h1 (ha y hy), h2⟩
    obtain ⟨l, rfl, hq⟩ := exists_map key
    refine ⟨l, ?_, by simpa using hl, hq⟩
    rw [hc]; rfl

theorem ty_struct {t fs avs} (h : P.underlying t = some (.struct fs)) (ht : Ty P N t avs) : avs.length = P.cellsOf t ∧ ∀ (i : Nat) (f : Field), fs[i]? = some f → Ty P N f.type ((avs.drop f.offset).take (P.cellsOf f.type)) := by
  cases ht with
  | bool h' => rw [h] at h'; cases h'
  | int h' => rw [h] at h'; cases h'
  | str h' => rw [h] at h'; cases h'
  | sl h' => rw [h] at h'; cases h'
  | struct h' hl hf => rw [h] at h'; cases h'; exact ⟨hl, hf⟩
theorem st_cons {cs xs rest : List AV} {o s : Nat} (h : (cs.drop o).take s = xs) (k : cs.drop (o + s) = rest) : cs.drop o = xs ++ rest := by
  rw [← h, ← k, ← List.drop_drop, List.take_append_drop]
theorem st_nil {cs : List AV} {n : Nat} (h : cs.length = n) : cs.drop n = [] := List.drop_eq_nil_of_le (by omega)

theorem arg_rd {α : Type} {f : α → AV} {Q : α → Prop} {esh : Option Nat} {t : TypeId} (he : Enc f esh) (hf : Form P t esh) (hr : Rd P N f Q t) {x : AV} (h : Arg P N t x) : ∃ a, x = f a ∧ Q a := by
  obtain ⟨a, h1, h2⟩ := hr _ h.1
  exact ⟨a, form_eq he hf h1 h.2, h2⟩
end Go.Ab
