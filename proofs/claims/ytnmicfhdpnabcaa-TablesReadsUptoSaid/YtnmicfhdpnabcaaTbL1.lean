/- Plain laws of the tables: which are right. -/
import Derived.Test.YtnmicfhdpnabcaaGenT
import Derived.Test.YtnmicfhdpnabcaaWlP1
namespace Go.Proofs.Ytnmicfhdpnabcaa
open Go Go.Ab
set_option maxRecDepth 20000
set_option linter.unusedVariables false
set_option linter.unusedSimpArgs false

def offB (o size : Int) : Bool := decide (0 ≤ o ∧ o < size ∧ o % 8 = 0)
theorem offset_eq (o size : Int) : tables_offset_s o size = some (offB o size) := by
  unfold tables_offset_s offB jp
  by_cases h1 : 0 ≤ o
  · by_cases h2 : o < size
    · rw [Int.tmod_eq_emod_of_nonneg h1]
      simp [h1, h2]; rfl
    · simp [h1, h2]
  · simp [h1]
theorem word_eq (o size : Int) : windlassref19_word_s o size = some (offB o size) := offset_eq o size

def saveP (size : Int) (p : Option Save) (s : Save) : Bool := decide (6 ≤ s.Reg ∧ s.Reg ≤ 11) && (match p with | none => true | some q => decide (q.Reg < s.Reg)) && offB s.Off size
def rowC (r : FuncRow) : Bool := decide (0 ≤ r.Size ∧ r.Size ≤ 65536 ∧ r.Size % 8 = 0 ∧ r.Params.length ≤ 4) && r.Params.all (fun k => decide (k ≤ 1)) && allP (saveP r.Size) none r.Saves && decide (r.Resume = -1 ∨ r.Start ≤ r.Resume ∧ r.Resume < r.Stop)
def rowP (p : Option FuncRow) (r : FuncRow) : Bool := decide (0 ≤ r.Start ∧ r.Start < r.Stop ∧ r.Stop ≤ 1048576) && (match p with | none => true | some q => decide (q.Stop ≤ r.Start)) && rowC r
def ownerI (t : Tables) (x : Int) : Option Nat := firstI (fun r => decide (r.Start < x ∧ x ≤ r.Stop)) 0 t.Funcs
def liveP (size : Int) (p : Option Int) (o : Int) : Bool := offB o size && (match p with | none => true | some q => decide (q < o))
def siteP (t : Tables) (p : Option Site) (s : Site) : Bool :=
  match ownerI t s.At with
  | none => false
  | some f => (match p with | none => true | some q => decide (q.At < s.At)) && (match t.Funcs[f]? with | some r => allP (liveP r.Size) none s.Live | none => false)
def okT (t : Tables) : Bool := decide (t.Funcs.length ≤ 16 ∧ t.Sites.length ≤ 65536) && allP rowP none t.Funcs && allP (siteP t) none t.Sites

/-- How big tables are. -/
structure Fit (t : Tables) : Prop where
  f : t.Funcs.length ≤ 1048576
  s : t.Sites.length ≤ 1048576
  r : ∀ r ∈ t.Funcs, r.Params.length ≤ 1048576 ∧ r.Saves.length ≤ 1048576
  l : ∀ s ∈ t.Sites, s.Live.length ≤ 1048576

def oI (o : Option Nat) : Int := match o with | some k => k | none => -1
theorem owner_eq (t : Tables) (x : Int) (h : t.Funcs.length ≤ 1048576) : tables_owner_s t x = some (oI (ownerI t x)) := by
  unfold tables_owner_s
  rw [rng_find x (fun r => decide (r.Start < x ∧ x ≤ r.Stop)) (fun i => some (i : Int)) (by omega)]
  · unfold ownerI
    cases firstI (fun r : FuncRow => decide (r.Start < x ∧ x ≤ r.Stop)) 0 t.Funcs <;> rfl
  · intro i r hr
    simp only [jp]
    by_cases h1 : r.Start < x <;> by_cases h2 : x ≤ r.Stop <;> simp [h1, h2]
theorem Owner_eq (t : Tables) (x : Int) (h : t.Funcs.length ≤ 1048576) : windlassref19_Owner_s t x = some (oI (ownerI t x)) := by
  unfold windlassref19_Owner_s
  simp only [jp, getI_nat]
  rw [rni_rng (fun (i : Nat) (y : FuncRow) (s_1 : Int) => if decide (y.Start < s_1) = true then if decide (s_1 ≤ y.Stop) = true then some (.ret (some (i : Int))) else some (.nxt s_1) else if false = true then some (.ret (some (i : Int))) else some (Stp.nxt s_1)) t.Funcs x]
  rw [rng_find x (fun r => decide (r.Start < x ∧ x ≤ r.Stop)) (fun i => some (i : Int)) (by omega)]
  · unfold ownerI
    cases firstI (fun r : FuncRow => decide (r.Start < x ∧ x ≤ r.Stop)) 0 t.Funcs <;> rfl
  · intro i r hr
    by_cases h1 : r.Start < x <;> by_cases h2 : x ≤ r.Stop <;> simp [h1, h2]

theorem all_allP {α : Type} (f : α → Bool) : ∀ (l : List α) (p : Option α), allP (fun _ x => f x) p l = l.all f
  | [], _ => rfl
  | x :: r, p => by simp [allP, all_allP f r]

/-- The register ahead. -/
def lastReg : Option Save → Int
  | none => 5
  | some q => q.Reg
theorem saves_congr (size : Int) (l : List Save) : allP (fun p s => decide (lastReg p < s.Reg ∧ s.Reg < 12) && offB s.Off size) none l = allP (saveP size) none l := by
  refine allP_congr (fun p => 5 ≤ lastReg p) (fun p x hp => ⟨?_, fun h => ?_⟩) l none (by simp [lastReg])
  · unfold saveP
    congr 1
    cases p with
    | none => simp only [lastReg, Bool.and_true]; exact decide_eq_decide.2 (by omega)
    | some q =>
      simp only [lastReg] at hp ⊢
      rw [← Bool.decide_and]
      exact decide_eq_decide.2 (by omega)
  · unfold saveP at h
    simp only [Bool.and_eq_true, decide_eq_true_eq] at h
    simp only [lastReg]; omega

theorem row_eq (r : FuncRow) (least : Int) (hp : r.Params.length ≤ 1048576) (hs : r.Saves.length ≤ 1048576) :
    tables_row_s r least = some (decide (least ≤ r.Start ∧ r.Start < r.Stop ∧ r.Stop ≤ 1048576) && rowC r) := by
  unfold tables_row_s
  simp only [jp]
  rw [rng_allS' (xs := r.Params) (s0 := ()) (fun _ => ()) (fun _ k => decide (k ≤ 1)) (some false) (by omega) rfl ?h1, all_allP,
    rng_allS' (xs := r.Saves) (s0 := 5) lastReg (fun p s => decide (lastReg p < s.Reg ∧ s.Reg < 12) && offB s.Off r.Size) (some false) (by omega) rfl ?h2, saves_congr]
  case h1 =>
    intro i x hx
    by_cases h : x ≤ 1
    · simp [h]
    · simp [h]
  case h2 =>
    intro i x hx
    rw [offset_eq]
    simp only [Option.bind_some]
    by_cases h1 : x.Reg ≤ lastReg (prevOf r.Saves i)
    · simp [h1]; intros; omega
    · by_cases h2 : 12 ≤ x.Reg
      · simp [h1, h2]; intros; omega
      · cases h3 : offB x.Off r.Size
        · simp [h1, h2]
        · have c : (decide (lastReg (prevOf r.Saves i) < x.Reg ∧ x.Reg < 12) && true) = true := by simp only [Bool.and_true, decide_eq_true_eq]; omega
          rw [c]
          have : lastReg (some x) = x.Reg := rfl
          simp [h1, h2, this]
  unfold rowC
  by_cases hh : least ≤ r.Start ∧ r.Start < r.Stop ∧ r.Stop ≤ 1048576 ∧ 0 ≤ r.Size ∧ r.Size ≤ 65536 ∧ r.Size % 8 = 0 ∧ r.Params.length ≤ 4
  · obtain ⟨h1, h2, h3, h4, h5, h6, h7⟩ := hh
    have t0 : r.Size.tmod 8 = 0 := by rw [Int.tmod_eq_emod_of_nonneg h4]; exact h6
    have h7' : ((r.Params.length : Int)) ≤ 4 := by omega
    have n1 : ¬ r.Start < least := by omega
    have n2 : ¬ r.Stop ≤ r.Start := by omega
    have n3 : ¬ r.Stop > 1048576 := by omega
    have n4 : ¬ r.Size < 0 := by omega
    have n5 : ¬ r.Size > 65536 := by omega
    have n6 : ¬ ((r.Params.length : Int)) > 4 := by omega
    simp only [n1, n2, n3, n4, n5, n6, t0, decide_false, decide_true, bne_self_eq_false, Bool.false_eq_true, if_false]
    simp only [h1, h2, h3, h4, h5, h6, h7, and_self, decide_true, Bool.true_and]
    have hres : ((r.Resume != -1) = true) ↔ r.Resume ≠ -1 := by simp
    by_cases hr : r.Resume = -1
    · rw [if_neg (by simp [hr])]
      cases hA : r.Params.all (fun k => decide (k ≤ 1)) <;> cases hB : allP (saveP r.Size) none r.Saves <;> simp [oc, hr]
    · rw [if_pos (by simp [hr])]
      by_cases q1 : r.Resume < r.Start
      · simp only [q1, decide_true, if_true]
        have : decide (r.Resume = -1 ∨ r.Start ≤ r.Resume ∧ r.Resume < r.Stop) = false := decide_eq_false (by omega)
        rw [this]; simp
      · simp only [q1, decide_false, Bool.false_eq_true, if_false]
        by_cases q2 : r.Resume ≥ r.Stop
        · have : decide (r.Resume = -1 ∨ r.Start ≤ r.Resume ∧ r.Resume < r.Stop) = false := decide_eq_false (by omega)
          simp [q2, this]
        · have : decide (r.Resume = -1 ∨ r.Start ≤ r.Resume ∧ r.Resume < r.Stop) = true := decide_eq_true (by omega)
          rw [this]
          simp only [q2, decide_false, Bool.false_eq_true, if_false]
          cases hA : r.Params.all (fun k => decide (k ≤ 1)) <;> cases hB : allP (saveP r.Size) none r.Saves <;> simp [oc]
  · have hf : (decide (least ≤ r.Start ∧ r.Start < r.Stop ∧ r.Stop ≤ 1048576) && (decide (0 ≤ r.Size ∧ r.Size ≤ 65536 ∧ r.Size % 8 = 0 ∧ r.Params.length ≤ 4) && r.Params.all (fun k => decide (k ≤ 1)) && allP (saveP r.Size) none r.Saves && decide (r.Resume = -1 ∨ r.Start ≤ r.Resume ∧ r.Resume < r.Stop))) = false := by
      rw [Bool.eq_false_iff]
      intro h
      simp only [Bool.and_eq_true, decide_eq_true_eq] at h
      exact hh ⟨h.1.1, h.1.2.1, h.1.2.2, h.2.1.1.1.1, h.2.1.1.1.2.1, h.2.1.1.1.2.2.1, h.2.1.1.1.2.2.2⟩
    rw [hf]
    by_cases m1 : r.Start < least
    · simp [m1]
    by_cases m2 : r.Stop ≤ r.Start
    · simp [m1, m2]
    by_cases m3 : r.Stop > 1048576
    · simp [m1, m2, m3]
    by_cases m4 : r.Size < 0
    · simp [m1, m2, m3, m4]
    by_cases m5 : r.Size > 65536
    · simp [m1, m2, m3, m4, m5]
    by_cases m6 : r.Size % 8 = 0
    · have t0 : r.Size.tmod 8 = 0 := by rw [Int.tmod_eq_emod_of_nonneg (by omega)]; exact m6
      have m7 : (r.Params.length : Int) > 4 := by
        rcases Int.lt_or_le 4 (r.Params.length : Int) with h | h
        · exact h
        · exact (hh ⟨by omega, by omega, by omega, by omega, by omega, m6, by omega⟩).elim
      simp [m1, m2, m3, m4, m5, t0, m7]
    · have t0 : r.Size.tmod 8 ≠ 0 := by rw [Int.tmod_eq_emod_of_nonneg (by omega)]; exact m6
      simp [m1, m2, m3, m4, m5, t0]
end Go.Proofs.Ytnmicfhdpnabcaa
