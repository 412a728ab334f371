/- Plain laws of kinds: one step of a stack; the function's types. -/
import Derived.Test.YtiocagilhbomgaaKdL2
namespace Go.Proofs.Ytiocagilhbomgaa
open Go Go.Ab Go.RowKit
set_option maxRecDepth 20000
set_option linter.unusedVariables false
set_option linter.unusedSimpArgs false

def locK (f : Func) (i : Instr) : List Int := [f.Locals[i.Arg.toNat]?.getD 0]
def eff (p : Program) (f : Func) (i : Instr) (top : Int) : List Int × List Int :=
  if i.Op = 1 ∨ i.Op = 28 then ([], [0]) else if i.Op = 2 then ([], locK f i) else if i.Op = 3 then (locK f i, []) else if i.Op = 4 then ([], [1]) else if i.Op = 5 then ([1], [0])
  else if i.Op = 6 then ([1, 0], []) else if i.Op = 21 then ([], []) else if i.Op = 22 ∨ i.Op = 26 ∨ i.Op = 29 ∨ i.Op = 30 then ([0], [])
  else if i.Op = 23 ∨ i.Op = 25 then (match p.Funcs[i.Arg.toNat]? with | some g => (g.Locals.take g.Params.toNat, if i.Op = 23 ∧ g.Result = true then [0] else []) | none => ([], []))
  else if i.Op = 24 then (if f.Result = true then [0] else [], []) else if i.Op = 27 then ([], [0, 0]) else if i.Op = 31 then ([top], []) else if i.Op = 32 then ([top], [top, top]) else ([0, 0], [0])
theorem sub_one {l : List Int} {a : Int} (h0 : 0 ≤ a) (h : a < l.length) (hb : a ≤ 65535) : subL l a (I64 (a + 1)) = some [l[a.toNat]?.getD 0] := by
  rw [I64_of (by omega)]
  unfold subL
  rw [if_pos (by omega)]
  have hlt : a.toNat < l.length := by omega
  rw [show (a + 1).toNat = a.toNat + 1 by omega, List.getElem?_eq_getElem hlt]
  rw [List.take_succ_eq_append_getElem hlt, List.drop_append_of_le_length (by simp; omega)]
  simp
theorem funcP_head {f : Func} (h : funcP f = true) : 0 ≤ f.Params ∧ f.Params ≤ f.Locals.length ∧ f.Locals.length ≤ 255 ∧ -1 ≤ f.Keep ∧ f.Keep ≤ 254 ∧ f.Code.length ≤ 65535 := by
  unfold funcP at h
  simp only [Bool.and_eq_true, decide_eq_true_eq] at h
  exact h.1
theorem effect_eq (p : Program) (f : Func) (i : Instr) (top : Int) (ha : 0 ≤ i.Arg ∧ i.Arg ≤ 65535) (hn : nameP p f i = true) (hg : ∀ g ∈ p.Funcs, funcP g = true) : kinds_effect_s p f i top = some (eff p f i top) := by
  unfold kinds_effect_s eff
  simp only [jp]
  unfold nameP at hn
  by_cases h1 : i.Op = 1
  · simp [h1]
  by_cases h28 : i.Op = 28
  · simp [h28]
  by_cases h2 : i.Op = 2
  · simp [h2] at hn
    simp [h2, sub_one ha.1 hn ha.2, locK]
  by_cases h3 : i.Op = 3
  · simp [h3] at hn
    simp [h3, sub_one ha.1 hn ha.2, locK]
  by_cases h4 : i.Op = 4
  · simp [h4]
  by_cases h5 : i.Op = 5
  · simp [h5]
  by_cases h6 : i.Op = 6
  · simp [h6]
  by_cases h21 : i.Op = 21
  · simp [h21]
  by_cases h22 : i.Op = 22
  · simp [h22]
  by_cases h26 : i.Op = 26
  · simp [h26]
  by_cases h29 : i.Op = 29
  · simp [h29]
  by_cases h30 : i.Op = 30
  · simp [h30]
  by_cases hc : i.Op = 23 ∨ i.Op = 25
  · have hlt : i.Arg < p.Funcs.length := by
      rcases hc with h | h <;> simpa [h] using hn
    have hlt' : i.Arg.toNat < p.Funcs.length := by omega
    have hf := funcP_head (hg _ (List.getElem_mem hlt'))
    have hs : subL (p.Funcs[i.Arg.toNat]).Locals 0 (p.Funcs[i.Arg.toNat]).Params = some ((p.Funcs[i.Arg.toNat]).Locals.take (p.Funcs[i.Arg.toNat]).Params.toNat) := by
      unfold subL
      rw [if_pos (by omega)]
      simp
    rw [List.getElem?_eq_getElem hlt']
    rcases hc with h | h
    · simp only [h]
      simp
      rw [getI_lt ha.1 hlt']
      simp only [Option.bind_some, hs]
      cases (p.Funcs[i.Arg.toNat]).Result <;> simp
    · simp only [h]
      simp
      rw [getI_lt ha.1 hlt']
      simp [hs]
  have h23 : ¬ i.Op = 23 := fun h => hc (.inl h)
  have h25 : ¬ i.Op = 25 := fun h => hc (.inr h)
  by_cases h24 : i.Op = 24
  · simp [h24]
    cases f.Result <;> simp
  by_cases h27 : i.Op = 27
  · simp [h27]
  by_cases h31 : i.Op = 31
  · simp [h31]
  by_cases h32 : i.Op = 32
  · simp [h32]
  simp [h1, h28, h2, h3, h4, h5, h6, h21, h22, h26, h29, h30, h23, h25, h24, h27, h31, h32]

def topK (s : List Int) : Int := s.getLast?.getD 0
/-- The stack behind an instruction. -/
def stepK (p : Program) (f : Func) (i : Instr) (s : List Int) : Option (List Int) :=
  let e := eff p f i (topK s)
  if e.1.length ≤ s.length ∧ s.drop (s.length - e.1.length) = e.1 ∧ ¬ (i.Op = 24 ∧ e.1.length < s.length) then some (s.take (s.length - e.1.length) ++ e.2) else none
theorem ite_len {c : Prop} [Decidable c] : (if c then [(0 : Int)] else []).length ≤ 2 := by split <;> exact Nat.le_of_ble_eq_true rfl
theorem eff_len (p : Program) (f : Func) (i : Instr) (t : Int) : (eff p f i t).2.length ≤ 2 := by
  unfold eff locK
  by_cases h0 : i.Op = 1 ∨ i.Op = 28
  · rw [if_pos h0]
    exact Nat.le_of_ble_eq_true rfl
  rw [if_neg h0]
  by_cases h1 : i.Op = 2
  · rw [if_pos h1]
    exact Nat.le_of_ble_eq_true rfl
  rw [if_neg h1]
  by_cases h2 : i.Op = 3
  · rw [if_pos h2]
    exact Nat.le_of_ble_eq_true rfl
  rw [if_neg h2]
  by_cases h3 : i.Op = 4
  · rw [if_pos h3]
    exact Nat.le_of_ble_eq_true rfl
  rw [if_neg h3]
  by_cases h4 : i.Op = 5
  · rw [if_pos h4]
    exact Nat.le_of_ble_eq_true rfl
  rw [if_neg h4]
  by_cases h5 : i.Op = 6
  · rw [if_pos h5]
    exact Nat.le_of_ble_eq_true rfl
  rw [if_neg h5]
  by_cases h6 : i.Op = 21
  · rw [if_pos h6]
    exact Nat.le_of_ble_eq_true rfl
  rw [if_neg h6]
  by_cases h7 : i.Op = 22 ∨ i.Op = 26 ∨ i.Op = 29 ∨ i.Op = 30
  · rw [if_pos h7]
    exact Nat.le_of_ble_eq_true rfl
  rw [if_neg h7]
  by_cases h8 : i.Op = 23 ∨ i.Op = 25
  · rw [if_pos h8]
    cases p.Funcs[i.Arg.toNat]? with
    | none => exact Nat.le_of_ble_eq_true rfl
    | some g => exact ite_len
  rw [if_neg h8]
  by_cases h9 : i.Op = 24
  · rw [if_pos h9]
    exact Nat.le_of_ble_eq_true rfl
  rw [if_neg h9]
  by_cases h10 : i.Op = 27
  · rw [if_pos h10]
    exact Nat.le_of_ble_eq_true rfl
  rw [if_neg h10]
  by_cases h11 : i.Op = 31
  · rw [if_pos h11]
    exact Nat.le_of_ble_eq_true rfl
  rw [if_neg h11]
  by_cases h12 : i.Op = 32
  · rw [if_pos h12]
    exact Nat.le_of_ble_eq_true rfl
  rw [if_neg h12]
  exact Nat.le_of_ble_eq_true rfl
theorem step_len {p f i s s'} (h : stepK p f i s = some s') : s'.length ≤ s.length + 2 := by
  unfold stepK at h
  simp only at h
  split at h
  · cases h
    have := eff_len p f i (topK s)
    simp; omega
  · cases h

/-- What can come to be. -/
inductive Der (p : Program) (f : Func) : Nat → List Int → Prop
  | start : Der p f 0 []
  | go {a : Nat} {s s' : List Int} {i : Instr} {b : Nat} (h : Der p f a s) (hi : f.Code[a]? = some i) (hs : stepK p f i s = some s') (hb : (b : Int) ∈ folL i a) : Der p f b s'
def Bad (p : Program) (f : Func) : Prop :=
  (∃ a s i, Der p f a s ∧ f.Code[a]? = some i ∧ (stepK p f i s = none ∨ ∃ b ∈ folL i a, (f.Code.length : Int) ≤ b)) ∨ ∃ b s1 s2, Der p f b s1 ∧ Der p f b s2 ∧ s1 ≠ s2
def Deep (p : Program) (f : Func) : Prop := ∃ a s i s', Der p f a s ∧ f.Code[a]? = some i ∧ stepK p f i s = some s' ∧ 16 < s'.length
def Sol (p : Program) (f : Func) (R : Nat → Option (List Int)) : Prop :=
  R 0 = some [] ∧ ∀ a s, R a = some s → Der p f a s ∧ ∃ i s', f.Code[a]? = some i ∧ stepK p f i s = some s' ∧ ∀ b ∈ folL i a, ∃ m : Nat, b = m ∧ m < f.Code.length ∧ R m = some s'
theorem Sol.all {p f R} (h : Sol p f R) {a s} (d : Der p f a s) : R a = some s := by
  induction d with
  | start => exact h.1
  | go d hi hs hb ih =>
    obtain ⟨_, i, s', h1, h2, h3⟩ := h.2 _ _ ih
    rw [hi] at h1; cases h1
    rw [hs] at h2; cases h2
    obtain ⟨m, e, _, h4⟩ := h3 _ hb
    have : m = _ := Int.ofNat.inj e.symm
    subst this
    exact h4
theorem Sol.good {p f R} (h : Sol p f R) : ¬ Bad p f := by
  rintro (⟨a, s, i, d, hi, hb⟩ | ⟨b, s1, s2, d1, d2, hne⟩)
  · obtain ⟨_, i', s', h1, h2, h3⟩ := h.2 _ _ (h.all d)
    rw [hi] at h1; cases h1
    rcases hb with hb | ⟨b, hb, hl⟩
    · rw [hb] at h2; cases h2
    · obtain ⟨m, e, hm, _⟩ := h3 b hb
      omega
  · have e1 := h.all d1
    have e2 := h.all d2
    rw [e1] at e2
    exact hne (Option.some.inj e2)
theorem Sol.uniq {p f R R'} (h : Sol p f R) (h' : Sol p f R') : R = R' := by
  funext a
  cases e : R a with
  | some s => exact (h'.all (h.2 _ _ e).1).symm
  | none =>
    cases e' : R' a with
    | none => rfl
    | some s =>
      have := h.all (h'.2 _ _ e').1
      rw [e] at this; cases this

theorem bind_ex {α β : Type} {x : Option α} {F : α → Option β} {P : β → Prop} (h : ∃ o, x = some o ∧ ∃ r, F o = some r ∧ P r) : ∃ r, x.bind F = some r ∧ P r := by
  obtain ⟨o, rfl, r, h1, h2⟩ := h
  exact ⟨r, h1, h2⟩
end Go.Proofs.Ytiocagilhbomgaa
