/- A region whose order is open: whatever the order, it comes to what the text's order comes to. -/
import Derived.Test.YtiocagilhbomgaaWlC5
namespace Go.Ab
open Go.RowKit
set_option linter.unusedVariables false
set_option linter.unusedSimpArgs false

theorem quiet_le {P c F σ v σ' le} (hq : RC.quiet c = true) (h : StepG P c F σ v σ' le) : σ' = σ ∧ le = .acc [] none := by
  cases c with
  | op r =>
    obtain ⟨rd, δ, ⟨_, h1, _⟩, rfl, rfl⟩ := h
    cases r <;> simp [RC.quiet] at hq <;> simp only [St] at h1 <;> first
      | (obtain ⟨_, rfl, rfl⟩ := h1; exact ⟨rfl, rfl⟩)
  | _ => simp [RC.quiet] at hq

theorem reads_le {P c F σ v σ' le} (hq : RC.reads c = true) (h : StepG P c F σ v σ' le) : σ' = σ ∧ ∃ fp, le = .acc fp none := by
  cases c with
  | op r =>
    by_cases hq' : RC.quiet (.op r) = true
    · obtain ⟨a, b⟩ := quiet_le hq' h; exact ⟨a, _, b⟩
    · obtain ⟨rd, δ, ⟨_, h1, _⟩, rfl, rfl⟩ := h
      cases r <;> simp [RC.reads, RC.quiet] at hq hq' <;> simp only [St] at h1
      · obtain ⟨_, rfl⟩ := h1; exact ⟨rfl, _, rfl⟩
      · obtain ⟨_, rfl⟩ := h1; exact ⟨rfl, _, rfl⟩
  | _ => simp [RC.reads, RC.quiet] at hq

/-- What the text's order came to, operation by operation. -/
structure Rec (P : Program) (rs : List ROper) (N : Nat) where
  F : Nat → Fm
  S : Nat → List Ob
  val : Nat → AV
  le : Nat → LE
  go : ∀ i (ro : ROper), i < N → rs[i]? = some ro →
    ((match ro.guard with | none => True | some (t, want) => F i t = .bool want) ∧ StepG P ro.c (F i) (hp (S i)) (val i) (hp (S (i + 1))) (lgOf (le i)) ∧ (∀ A B, le i = .eff A B → A = S i ∧ B = S (i + 1))) ∨
    ((match ro.guard with | none => False | some (t, want) => gOff want (F i t)) ∧ val i = .tup [] ∧ S (i + 1) = S i ∧ le i = .acc [] none)
  next : ∀ i (ro : ROper), i < N → rs[i]? = some ro → F (i + 1) = putM (F i) ro.dst (val i)

def Rec.log {P rs N} (r : Rec P rs N) : Nat → List LE
  | 0 => []
  | n + 1 => r.le n :: r.log n

/-- The text's order, recorded. -/
theorem VCops_rec {P : Program} {K : Fr → List Ob → List LE → Prop} : ∀ (rs : List ROper) (fr : Fr) (S : List Ob) (log : List LE), VCops P rs fr S log K →
    ∃ (r : Rec P rs rs.length) (fr' : Fr), r.F 0 = Fr.get fr ∧ r.S 0 = S ∧ Fr.get fr' = r.F rs.length ∧ K fr' (r.S rs.length) (r.log rs.length ++ log)
  | [], fr, S, log, h => ⟨⟨fun _ => Fr.get fr, fun _ => S, fun _ => .junk, fun _ => .acc [] none, fun i ro hi => by simp at hi, fun i ro hi => by simp at hi⟩, fr, rfl, rfl, rfl, h⟩
  | ro :: rs, fr, S, log, h => by
    -- one step, then the rest
    have key : ∀ v S' le, (((match ro.guard with | none => True | some (t, want) => Fr.get fr t = .bool want) ∧ StepG P ro.c (Fr.get fr) (hp S) v (hp S') (lgOf le) ∧ (∀ A B, le = .eff A B → A = S ∧ B = S')) ∨
        ((match ro.guard with | none => False | some (t, want) => gOff want (Fr.get fr t)) ∧ v = .tup [] ∧ S' = S ∧ le = .acc [] none)) →
        VCops P rs (putF fr ro.dst v) S' (le :: log) K →
        ∃ (r : Rec P (ro :: rs) (ro :: rs).length) (fr' : Fr), r.F 0 = Fr.get fr ∧ r.S 0 = S ∧ Fr.get fr' = r.F (ro :: rs).length ∧ K fr' (r.S (ro :: rs).length) (r.log (ro :: rs).length ++ log) := fun v S' le hstep hv => by
      obtain ⟨r, fr', r1, r2, r3, r4⟩ := VCops_rec rs _ _ _ hv
      let r' : Rec P (ro :: rs) (ro :: rs).length := {
        F := fun i => match i with | 0 => Fr.get fr | i + 1 => r.F i
        S := fun i => match i with | 0 => S | i + 1 => r.S i
        val := fun i => match i with | 0 => v | i + 1 => r.val i
        le := fun i => match i with | 0 => le | i + 1 => r.le i
        go := fun i ro' hi hro => by
          cases i with
          | zero =>
            simp at hro; subst hro
            simp only [r2]
            exact hstep
          | succ i => exact r.go i ro' (by simpa using hi) (by simpa using hro)
        next := fun i ro' hi hro => by
          cases i with
          | zero => simp at hro; subst hro; simp only [r1]; exact get_putF _ _ _
          | succ i => exact r.next i ro' (by simpa using hi) (by simpa using hro) }
      have hlog : ∀ n, r'.log (n + 1) = r.log n ++ [le] := by
        intro n
        induction n with
        | zero => rfl
        | succ n ih => show r'.le (n + 1) :: r'.log (n + 1) = _; rw [ih]; rfl
      refine ⟨r', fr', rfl, rfl, r3, ?_⟩
      show K fr' (r.S rs.length) (r'.log (rs.length + 1) ++ log)
      rw [hlog]; simpa using r4
    simp only [VCops] at h
    cases hg : ro.guard with
    | none =>
      simp only [hg] at h
      obtain ⟨v, S', le, k1, k2, k3⟩ := VC1_step h
      exact key v S' le (.inl ⟨by simp [hg], k1, k2⟩) k3
    | some p =>
      obtain ⟨t, want⟩ := p
      simp only [hg] at h
      generalize hq : Fr.get fr t = q at h
      split at h
      case h_3 => exact h.elim
      case h_2 => exact key (.tup []) S (.acc [] none) (.inr ⟨by simp [hg, hq, gOff], rfl, rfl, rfl⟩) h
      rename_i b
      obtain ⟨ha, hb⟩ := h
      by_cases e : b = want
      · subst e
        obtain ⟨v, S', le, k1, k2, k3⟩ := VC1_step (ha rfl)
        exact key v S' le (.inl ⟨by simp [hg, hq], k1, k2⟩) k3
      · have e' : b = !want := by cases b <;> cases want <;> simp_all
        exact key (.tup []) S (.acc [] none) (.inr ⟨by simp [hg, hq, e', gOff], rfl, rfl, rfl⟩) (hb e')

theorem log_length {P rs N} (r : Rec P rs N) : ∀ n, (r.log n).length = n
  | 0 => rfl
  | n + 1 => by simp [Rec.log, log_length r n]

theorem nthL_log {P rs N} (r : Rec P rs N) : ∀ (n i : Nat), i < n → nthL (r.log n) i = r.le i
  | 0, i, h => by omega
  | n + 1, i, h => by
    unfold nthL
    rw [Rec.log, List.reverse_cons]
    by_cases e : i = n
    · subst e
      simp [List.getD_eq_getElem?_getD, log_length]
    · have := nthL_log r n i (by omega)
      unfold nthL at this
      rw [List.getD_eq_getElem?_getD, List.getElem?_append_left (by simp [log_length]; omega), ← List.getD_eq_getElem?_getD]
      exact this

theorem okLog_get : ∀ {ps : List (Nat × Nat)} {log : List LE}, okLog ps log → ∀ i j, (i, j) ∈ ps → okPair (nthL log i) (nthL log j)
  | [], _, _, i, j, h => by simp at h
  | (a, b) :: ps, log, h, i, j, hm => by
    obtain ⟨h1, h2⟩ := h
    rcases List.mem_cons.1 hm with h | h
    · cases h; exact h1
    · exact okLog_get h2 i j h

section
variable {P : Program} {rs : List ROper} {N : Nat} (r : Rec P rs N)

/-- Which operations change object o. -/
def Rec.W (o i : Nat) : Prop := i < N ∧ hp (r.S (i + 1)) o ≠ hp (r.S i) o
/-- Which write slot t. -/
def wrT (rs : List ROper) (t i : Nat) : Prop := ∃ ro, rs[i]? = some ro ∧ ro.dst = some t

theorem Rec.F_pick (hN : N = rs.length) (t : Nat) : ∀ k, k ≤ N → r.F k t = pick (wrT rs t) (r.F 0 t) r.val k
  | 0, _ => rfl
  | k + 1, h => by
    have hlt : k < rs.length := by omega
    have hro : rs[k]? = some rs[k] := List.getElem?_eq_getElem hlt
    have ih := Rec.F_pick hN t k (by omega)
    rw [r.next k rs[k] (by omega) hro]
    simp only [pick]
    cases hd : rs[k].dst with
    | none =>
      rw [if_neg (by rintro ⟨ro, e1, e2⟩; rw [hro] at e1; cases e1; rw [hd] at e2; cases e2)]
      exact ih
    | some d =>
      by_cases e : t = d
      · subst e
        rw [if_pos ⟨_, hro, hd⟩]
        simp [putM]
      · rw [if_neg (by rintro ⟨ro, e1, e2⟩; rw [hro] at e1; cases e1; rw [hd] at e2; cases e2; exact e rfl)]
        simp only [putM, upd_ne _ _ e]
        exact ih

theorem Rec.S_pick (o : Nat) : ∀ k, k ≤ N → hp (r.S k) o = pick (r.W o) (hp (r.S 0) o) (fun i => hp (r.S (i + 1)) o) k
  | 0, _ => rfl
  | k + 1, h => by
    simp only [pick]
    by_cases e : r.W o k
    · rw [if_pos e]
    · rw [if_neg e, ← Rec.S_pick o k (by omega)]
      have : hp (r.S (k + 1)) o = hp (r.S k) o := Classical.byContradiction fun hne => e ⟨by omega, hne⟩
      exact this

/-- The frame when just the operations of ls have been carried out. -/
noncomputable def Rec.Fl (ls : Nat → Prop) : Fm := fun t => pick (fun i => ls i ∧ wrT rs t i) (r.F 0 t) r.val N
noncomputable def Rec.σl (ls : Nat → Prop) : Hp := fun o => pick (fun i => ls i ∧ r.W o i) (hp (r.S 0) o) (fun i => hp (r.S (i + 1)) o) N

/-- Slots: those that all their writers are ordered with. -/
theorem Rec.Fl_at (hN : N = rs.length) {ls : Nat → Prop} {i : Nat} (hi : i < N) {t : Nat} (h : ∀ j, j < N → wrT rs t j → (ls j ↔ j < i)) : r.Fl ls t = r.F i t := by
  rw [r.F_pick hN t i (by omega)]
  unfold Rec.Fl
  rw [pick_cut (i := i) (by omega) (fun j a b => by rintro ⟨h1, h2⟩; have := (h j b h2).1 h1; omega)]
  exact pick_congr (fun j hj => ⟨fun h => h.2, fun hw => ⟨(h j (by omega) hw).2 hj, hw⟩⟩)

theorem Rec.σl_at {ls : Nat → Prop} {i : Nat} (hi : i < N) {o : Nat} (h : ∀ j, j < N → r.W o j → (ls j ↔ j < i)) : r.σl ls o = hp (r.S i) o := by
  rw [r.S_pick o i (by omega)]
  unfold Rec.σl
  rw [pick_cut (i := i) (by omega) (fun j a b => by rintro ⟨h1, h2⟩; have := (h j b h2).1 h1; omega)]
  exact pick_congr (fun j hj => ⟨fun h => h.2, fun hw => ⟨(h j (by omega) hw).2 hj, hw⟩⟩)

/-- One more operation is carried out. -/
theorem Rec.Fl_step {ls ls' : Nat → Prop} {i : Nat} (hi : i < N) (hls : ∀ j, ls' j ↔ ls j ∨ j = i) {ro : ROper} (hro : rs[i]? = some ro)
    (h : ∀ t, wrT rs t i → ∀ j, j < N → wrT rs t j → j ≠ i → (ls j ↔ j < i)) (hni : ¬ ls i) : r.Fl ls' = putM (r.Fl ls) ro.dst (r.val i) := by
  funext t
  by_cases hw : wrT rs t i
  · obtain ⟨ro', e1, e2⟩ := hw
    rw [hro] at e1; cases e1
    simp only [e2, putM, upd_same]
    unfold Rec.Fl
    refine pick_at (i := i) hi ⟨(hls i).2 (.inr rfl), ro, hro, e2⟩ (fun j a b => ?_)
    rintro ⟨h1, h2⟩
    rcases (hls j).1 h1 with h1 | h1
    · have := (h t ⟨ro, hro, e2⟩ j b h2 (by omega)).1 h1; omega
    · omega
  · have e : putM (r.Fl ls) ro.dst (r.val i) t = r.Fl ls t := by
      cases hd : ro.dst with
      | none => rfl
      | some d =>
        have : t ≠ d := fun e => hw ⟨ro, hro, by rw [hd, e]⟩
        simp [putM, upd_ne _ _ this]
    rw [e]
    unfold Rec.Fl
    refine pick_congr (fun j hj => ?_)
    rw [hls]
    constructor
    · rintro ⟨h1 | rfl, h2⟩
      · exact ⟨h1, h2⟩
      · exact (hw h2).elim
    · rintro ⟨h1, h2⟩; exact ⟨.inl h1, h2⟩

open Classical in
theorem Rec.σl_step {ls ls' : Nat → Prop} {i : Nat} (hi : i < N) (hls : ∀ j, ls' j ↔ ls j ∨ j = i) (o : Nat)
    (h : r.W o i → ∀ j, j < N → r.W o j → j ≠ i → (ls j ↔ j < i)) : r.σl ls' o = if hp (r.S (i + 1)) o = hp (r.S i) o then r.σl ls o else hp (r.S (i + 1)) o := by
  by_cases hw : r.W o i
  · rw [if_neg hw.2]
    unfold Rec.σl
    refine pick_at (i := i) hi ⟨(hls i).2 (.inr rfl), hw⟩ (fun j a b => ?_)
    rintro ⟨h1, h2⟩
    rcases (hls j).1 h1 with h1 | h1
    · have := (h hw j b h2 (by omega)).1 h1; omega
    · omega
  · have : hp (r.S (i + 1)) o = hp (r.S i) o := Classical.byContradiction fun hne => hw ⟨hi, hne⟩
    rw [if_pos this]
    unfold Rec.σl
    refine pick_congr (fun j hj => ?_)
    rw [hls]
    constructor
    · rintro ⟨h1 | rfl, h2⟩
      · exact ⟨h1, h2⟩
      · exact (hw h2).elim
    · rintro ⟨h1, h2⟩; exact ⟨.inl h1, h2⟩
end
end Go.Ab
