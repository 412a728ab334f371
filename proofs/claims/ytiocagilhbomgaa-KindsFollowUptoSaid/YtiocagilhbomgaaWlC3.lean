/- An operation's result hangs on its operands and on the objects that it touches, on nothing else. -/
import Derived.Test.YtiocagilhbomgaaWlC2
namespace Go.Ab
open Go.RowKit
set_option linter.unusedVariables false
set_option linter.unusedSimpArgs false

def Opd.slot : Opd → List Nat
  | .t i => [i]
  | .v _ => []
def slotsP : List (Nat × Nat × Opd) → List Nat
  | [] => []
  | (_, _, x) :: r => x.slot ++ slotsP r
def slotsL : List Opd → List Nat
  | [] => []
  | x :: r => x.slot ++ slotsL r
def slotsO : Option Opd → List Nat
  | none => []
  | some x => x.slot

def ROp.slots : ROp → List Nat
  | .mv x | .box x | .nchk x | .un _ x | .cint _ x | .cstr x | .b2s x | .s2b x | .mki _ x | .fad _ x | .ext _ x | .fld _ _ x | .len _ x | .load _ x => x.slot
  | .pick c a b => c.slot ++ (a.slot ++ b.slot)
  | .new _ => []
  | .build _ ps => slotsP ps
  | .bsl _ _ _ ps => slotsP ps
  | .store _ a x => a.slot ++ x.slot
  | .bin _ _ x y | .eqs _ _ x y | .mn _ x y | .iad _ _ x y | .idxs x y | .idxa _ _ x y | .app _ _ x y | .cpy _ x y => x.slot ++ y.slot
  | .mkf _ a b => slotsL a ++ slotsL b
  | .mksl _ _ _ l c => l.slot ++ c.slot
  | .slc _ x lo hi mx => x.slot ++ (slotsO lo ++ (slotsO hi ++ slotsO mx))
  | .sls x lo hi => x.slot ++ (slotsO lo ++ slotsO hi)

def RC.slots : RC → List Nat
  | .op r => r.slots
  | .call _ args => slotsL args
  | .callv x args => x.slot ++ slotsL args
  | .inv x _ args => x.slot ++ slotsL args

section
variable {F G : Fm}
theorem ev_agree {x : Opd} (h : ∀ t ∈ x.slot, G t = F t) : ev G x = ev F x := by
  cases x with
  | t i => exact h i (by simp [Opd.slot])
  | v x => rfl
theorem evP_agree : ∀ {ps : List (Nat × Nat × Opd)}, (∀ t ∈ slotsP ps, G t = F t) → evP G ps = evP F ps
  | [], _ => rfl
  | (a, b, x) :: r, h => by
    simp only [slotsP, List.mem_append] at h
    simp only [evP]
    rw [ev_agree (fun t ht => h t (.inl ht)), evP_agree (fun t ht => h t (.inr ht))]
theorem evL_agree : ∀ {ps : List Opd}, (∀ t ∈ slotsL ps, G t = F t) → evL G ps = evL F ps
  | [], _ => rfl
  | x :: r, h => by
    simp only [slotsL, List.mem_append] at h
    simp only [evL]
    rw [ev_agree (fun t ht => h t (.inl ht)), evL_agree (fun t ht => h t (.inr ht))]
theorem evO_agree {x : Option Opd} (h : ∀ t ∈ slotsO x, G t = F t) : evO G x = evO F x := by
  cases x with
  | none => rfl
  | some x => simp only [evO]; rw [ev_agree h]
end

section
variable {σ τ : Hp}
theorem Src_local {esh x n cells rd} (h : Src esh x σ n cells rd) (ho : ∀ o ∈ rd, τ o = σ o) : Src esh x τ n cells rd := by
  unfold Src at *
  split at h
  · exact h
  · exact h
  · exact h
  · obtain ⟨h1, h2, rfl, cs, h4, h5⟩ := h
    exact ⟨h1, h2, rfl, cs, by rw [ho _ (by simp)]; exact h4, h5⟩
  · exact h
  · exact h

theorem StNew_local {cs v rd δ} (h : StNew cs σ v rd δ) (ho : ∀ o ∈ fpOf rd δ, τ o = σ o) : StNew cs τ v rd δ := by
  obtain ⟨h0, h | h⟩ := h
  · obtain ⟨o, h1, h2, rfl⟩ := h
    exact ⟨h0, .inl ⟨o, by rw [ho o (by simp [fpOf])]; exact h1, h2, rfl⟩⟩
  · exact ⟨h0, .inr h⟩

theorem StNewSl_local {ex esh n cs v rd δ} (h : StNewSl ex esh n cs σ v rd δ) (ho : ∀ o ∈ fpOf rd δ, τ o = σ o) : StNewSl ex esh n cs τ v rd δ := by
  obtain ⟨h0, ha, hb, h | h⟩ := h
  · obtain ⟨o, h1, h2, rfl⟩ := h
    exact ⟨h0, ha, hb, .inl ⟨o, by rw [ho o (by simp [fpOf])]; exact h1, h2, rfl⟩⟩
  · exact ⟨h0, ha, hb, .inr h⟩

theorem StLoad_local {sh x v rd} (h : StLoad sh x σ v rd) (ho : ∀ o ∈ rd, τ o = σ o) : StLoad sh x τ v rd := by
  unfold StLoad at *
  split at h
  · obtain ⟨rfl, cs, h1, h2⟩ := h
    exact ⟨rfl, cs, by rw [ho _ (by simp)]; exact h1, h2⟩
  · exact h
  · exact h

theorem StStore_local {n a x v rd δ} (h : StStore n a x σ v rd δ) (ho : ∀ o ∈ fpOf rd δ, τ o = σ o) : StStore n a x τ v rd δ := by
  unfold StStore at *
  split at h
  · obtain ⟨h1, h2, cs, h3, h4, h5, h6, rfl⟩ := h
    exact ⟨h1, h2, cs, by rw [ho _ (by simp [fpOf])]; exact h3, h4, h5, h6, rfl⟩
  · exact h

theorem StMksl_local {esh bytes z l c v rd δ} (h : StMksl esh bytes z l c σ v rd δ) (ho : ∀ o ∈ fpOf rd δ, τ o = σ o) : StMksl esh bytes z l c τ v rd δ := by
  unfold StMksl at *
  split at h
  · obtain ⟨h1, h2, h3, h4, h5⟩ := h
    exact ⟨h1, h2, h3, h4, StNewSl_local h5 ho⟩
  · exact h

theorem fp_sub {rd : List Nat} {δ : Option (Nat × Ob)} {o : Nat} (h : o ∈ rd) : o ∈ fpOf rd δ := by
  cases δ with
  | none => exact h
  | some p => simp [fpOf, h]

theorem StApp_local {esh bytes s x v rd δ} (h : StApp esh bytes s x σ v rd δ) (ho : ∀ o ∈ fpOf rd δ, τ o = σ o) : StApp esh bytes s x τ v rd δ := by
  obtain ⟨n, cells, rdx, h1, h2, h3⟩ := h
  rcases h3 with ⟨h4, h5, rfl, h7⟩ | ⟨h4, rfl, h5, o, h6, h7, rfl⟩ | h5
  · exact ⟨n, cells, rd, Src_local h1 (fun o h => ho o (fp_sub h)), h2, .inl ⟨h4, h5, rfl, h7⟩⟩
  · exact ⟨n, cells, rd, Src_local h1 (fun o h => ho o (fp_sub h)), h2, .inr (.inl ⟨h4, rfl, h5, o, by rw [ho _ (by simp [fpOf])]; exact h6, h7, rfl⟩)⟩
  · split at h5
    · obtain ⟨h4, a, b, rfl, c⟩ := h5
      exact ⟨n, cells, rd, Src_local h1 (fun o h => ho o (fp_sub h)), h2, .inr (.inr ⟨h4, a, b, rfl, StNewSl_local c (fun o h => ho o (by
        cases δ with
        | none => simp [fpOf] at h
        | some p => simp [fpOf] at h ⊢; exact .inl h))⟩)⟩
    · obtain ⟨h4, a, b, b', rfl, c⟩ := h5
      exact ⟨n, cells, rd, Src_local h1 (fun o h => ho o (fp_sub h)), h2, .inr (.inr ⟨h4, a, b, b', rfl, StNewSl_local c (fun o h => ho o (by
        cases δ with
        | none => simp [fpOf] at h
        | some p => simp [fpOf] at h ⊢; exact .inl h))⟩)⟩
    · obtain ⟨a, b, b', rfl, cs, c, d, rfl⟩ := h5
      exact ⟨n, cells, rdx, Src_local h1 (fun o h => ho o (fp_sub (by simp [h]))), h2, .inr (.inr ⟨a, b, b', rfl, cs, by rw [ho _ (by simp [fpOf])]; exact c, d, rfl⟩)⟩
    · exact h5.elim

theorem StCpy_local {esh s x v rd δ} (h : StCpy esh s x σ v rd δ) (ho : ∀ o ∈ fpOf rd δ, τ o = σ o) : StCpy esh s x τ v rd δ := by
  obtain ⟨n, cells, rdx, h1, h2, h3⟩ := h
  split at h3
  · obtain ⟨a, b, c, rfl, cs, d, rfl⟩ := h3
    exact ⟨n, cells, rd, Src_local h1 (fun o h => ho o (fp_sub h)), h2, a, b, c, rfl, cs, by rw [ho _ (by simp [fpOf])]; exact d, rfl⟩
  · obtain ⟨a, b, rfl, d⟩ := h3
    exact ⟨n, cells, rd, Src_local h1 (fun o h => ho o (fp_sub h)), h2, a, b, rfl, d⟩
  · exact h3.elim

theorem St_local {r : ROp} {F G : Fm} {v rd δ} (h : St r F σ v rd δ) (hs : ∀ t ∈ r.slots, G t = F t) (ho : ∀ o ∈ fpOf rd δ, τ o = σ o) : St r G τ v rd δ := by
  cases r <;> simp only [ROp.slots, List.mem_append] at hs <;> simp only [St] at h ⊢
  case pick c a b => rw [ev_agree (fun t ht => hs t (.inl ht)), ev_agree (fun t ht => hs t (.inr (.inl ht))), ev_agree (fun t ht => hs t (.inr (.inr ht)))]; exact h
  case new => exact StNew_local h ho
  case box => rw [ev_agree hs]; exact ⟨h.1, StNew_local h.2 ho⟩
  case build => rw [evP_agree hs]; exact h
  case bsl => rw [evP_agree hs]; obtain ⟨cs, h1, h2⟩ := h; exact ⟨cs, h1, StNewSl_local h2 ho⟩
  case load => rw [ev_agree hs]; exact ⟨StLoad_local h.1 (fun o h => ho o (fp_sub h)), h.2⟩
  case store => rw [ev_agree (fun t ht => hs t (.inl ht)), ev_agree (fun t ht => hs t (.inr ht))]; exact StStore_local h ho
  case mkf => rw [evL_agree (fun t ht => hs t (.inl ht)), evL_agree (fun t ht => hs t (.inr ht))]; exact h
  case mksl => rw [ev_agree (fun t ht => hs t (.inl ht)), ev_agree (fun t ht => hs t (.inr ht))]; exact StMksl_local h ho
  case slc => rw [ev_agree (fun t ht => hs t (.inl ht)), evO_agree (fun t ht => hs t (.inr (.inl ht))), evO_agree (fun t ht => hs t (.inr (.inr (.inl ht)))), evO_agree (fun t ht => hs t (.inr (.inr (.inr ht))))]; exact h
  case sls => rw [ev_agree (fun t ht => hs t (.inl ht)), evO_agree (fun t ht => hs t (.inr (.inl ht))), evO_agree (fun t ht => hs t (.inr (.inr ht)))]; exact h
  case b2s =>
    rw [ev_agree hs]
    obtain ⟨⟨n, s, h1, h2, h3⟩, h4⟩ := h
    exact ⟨⟨n, s, Src_local h1 (fun o h => ho o (fp_sub h)), h2, h3⟩, h4⟩
  case app => rw [ev_agree (fun t ht => hs t (.inl ht)), ev_agree (fun t ht => hs t (.inr ht))]; exact StApp_local h ho
  case cpy => rw [ev_agree (fun t ht => hs t (.inl ht)), ev_agree (fun t ht => hs t (.inr ht))]; exact StCpy_local h ho
  all_goals first
    | (rw [ev_agree hs]; exact h)
    | (rw [ev_agree (fun t ht => hs t (.inl ht)), ev_agree (fun t ht => hs t (.inr ht))]; exact h)
end

def LG.agrees (le : LG) (σ τ : Hp) : Prop := match le with | .acc fp _ => ∀ o ∈ fp, τ o = σ o | .eff => τ = σ
def LG.after (le : LG) (σ' τ : Hp) (o : Nat) : Ob := match le with | .acc _ wr => if wr = some o then σ' o else τ o | .eff => σ' o

/-- The heap behind an operation that was met in another one. -/
theorem StepG_local {P : Program} {c : RC} {F G : Fm} {σ σ' τ : Hp} {v : AV} {le : LG} (h : StepG P c F σ v σ' le) (hs : ∀ t ∈ c.slots, G t = F t)
    (ho : le.agrees σ τ) : ∃ τ', StepG P c G τ v τ' le ∧ (∀ o, τ' o = le.after σ' τ o) := by
  have hcall : ∀ f args, StepCall P f args σ v σ' le → ∃ τ', StepCall P f args τ v τ' le ∧ (∀ o, τ' o = le.after σ' τ o) := by
    rintro f args (⟨h1, h2, h3, rfl, rfl⟩ | ⟨h1, rfl⟩)
    · exact ⟨τ, .inl ⟨h1, h2, h3, rfl, rfl⟩, fun o => by simp [LG.after]⟩
    · simp only [LG.agrees] at ho; subst ho
      exact ⟨σ', .inr ⟨h1, rfl⟩, fun o => rfl⟩
  cases c with
  | op r =>
    obtain ⟨rd, δ, ⟨v0, h1, h1w⟩, rfl, rfl⟩ := h
    refine ⟨ap τ δ, ⟨rd, δ, ⟨v0, St_local h1 hs ho, h1w⟩, rfl, rfl⟩, fun o => ?_⟩
    cases δ with
    | none => simp [ap, LG.after]
    | some p =>
      obtain ⟨o', x⟩ := p
      by_cases e : o' = o
      · subst e; simp [ap, LG.after]
      · have e' : o ≠ o' := fun h => e h.symm
        simp [ap, LG.after, upd_ne _ _ e', e]
  | call f args =>
    simp only [StepG, RC.slots] at h hs ⊢
    rw [evL_agree hs]
    exact hcall _ _ h
  | callv x args =>
    simp only [StepG, RC.slots, List.mem_append] at h hs ⊢
    rw [evL_agree (fun t ht => hs t (.inr ht)), ev_agree (fun t ht => hs t (.inl ht))]
    generalize ev F x = q at h ⊢
    cases q <;> try exact h.elim
    rename_i f first caps
    cases f <;> try exact h.elim
    obtain ⟨h0, h⟩ := h
    obtain ⟨τ', h1, h2⟩ := hcall _ _ h
    exact ⟨τ', ⟨h0, h1⟩, h2⟩
  | inv x m args =>
    simp only [StepG, RC.slots, List.mem_append] at h hs ⊢
    rw [evL_agree (fun t ht => hs t (.inr ht)), ev_agree (fun t ht => hs t (.inl ht))]
    generalize ev F x = q at h ⊢
    cases q <;> try exact h.elim
    rename_i t v0
    simp only at h ⊢
    cases hm : methOf P t m with
    | none => simp only [hm] at h
    | some f =>
      simp only [hm] at h ⊢
      obtain ⟨h0, h⟩ := h
      obtain ⟨τ', h1, h2⟩ := hcall _ _ h
      exact ⟨τ', ⟨h0, h1⟩, h2⟩

/-- What was changed is what the entry says. -/
theorem StepG_changes {P : Program} {c : RC} {F : Fm} {σ σ' : Hp} {v : AV} {fp wr} (h : StepG P c F σ v σ' (.acc fp wr)) : (∀ o, wr ≠ some o → σ' o = σ o) ∧ (∀ o, wr = some o → o ∈ fp) := by
  have hcall : ∀ f args, StepCall P f args σ v σ' (.acc fp wr) → (∀ o, wr ≠ some o → σ' o = σ o) ∧ (∀ o, wr = some o → o ∈ fp) := by
    rintro f args (⟨h1, h2, h3, rfl, h5⟩ | ⟨h1, h5⟩)
    · cases h5; exact ⟨fun _ _ => rfl, fun o h => by cases h⟩
    · cases h5
  cases c with
  | op r =>
    obtain ⟨rd, δ, h1, rfl, h2⟩ := h
    cases h2
    cases δ with
    | none => exact ⟨fun _ _ => rfl, fun o h => by cases h⟩
    | some p =>
      obtain ⟨o', x⟩ := p
      refine ⟨fun o h => ?_, fun o h => by cases h; simp [fpOf]⟩
      have e' : o ≠ o' := fun h' => h (by simp [h'])
      simp [ap, upd_ne _ _ e']
  | call f args => exact hcall _ _ h
  | callv x args =>
    simp only [StepG] at h
    split at h
    · exact hcall _ _ h.2
    · exact h.elim
  | inv x m args =>
    simp only [StepG] at h
    split at h
    · split at h
      · exact hcall _ _ h.2
      · exact h.elim
    · exact h.elim
end Go.Ab
