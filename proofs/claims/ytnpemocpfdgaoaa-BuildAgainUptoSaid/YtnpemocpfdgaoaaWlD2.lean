/- An operation's result hangs on its operands and on the objects that it touches, on nothing else. -/
import Derived.Test.YtnpemocpfdgaoaaWlC2
set_option linter.unusedVariables false
set_option linter.unusedSimpArgs false
namespace Go.Ab
open Go.RowKit

def Opd.slot : Opd -> List Nat
 | .t i => [i]
 | .v _ => []
def a6L : List (Nat × Nat × Opd) -> List Nat
 | [] => []
 | (_, _, x) :: r => x.slot ++ a6L r
def a3W : List Opd -> List Nat
 | [] => []
 | x :: r => x.slot ++ a3W r
def a3X : Option Opd -> List Nat
 | none => []
 | some x => x.slot

def ROp.slots : ROp -> List Nat
 | .mv x | .box x | .nchk x | .un _ x | .cint _ x | .cstr x | .b2s x | .s2b x | .mki _ x | .fad _ x | .ext _ x | .fld _ _ x | .len _ x | .load _ x | .tas _ x | .clr _ _ x => x.slot
 | .pick c a b => c.slot ++ (a.slot ++ b.slot)
 | .new _ => []
 | .build _ ps => a6L ps
 | .bsl _ _ _ ps => a6L ps
 | .store _ a x => a.slot ++ x.slot
 | .bin _ _ x y | .eqs _ _ x y | .mn _ x y | .iad _ _ x y | .idxs x y | .idxa _ _ x y | .app _ _ x y | .cpy _ x y => x.slot ++ y.slot
 | .mkf _ a b => a3W a ++ a3W b
 | .mksl _ _ _ l c => l.slot ++ c.slot
 | .slc _ x lo hi mx => x.slot ++ (a3X lo ++ (a3X hi ++ a3X mx))
 | .sls x lo hi => x.slot ++ (a3X lo ++ a3X hi)
 | .slp _ _ x lo hi => x.slot ++ (a3X lo ++ a3X hi)

def RC.slots : RC -> List Nat
 | .op r => r.slots
 | .call _ args => a3W args
 | .callv x args => x.slot ++ a3W args
 | .inv x _ args => x.slot ++ a3W args

section
variable {F G : Fm}
theorem p8 {x : Opd} (h : ∀ t ∈ x.slot, G t = F t) : ev G x = ev F x := by
 cases x with
 | t i => exact h i (by simp [Opd.slot])
 | v x => rfl
theorem a4w : ∀ {ps : List (Nat × Nat × Opd)}, (∀ t ∈ a6L ps, G t = F t) -> evP G ps = evP F ps
 | [], _ => rfl
 | (a, b, x) :: r, h => by
   simp only [a6L, List.mem_append] at h
   simp only [evP]
   rw [p8 (fun t ht => h t (.inl ht)), a4w (fun t ht => h t (.inr ht))]
theorem a1I : ∀ {ps : List Opd}, (∀ t ∈ a3W ps, G t = F t) -> evL G ps = evL F ps
 | [], _ => rfl
 | x :: r, h => by
   simp only [a3W, List.mem_append] at h
   simp only [evL]
   rw [p8 (fun t ht => h t (.inl ht)), a1I (fun t ht => h t (.inr ht))]
theorem a1f {x : Option Opd} (h : ∀ t ∈ a3X x, G t = F t) : evO G x = evO F x := by
 cases x with
 | none => rfl
 | some x => simp only [evO]; rw [p8 h]
end

section
variable {σ τ : Hp}
theorem a0w {esh x n cells rd} (h : Src esh x σ n cells rd) (ho : ∀ o ∈ rd, τ o = σ o) : Src esh x τ n cells rd := by
 unfold Src at *
 split at h
 ·exact h
 ·exact h
 ·exact h
 ·obtain ⟨h1, h2, rfl, cs, h4, h5⟩ := h
  exact ⟨h1, h2, rfl, cs, by rw [ho _ zS]; exact h4, h5⟩
 ·exact h
 ·exact h

theorem a4x {cs v rd δ} (h : a8Q cs σ v rd δ) (ho : ∀ o ∈ y8 rd δ, τ o = σ o) : a8Q cs τ v rd δ := by
 obtain ⟨h0, h | h⟩ := h
 ·obtain ⟨o, h1, h2, rfl⟩ := h
  exact ⟨h0, .inl ⟨o, by rw [ho o (by simp [y8])]; exact h1, h2, rfl⟩⟩
 ·exact ⟨h0, .inr h⟩

theorem a0Y {ex esh n cs v rd δ} (h : a1c ex esh n cs σ v rd δ) (ho : ∀ o ∈ y8 rd δ, τ o = σ o) : a1c ex esh n cs τ v rd δ := by
 obtain ⟨h0, ha, hb, h | h⟩ := h
 ·obtain ⟨o, h1, h2, rfl⟩ := h
  exact ⟨h0, ha, hb, .inl ⟨o, by rw [ho o (by simp [y8])]; exact h1, h2, rfl⟩⟩
 ·exact ⟨h0, ha, hb, .inr h⟩

theorem a6M {sh x v rd} (h : a2e sh x σ v rd) (ho : ∀ o ∈ rd, τ o = σ o) : a2e sh x τ v rd := by
 unfold a2e at *
 split at h
 ·obtain ⟨rfl, cs, h1, h2⟩ := h
  exact ⟨rfl, cs, by rw [ho _ zS]; exact h1, h2⟩
 ·exact h
 ·exact h

theorem a6g {n a x v rd δ} (h : a2M n a x σ v rd δ) (ho : ∀ o ∈ y8 rd δ, τ o = σ o) : a2M n a x τ v rd δ := by
 unfold a2M at *
 split at h
 ·obtain ⟨h1, h2, cs, h3, h4, h5, h6, rfl⟩ := h
  exact ⟨h1, h2, cs, by rw [ho _ (by simp [y8])]; exact h3, h4, h5, h6, rfl⟩
 ·exact h

theorem a6N {esh bytes z l c v rd δ} (h : a4q esh bytes z l c σ v rd δ) (ho : ∀ o ∈ y8 rd δ, τ o = σ o) : a4q esh bytes z l c τ v rd δ := by
 unfold a4q at *
 split at h
 ·obtain ⟨h1, h2, h3, h4, h5⟩ := h
  exact ⟨h1, h2, h3, h4, a0Y h5 ho⟩
 ·exact h

theorem a2i {rd : List Nat} {δ : Option (Nat × Ob)} {o : Nat} (h : o ∈ rd) : o ∈ y8 rd δ := by
 cases δ with
 | none => exact h
 | some p => simp [y8, h]

theorem a7C {esh bytes s x v rd δ} (h : a9K esh bytes s x σ v rd δ) (ho : ∀ o ∈ y8 rd δ, τ o = σ o) : a9K esh bytes s x τ v rd δ := by
 obtain ⟨n, cells, rdx, h1, h2, h3⟩ := h
 rcases h3 with ⟨h4, h5, rfl, h7⟩ | ⟨h4, rfl, h5, o, h6, h7, rfl⟩ | h5
 ·exact ⟨n, cells, rd, a0w h1 (fun o h => ho o (a2i h)), h2, .inl ⟨h4, h5, rfl, h7⟩⟩
 ·exact ⟨n, cells, rd, a0w h1 (fun o h => ho o (a2i h)), h2, .inr (.inl ⟨h4, rfl, h5, o, by rw [ho _ (by simp [y8])]; exact h6, h7, rfl⟩)⟩
 ·split at h5
  ·obtain ⟨h4, a, b, rfl, c⟩ := h5
   exact ⟨n, cells, rd, a0w h1 (fun o h => ho o (a2i h)), h2, .inr (.inr ⟨h4, a, b, rfl, a0Y c (fun o h => ho o (by
    cases δ with
    | none => simp [y8] at h
    | some p => simp [y8] at h ⊢; exact .inl h))⟩)⟩
  ·obtain ⟨h4, a, b, b', rfl, c⟩ := h5
   exact ⟨n, cells, rd, a0w h1 (fun o h => ho o (a2i h)), h2, .inr (.inr ⟨h4, a, b, b', rfl, a0Y c (fun o h => ho o (by
    cases δ with
    | none => simp [y8] at h
    | some p => simp [y8] at h ⊢; exact .inl h))⟩)⟩
  ·obtain ⟨a, b, b', rfl, cs, c, d, rfl⟩ := h5
   exact ⟨n, cells, rdx, a0w h1 (fun o h => ho o (a2i (by simp [h]))), h2, .inr (.inr ⟨a, b, b', rfl, cs, by rw [ho _ (by simp [y8])]; exact c, d, rfl⟩)⟩
  ·exact h5.elim

theorem a6O {esh s x v rd δ} (h : a8m esh s x σ v rd δ) (ho : ∀ o ∈ y8 rd δ, τ o = σ o) : a8m esh s x τ v rd δ := by
 obtain ⟨o, ver, off, m, o', ver', off', k, cells, a, b, c0, c, d, e, f, cs, g, rfl⟩ := h
 exact ⟨o, ver, off, m, o', ver', off', k, cells, a, b, c0, c, a0w d (fun o h => ho o (a2i h)), e, f, cs, by rw [ho _ (by simp [y8])]; exact g, rfl⟩
theorem a6P {esh s x v rd δ} (h : a6I esh s x σ v rd δ) (ho : ∀ o ∈ y8 rd δ, τ o = σ o) : a6I esh s x τ v rd δ := by
 obtain ⟨o, ver, off, m, ex, xs, a, b, c0, c, d, e, f, cs, g, rfl⟩ := h
 exact ⟨o, ver, off, m, ex, xs, a, b, c0, c, d, e, f, cs, by rw [ho _ (by simp [y8])]; exact g, rfl⟩
theorem a7D {n esh x lo hi v rd} (h : a6H n esh x lo hi σ v rd) (ho : ∀ o ∈ rd, τ o = σ o) : a6H n esh x lo hi τ v rd := by
 unfold a6H at *
 split at h
 ·obtain ⟨rfl, cs, l, h', h1, h2⟩ := h
  exact ⟨rfl, cs, l, h', by rw [ho _ zS]; exact h1, h2⟩
 ·exact h
 ·exact h
theorem a7E {esh z x v rd δ} (h : b1U esh z x σ v rd δ) (ho : ∀ o ∈ y8 rd δ, τ o = σ o) : b1U esh z x τ v rd δ := by
 obtain ⟨h1, h2, h⟩ := h
 refine ⟨h1, h2, ?_⟩
 split at h
 ·exact h
 ·obtain ⟨a, b0, b, cs, c, rfl⟩ := h
  exact ⟨a, b0, b, cs, by rw [ho _ (by simp [y8])]; exact c, rfl⟩
 ·exact h

theorem a7F {esh s x v rd δ} (h : a9L esh s x σ v rd δ) (ho : ∀ o ∈ y8 rd δ, τ o = σ o) : a9L esh s x τ v rd δ := by
 obtain ⟨n, cells, rdx, h1, h2, h3⟩ := h
 split at h3
 ·obtain ⟨a, b, c, rfl, cs, d, rfl⟩ := h3
  exact ⟨n, cells, rd, a0w h1 (fun o h => ho o (a2i h)), h2, a, b, c, rfl, cs, by rw [ho _ (by simp [y8])]; exact d, rfl⟩
 ·obtain ⟨a, b, rfl, d⟩ := h3
  exact ⟨n, cells, rd, a0w h1 (fun o h => ho o (a2i h)), h2, a, b, rfl, d⟩
 ·exact h3.elim

theorem a8o {r : ROp} {F G : Fm} {v rd δ} (h : St r F σ v rd δ) (hs : ∀ t ∈ r.slots, G t = F t) (ho : ∀ o ∈ y8 rd δ, τ o = σ o) : St r G τ v rd δ := by
 cases r <;> simp only [ROp.slots, List.mem_append] at hs <;> simp only [St] at h ⊢
 case pick c a b => rw [p8 (fun t ht => hs t (.inl ht)), p8 (fun t ht => hs t (.inr (.inl ht))), p8 (fun t ht => hs t (.inr (.inr ht)))]; exact h
 case new => exact a4x h ho
 case box => rw [p8 hs]; exact ⟨h.1, a4x h.2 ho⟩
 case build => rw [a4w hs]; exact h
 case bsl => rw [a4w hs]; obtain ⟨cs, h1, h2⟩ := h; exact ⟨cs, h1, a0Y h2 ho⟩
 case load => rw [p8 hs]; exact ⟨a6M h.1 (fun o h => ho o (a2i h)), h.2⟩
 case store => rw [p8 (fun t ht => hs t (.inl ht)), p8 (fun t ht => hs t (.inr ht))]; exact a6g h ho
 case mkf => rw [a1I (fun t ht => hs t (.inl ht)), a1I (fun t ht => hs t (.inr ht))]; exact h
 case mksl => rw [p8 (fun t ht => hs t (.inl ht)), p8 (fun t ht => hs t (.inr ht))]; exact a6N h ho
 case slc => rw [p8 (fun t ht => hs t (.inl ht)), a1f (fun t ht => hs t (.inr (.inl ht))), a1f (fun t ht => hs t (.inr (.inr (.inl ht)))), a1f (fun t ht => hs t (.inr (.inr (.inr ht))))]; exact h
 case slp => rw [p8 (fun t ht => hs t (.inl ht)), a1f (fun t ht => hs t (.inr (.inl ht))), a1f (fun t ht => hs t (.inr (.inr ht)))]; exact ⟨a7D h.1 (fun o h => ho o (a2i h)), h.2⟩
 case clr => rw [p8 hs]; exact a7E h ho
 case sls => rw [p8 (fun t ht => hs t (.inl ht)), a1f (fun t ht => hs t (.inr (.inl ht))), a1f (fun t ht => hs t (.inr (.inr ht)))]; exact h
 case b2s =>
  rw [p8 hs]
  obtain ⟨⟨n, s, h1, h2, h3⟩, h4⟩ := h
  exact ⟨⟨n, s, a0w h1 (fun o h => ho o (a2i h)), h2, h3⟩, h4⟩
 case app => rw [p8 (fun t ht => hs t (.inl ht)), p8 (fun t ht => hs t (.inr ht))]; exact a7C h ho
 case cpy => rw [p8 (fun t ht => hs t (.inl ht)), p8 (fun t ht => hs t (.inr ht))]; exact h.elim (fun h => .inl (a7F h ho)) (fun h => .inr (h.elim (fun h => .inl (a6O h ho)) (fun h => .inr (a6P h ho))))
 all_goals first
  | (rw [p8 hs]; exact h)
  | (rw [p8 (fun t ht => hs t (.inl ht)), p8 (fun t ht => hs t (.inr ht))]; exact h)
end

def LG.agrees (le : LG) (σ τ : Hp) : Prop := match le with | .acc fp _ => ∀ o ∈ fp, τ o = σ o | .eff => τ = σ | .rdl o J => J (τ o)
def LG.after (le : LG) (σ' τ : Hp) (o : Nat) : Ob := match le with | .acc _ wr => if wr = some o then σ' o else τ o | .eff => σ' o | .rdl _ _ => τ o

theorem a7G {P : Program} {c : RC} {F G : Fm} {σ σ' τ : Hp} {v : AV} {le : LG} (h : StepG P c F σ v σ' le) (hs : ∀ t ∈ c.slots, G t = F t)
  (ho : le.agrees σ τ) : ∃ τ', StepG P c G τ v τ' le /\ (∀ o, τ' o = le.after σ' τ o) := by
 have hcall : ∀ f args, a0X P f args σ v σ' le -> ∃ τ', a0X P f args τ v τ' le /\ (∀ o, τ' o = le.after σ' τ o) := by
  rintro f args (⟨h1, h2, h3, rfl, rfl⟩ | ⟨h1, rfl⟩ | ⟨M, h1, rfl, rfl⟩)
  ·exact ⟨τ, .inl ⟨h1, h2, h3, rfl, rfl⟩, fun o => by simp [LG.after]⟩
  ·simp only [LG.agrees] at ho; subst ho
   exact ⟨σ', .inr (.inl ⟨h1, rfl⟩), fun o => rfl⟩
  ·simp only [LG.agrees] at ho
   exact ⟨τ, .inr (.inr ⟨M, fun ρ hf hρ => h1 ρ hf (fun o h => (hρ o h).trans (ho o h)), rfl, rfl⟩), fun o => by simp [LG.after]⟩
 cases c with
 | op r =>
   rcases h with ⟨rd, δ, ⟨v0, h1, h1w⟩, rfl, rfl⟩ | ⟨hl, o0, J, h1, h2, rfl, rfl⟩
   case inr => exact ⟨τ, .inr ⟨hl, o0, J, fun ρ hρ => (by obtain ⟨rd, v0, a, b⟩ := h1 ρ hρ; exact ⟨rd, v0, a8o a hs (fun _ _ => rfl), b⟩), ho, rfl, rfl⟩, fun o => rfl⟩
   refine ⟨ap τ δ, .inl ⟨rd, δ, ⟨v0, a8o h1 hs ho, h1w⟩, rfl, rfl⟩, fun o => ?_⟩
   cases δ with
   | none => simp [ap, LG.after]
   | some p =>
     obtain ⟨o', x⟩ := p
     by_cases e : o' = o
     ·subst e; simp [ap, LG.after]
     ·have e' : o ≠ o' := fun h => e h.symm
      simp [ap, LG.after, s8 _ _ e', e]
 | call f args =>
   simp only [StepG, RC.slots] at h hs ⊢
   rw [a1I hs]
   exact hcall _ _ h
 | callv x args =>
   simp only [StepG, RC.slots, List.mem_append] at h hs ⊢
   rw [a1I (fun t ht => hs t (.inr ht)), p8 (fun t ht => hs t (.inl ht))]
   generalize ev F x = q at h ⊢
   cases q <;> try exact h.elim
   rename_i f first caps
   cases f <;> try exact h.elim
   obtain ⟨h0, h⟩ := h
   obtain ⟨τ', h1, h2⟩ := hcall _ _ h
   exact ⟨τ', ⟨h0, h1⟩, h2⟩
 | inv x m args =>
   simp only [StepG, RC.slots, List.mem_append] at h hs ⊢
   rw [a1I (fun t ht => hs t (.inr ht)), p8 (fun t ht => hs t (.inl ht))]
   generalize ev F x = q at h ⊢
   cases q <;> try exact h.elim
   rename_i t v0
   simp only at h ⊢
   cases hm : a4u P t m with
   | none =>
     simp only [hm] at h ⊢
     unfold a5y at h ⊢
     split at h
     ·obtain ⟨h0, rfl, y, rd, h1, h2⟩ := h
      simp only [LG.agrees] at ho; subst ho
      exact ⟨σ', ⟨h0, rfl, y, rd, h1, h2⟩, fun o => rfl⟩
     ·exact h.elim
   | some f =>
     simp only [hm] at h ⊢
     obtain ⟨h0, h⟩ := h
     obtain ⟨τ', h1, h2⟩ := hcall _ _ h
     exact ⟨τ', ⟨h0, h1⟩, h2⟩

theorem a2j {P : Program} {c : RC} {F : Fm} {σ σ' : Hp} {v : AV} {o : Nat} {J : Ob -> Prop} (h : StepG P c F σ v σ' (.rdl o J)) : σ' = σ /\ J (σ o) := by
 have hcall : ∀ f args, a0X P f args σ v σ' (.rdl o J) -> False := by
  rintro f args (⟨h1, h2, h3, rfl, h5⟩ | ⟨h1, h5⟩ | ⟨M, h1, rfl, h5⟩) <;> cases h5
 cases c with
 | op r =>
   rcases h with ⟨rd, δ, h1, rfl, h2⟩ | ⟨_, o0, J, _, h1, h3, h2⟩
   ·cases h2
   ·cases h2; exact ⟨h3, h1⟩
 | call f args => exact (hcall _ _ h).elim
 | callv x args =>
   simp only [StepG] at h
   split at h
   ·exact (hcall _ _ h.2).elim
   ·exact h.elim
 | inv x m args =>
   simp only [StepG] at h
   split at h
   ·split at h
    ·exact (hcall _ _ h.2).elim
    ·unfold a5y at h
     split at h
     ·exact absurd h.2.1 zS
     ·exact h.elim
   ·exact h.elim
theorem a3c {P : Program} {c : RC} {F : Fm} {σ σ' : Hp} {v : AV} {fp wr} (h : StepG P c F σ v σ' (.acc fp wr)) : (∀ o, wr ≠ some o -> σ' o = σ o) /\ (∀ o, wr = some o -> o ∈ fp) := by
 have hcall : ∀ f args, a0X P f args σ v σ' (.acc fp wr) -> (∀ o, wr ≠ some o -> σ' o = σ o) /\ (∀ o, wr = some o -> o ∈ fp) := by
  rintro f args (⟨h1, h2, h3, rfl, h5⟩ | ⟨h1, h5⟩ | ⟨M, h1, rfl, h5⟩)
  ·cases h5; exact ⟨fun _ _ => rfl, fun o h => by cases h⟩
  ·cases h5
  ·cases h5; exact ⟨fun _ _ => rfl, fun o h => by cases h⟩
 cases c with
 | op r =>
   rcases h with ⟨rd, δ, h1, rfl, h2⟩ | ⟨_, o0, J, _, _, _, h2⟩
   case inr => cases h2
   cases h2
   cases δ with
   | none => exact ⟨fun _ _ => rfl, fun o h => by cases h⟩
   | some p =>
     obtain ⟨o', x⟩ := p
     refine ⟨fun o h => ?_, fun o h => by cases h; simp [y8]⟩
     have e' : o ≠ o' := fun h' => h (by simp [h'])
     simp [ap, s8 _ _ e']
 | call f args => exact hcall _ _ h
 | callv x args =>
   simp only [StepG] at h
   split at h
   ·exact hcall _ _ h.2
   ·exact h.elim
 | inv x m args =>
   simp only [StepG] at h
   split at h
   ·split at h
    ·exact hcall _ _ h.2
    ·unfold a5y at h
     split at h
     ·exact absurd h.2.1 zS
     ·exact h.elim
   ·exact h.elim
end Go.Ab

/- Regions: in the order of the text, and in any order. -/
namespace Go.Ab
open Go.RowKit

abbrev Fr := List (Nat × AV)
def Fr.get : Fr -> Fm
 | [], _ => .junk
 | (t', v) :: r, t => if t = t' then v else Fr.get r t

theorem Fr.get_cons (fr : Fr) (d : Nat) (v : AV) : Fr.get ((d, v) :: fr) = upd (Fr.get fr) d v := by
 funext t; simp [Fr.get, upd]

section
variable {α : Type}
open Classical in
noncomputable def pick (p : Nat -> Prop) (x0 : α) (f : Nat -> α) : Nat -> α
 | 0 => x0
 | n + 1 => if p n then f n else pick p x0 f n

theorem a0G {p q : Nat -> Prop} {x0 : α} {f : Nat -> α} : ∀ {n : Nat}, (∀ j, j < n -> (p j ↔ q j)) -> pick p x0 f n = pick q x0 f n
 | 0, _ => rfl
 | n + 1, h => by
   simp only [pick]
   rw [a0G (n := n) (fun j hj => h j zO)]
   by_cases hp : p n
   ·rw [if_pos hp, if_pos ((h n zO).1 hp)]
   ·rw [if_neg hp, if_neg (fun hq => hp ((h n zO).2 hq))]

theorem a2D {p : Nat -> Prop} {x0 : α} {f : Nat -> α} {i : Nat} : ∀ {n : Nat}, i <= n -> (∀ j, i <= j -> j < n -> ¬ p j) -> pick p x0 f n = pick p x0 f i
 | 0, h, _ => by simp at h; subst h; rfl
 | n + 1, h, hp => by
   by_cases e : i = n + 1
   ·subst e; rfl
   ·simp only [pick]
    rw [if_neg (hp n zO zO)]
    exact a2D zO (fun j a b => hp j a zO)

theorem b0a {p : Nat -> Prop} {x0 : α} {f : Nat -> α} {i n : Nat} (h : i < n) (hi : p i) (hp : ∀ j, i < j -> j < n -> ¬ p j) : pick p x0 f n = f i := by
 rw [a2D (i := i + 1) h (fun j a b => hp j zO b)]
 simp [pick, hi]
end

def a6Q (acc : List Nat) : List Edge -> Nat
 | [] => 0
 | e :: r => if Region.binds .any e then (1 <<< e.on) ||| (acc.getD e.on 0) ||| a6Q acc r else a6Q acc r

def a2k : List Nat -> List Oper -> List Nat
 | acc, [] => acc
 | acc, o :: r => a2k (acc ++ [a6Q acc o.after.toList]) r

def b2Y (bs : List Nat) (i j : Nat) : Bool := (bs.getD (max i j) 0).testBit (min i j)

theorem a4y {acc : List Nat} {j : Nat} : ∀ {es : List Edge}, (a6Q acc es).testBit j = true -> ∃ e ∈ es, Region.binds .any e = true /\ (e.on = j \/ (acc.getD e.on 0).testBit j = true)
 | [], h => by simp [a6Q] at h
 | e :: r, h => by
   simp only [a6Q] at h
   split at h
   ·rename_i hb
    simp only [Nat.testBit_or, Bool.or_eq_true] at h
    rcases h with (h | h) | h
    ·refine ⟨e, by simp, hb, .inl ?_⟩
     simp [Nat.one_shiftLeft, Nat.testBit_two_pow] at h
     exact h
    ·exact ⟨e, by simp, hb, .inr h⟩
    ·obtain ⟨e', a, b⟩ := a4y h
     exact ⟨e', by simp [a], b⟩
   ·obtain ⟨e', a, b⟩ := a4y h
    exact ⟨e', by simp [a], b⟩

theorem a5z {ls : Nat -> Prop} : ∀ (r : List Oper) (acc : List Nat) (pre : List Oper), acc.length = pre.length ->
  (∀ i o, (pre ++ r)[i]? = some o -> ls i -> ∀ e ∈ o.after.toList, Region.binds .any e = true -> ls e.on) ->
  (∀ i, i < acc.length -> ls i -> ∀ j, (acc.getD i 0).testBit j = true -> ls j) ->
  ∀ i, ls i -> ∀ j, ((a2k acc r).getD i 0).testBit j = true -> ls j
 | [], acc, pre, _, _, hacc, i, hi, j, hj => by
   by_cases h : i < acc.length
   ·exact hacc i h hi j hj
   ·simp only [a2k] at hj
    rw [List.getD_eq_getElem?_getD, List.getElem?_eq_none zO] at hj
    simp at hj
 | o :: r, acc, pre, hl, hcl, hacc, i, hi, j, hj => by
   refine a5z r (acc ++ [a6Q acc o.after.toList]) (pre ++ [o]) (by simp [hl]) (by simpa using hcl) (fun i' hi' hls j' hj' => ?_) i hi j hj
   by_cases h : i' < acc.length
   ·refine hacc i' h hls j' ?_
    simpa [List.getD_eq_getElem?_getD, List.getElem?_append_left h] using hj'
   ·have e : i' = acc.length := by simp at hi'; omega
    subst e
    have hj2 : (a6Q acc o.after.toList).testBit j' = true := by
     simpa [List.getD_eq_getElem?_getD] using hj'
    obtain ⟨e, he1, he2, he3⟩ := a4y hj2
    have h1 := hcl acc.length o (by simp [hl]) hls e he1 he2
    rcases he3 with rfl | he3
    ·exact h1
    ·by_cases hlt : e.on < acc.length
     ·exact hacc e.on hlt h1 j' he3
     ·rw [List.getD_eq_getElem?_getD, List.getElem?_eq_none zO] at he3
      simp at he3

def b5W (n : Nat) : Option Nat -> Bool
 | none => true
 | some d => decide (d < n)

def a3A (P : Program) (n : Nat) (ops : Array Oper) (o : Oper) : Option w8 :=
 match b1W P o.op with
 | none => none
 | some c =>
   if b5W n o.dst then
    match o.guard with
    | none => some ⟨o.dst, none, c⟩
    | some (j, b) => match (ops[j]?).bind (·.dst) with
      | some t => some ⟨o.dst, some (t, b), c⟩
      | none => none
   else none

def t6 (P : Program) (n : Nat) (ops : Array Oper) : List Oper -> Option (List w8)
 | [] => some []
 | o :: r => match a3A P n ops o, t6 P n ops r with
   | some x, some xs => some (x :: xs)
   | _, _ => none

theorem a1J {P n ops o ro} (h : a3A P n ops o = some ro) : b1W P o.op = some ro.c /\ ro.dst = o.dst /\ (∀ d, o.dst = some d -> d < n) /\
  (match o.guard with | none => ro.guard = none | some (j, b) => ∃ t, (ops[j]?).bind (·.dst) = some t /\ ro.guard = some (t, b)) := by
 unfold a3A at h
 split at h
 ·cases h
 ·rename_i c hc
  split at h
  ·rename_i hd
   have hd' : ∀ d, o.dst = some d -> d < n := fun d e => by rw [e] at hd; simpa [b5W] using hd
   split at h
   ·rename_i hg
    cases h
    exact ⟨hc, rfl, hd', rfl⟩
   ·rename_i j b hg
    split at h
    ·rename_i t ht
     cases h
     exact ⟨hc, rfl, hd', t, ht, rfl⟩
    ·cases h
  ·cases h

theorem a0k {P : Program} {n : Nat} {ops : Array Oper} : ∀ {l : List Oper} {rs : List w8}, t6 P n ops l = some rs -> rs.length = l.length /\ ∀ (i : Nat) (o : Oper), l[i]? = some o -> ∃ ro, rs[i]? = some ro /\ a3A P n ops o = some ro
 | [], rs, h => by simp [t6] at h; subst h; simp
 | o :: r, rs, h => by
   simp only [t6] at h
   split at h
   ·rename_i x xs h1 h2
    cases h
    obtain ⟨i1, i2⟩ := a0k h2
    refine ⟨by simp [i1], fun i o' ho => ?_⟩
    cases i with
    | zero => simp at ho; subst ho; exact ⟨x, rfl, h1⟩
    | succ i => exact i2 i o' (by simpa using ho)
   ·cases h

def a5j (fr : Fr) : Option Nat -> AV -> Fr
 | none, _ => fr
 | some d, v => (d, v) :: fr

def putM (F : Fm) : Option Nat -> AV -> Fm
 | none, _ => F
 | some d, v => upd F d v

theorem a1S (fr : Fr) (d : Option Nat) (v : AV) : Fr.get (a5j fr d v) = putM (Fr.get fr) d v := by
 cases d with
 | none => rfl
 | some d => exact Fr.get_cons _ _ _

theorem a5i.putM {g σ n F a d v u} (h : a5i g σ n F a) (hd : ∀ d', d = some d' -> d' < n) (hv : VR g.pm g.L σ v u) : a5i g σ n (Go.Ab.putM F d v) (a.put d u) := by
 cases d with
 | none => exact h
 | some d => exact h.put (hd d rfl) hv

def c1V (want : Bool) (v : AV) : Prop := v = .bool (!want) \/ v = .tup []

def VCops (P : Program) : List w8 -> Fr -> List Ob -> List LE -> (Fr -> List Ob -> List LE -> Prop) -> Prop
 | [], fr, S, log, K => K fr S log
 | o :: r, fr, S, log, K =>
   match o.guard with
   | none => VC1 P o.c (Fr.get fr) S fun v S' le => VCops P r (a5j fr o.dst v) S' (le :: log) K
   | some (t, want) => match Fr.get fr t with
     | .bool b => (b = want -> VC1 P o.c (Fr.get fr) S fun v S' le => VCops P r (a5j fr o.dst v) S' (le :: log) K) /\
       (b = !want -> VCops P r (a5j fr o.dst (.tup [])) S (.acc [] none :: log) K)
     | .tup [] => VCops P r (a5j fr o.dst (.tup [])) S (.acc [] none :: log) K
     | _ => False

def a8p : LE -> LG
 | .acc fp wr => .acc fp wr
 | .eff _ _ => .eff
 | .rdl o J => .rdl o J

theorem a2N {P f args S K} (h : a4v P f args S K) : ∃ v S' le, a0X P f args (hp S) v (hp S') (a8p le) /\ (∀ A B, le = .eff A B -> A = S /\ B = S') /\ K v S' le := by
 rcases h with ⟨v, h1, h2, h3, h4⟩ | ⟨v, S', h1, h2⟩ | ⟨v, M, h1, h2⟩
 ·exact ⟨v, S, .acc [] none, .inl ⟨h1, h2, h3, rfl, rfl⟩, (fun A B e => by cases e), h4⟩
 ·exact ⟨v, S', .eff S S', .inr (.inl ⟨h1, rfl⟩), (fun A B e => by cases e; exact ⟨rfl, rfl⟩), h2⟩
 ·exact ⟨v, S, .acc M none, .inr (.inr ⟨M, h1, rfl, rfl⟩), (fun A B e => by cases e), h2⟩

theorem a4i {P c F S K} (h : VC1 P c F S K) : ∃ v S' le, StepG P c F (hp S) v (hp S') (a8p le) /\ (∀ A B, le = .eff A B -> A = S /\ B = S') /\ K v S' le := by
 cases c with
 | op r =>
   rcases h with ⟨v, rd, δ, h1, h2⟩ | ⟨hl, v, o, J, h1, h2, h3⟩
   ·exact ⟨v, apS S δ, .acc (y8 rd δ) (δ.map (·.1)), .inl ⟨rd, δ, h1, b5V S δ, rfl⟩, (fun A B e => by cases e), h2⟩
   ·exact ⟨v, S, .rdl o J, .inr ⟨hl, o, J, h1, h2, rfl, rfl⟩, (fun A B e => by cases e), h3⟩
 | call f args => exact a2N h
 | callv x args =>
   simp only [VC1] at h
   generalize hq : ev F x = q at h
   cases q <;> try exact h.elim
   rename_i f first caps
   cases f <;> try exact h.elim
   obtain ⟨h0, h⟩ := h
   obtain ⟨v, S', le, h1, h2⟩ := a2N h
   exact ⟨v, S', le, by simp only [StepG, hq]; exact ⟨h0, h1⟩, h2⟩
 | inv x m args =>
   simp only [VC1] at h
   generalize hq : ev F x = q at h
   cases q <;> try exact h.elim
   rename_i t v0
   simp only at h
   cases hm : a4u P t m with
   | none =>
     simp only [hm] at h
     unfold a6K at h
     split at h
     ·rename_i f sh hmv
      obtain ⟨h0, y, rd, v, S', h1, h2, h3⟩ := h
      exact ⟨v, S', .eff S S', by simp only [StepG, hq, hm]; unfold a5y; rw [hmv]; exact ⟨h0, rfl, y, rd, h1, h2⟩, (fun A B e => by cases e; exact ⟨rfl, rfl⟩), h3⟩
     ·exact h.elim
   | some f =>
     simp only [hm] at h
     obtain ⟨h0, h⟩ := h
     obtain ⟨v, S', le, h1, h2⟩ := a2N h
     exact ⟨v, S', le, by simp only [StepG, hq, hm]; exact ⟨h0, h1⟩, h2⟩

theorem a4z {P n ops o ro} {g σ} {F : Fm} {a : Act} (h : a3A P n ops o = some ro) (hf : a5i g σ n F a) :
  (ro.guard = none -> Region.wanted o (yielded ops a.tmps) = true) /\
  (∀ t want b, ro.guard = some (t, want) -> F t = .bool b -> Region.wanted o (yielded ops a.tmps) = (b == want)) /\
  (∀ t want, ro.guard = some (t, want) -> F t = .tup [] -> Region.wanted o (yielded ops a.tmps) = false) := by
 obtain ⟨_, _, _, hg⟩ := a1J h
 cases hgd : o.guard with
 | none =>
   rw [hgd] at hg
   simp only at hg
   exact ⟨fun _ => by simp [Region.wanted, hgd], fun t want b e => (by rw [hg] at e; cases e), fun t want e => (by rw [hg] at e; cases e)⟩
 | some p =>
   obtain ⟨j, w⟩ := p
   rw [hgd] at hg
   obtain ⟨t, h1, h2⟩ := hg
   refine ⟨(fun e => by rw [h2] at e; cases e), fun t' want b e hb => ?_, fun t' want e hb => ?_⟩
   ·rw [h2] at e; cases e
    have hv := hf.get t
    rw [hb] at hv
    generalize hq : a.tmps.getD t undef = q at hv
    cases hv
    have hlt : a.tmps[t]? = some (.bool b) := by
     rw [Array.getD_eq_getD_getElem?] at hq
     cases he : a.tmps[t]? with
     | none => rw [he] at hq; simp [undef] at hq
     | some v => rw [he] at hq; simp at hq; rw [hq]
    simp only [Region.wanted, hgd, yielded, h1, Option.bind_some, hlt]
    cases b <;> cases w <;> rfl
   ·rw [h2] at e; cases e
    have hv := hf.get t
    rw [hb] at hv
    generalize hq : a.tmps.getD t undef = q at hv
    cases hv with
    | tup hl _ =>
      rename_i vs
      simp only [Region.wanted, hgd, yielded, h1, Option.bind_some]
      rw [Array.getD_eq_getD_getElem?] at hq
      cases he : a.tmps[t]? with
      | none => rfl
      | some v => rw [he] at hq; simp at hq; subst hq; rfl
end Go.Ab

/- Regions are sound: in the text's order, and in every order that the edges allow. -/
namespace Go.Ab
open Go.RowKit

structure At (g0 : Gh) (σ0 : Hp) (n : Nat) (F : Fm) (σ : Hp) (a : Act) (w : World) : Prop where
 df : a.defers = []
 ex : ∃ g, g0.le σ0 g σ /\ WRel g σ w /\ a5i g σ n F a

theorem At.skip {g0 σ0 n F σ a w d} (h : At g0 σ0 n F σ a w) (hd : ∀ d', d = some d' -> d' < n) : At g0 σ0 n (putM F d (.tup [])) σ (a.put d undef) w := by
 obtain ⟨h0, g, h1, h2, h3⟩ := h
 exact ⟨by cases d <;> exact h0, g, h1, h2, h3.putM hd (.tup rfl zS)⟩

theorem At.step {P : Program} {o : Oper} {n : Nat} {ops : Array Oper} {ro : w8} (hr : a3A P n ops o = some ro) {g0 σ0 F σ a w} (h : At g0 σ0 n F σ a w) (hfin : b3q σ) {σ' : Hp} {v : AV} {le : LG} (hs : StepG P ro.c F σ v σ' le)
  {next : Act -> World -> Prop} {Q : Exit -> Act -> World -> Prop} (hK : ∀ a' w', At g0 σ0 n (putM F ro.dst v) σ' a' w' -> next a' w') : o.wp P a w next Q := by
 obtain ⟨h0, g, h1, h2, h3⟩ := h
 obtain ⟨hc, hdst, hdn, _⟩ := a1J hr
 refine b1X hc hs hfin h2 h3 (fun u w' g' k1 k2 k3 => hK _ _ ⟨?_, g', h1.trans k1, k2, ?_⟩)
 ·cases o.dst <;> exact h0
 ·rw [hdst]
  exact (h3.mono k1).putM hdn k3

theorem a6h {P : Program} {n : Nat} {ops : Array Oper} {g0 σ0} {Q : Exit -> Act -> World -> Prop} {K : Fr -> List Ob -> List LE -> Prop} : ∀ (l : List Oper) (rs : List w8) (i : Nat) (fr : Fr) (S : List Ob) (log : List LE) (a : Act) (w : World),
  (∀ j (o : Oper), l[j]? = some o -> ops[i + j]? = some o) -> t6 P n ops l = some rs -> VCops P rs fr S log K -> At g0 σ0 n (Fr.get fr) (hp S) a w ->
  (∀ fr' S' log' a' w', K fr' S' log' -> At g0 σ0 n (Fr.get fr') (hp S') a' w' -> Q .normal a' w') -> wpOps P ops Q (List.range' i l.length) a w
 | [], rs, i, fr, S, log, a, w, _, hr, h, hat, hQ => by
   simp [t6] at hr; subst hr
   exact hQ _ _ _ _ _ h hat
 | o :: l, rs, i, fr, S, log, a, w, hl, hr, h, hat, hQ => by
   simp only [t6] at hr
   split at hr
   ·rename_i ro rs' h1 h2
    cases hr
    have hoi : ops[i]? = some o := by simpa using hl 0 o rfl
    have hl' : ∀ j (o' : Oper), l[j]? = some o' -> ops[i + 1 + j]? = some o' := fun j o' hj => by
     have := hl (j + 1) o' (by simpa using hj)
     rwa [show i + (j + 1) = i + 1 + j by omega] at this
    have ih := fun fr S log a w => a6h (Q := Q) (K := K) (g0 := g0) (σ0 := σ0) l rs' (i + 1) fr S log a w hl' h2
    simp only [List.length_cons, List.range'_succ, wpOps, hoi]
    obtain ⟨hc, hdst, hdn, _⟩ := a1J h1
    have hstep : VC1 P ro.c (Fr.get fr) S (fun v S' le => VCops P rs' (a5j fr ro.dst v) S' (le :: log) K) -> o.wp P a w (wpOps P ops Q (List.range' (i + 1) l.length)) Q := fun hv => by
     obtain ⟨v, S', le, k1, _, k3⟩ := a4i hv
     exact At.step h1 hat (a6f _) k1 (fun a' w' hat' => ih _ _ _ _ _ k3 (by rw [a1S]; exact hat') hQ)
    have hat0 := hat
    obtain ⟨_, g, _, _, hf⟩ := hat
    obtain ⟨w1, w2, w3⟩ := a4z h1 hf
    simp only [VCops] at h
    cases hg : ro.guard with
    | none =>
      simp only [hg] at h
      rw [if_pos (w1 hg)]
      exact .inl (hstep h)
    | some p =>
      obtain ⟨t, want⟩ := p
      simp only [hg] at h
      generalize hq : Fr.get fr t = q at h
      split at h
      case h_3 => exact h.elim
      case h_2 =>
       rw [w3 t want hg hq, if_neg zS]
       refine ih _ _ _ _ _ h ?_ hQ
       rw [a1S, hdst]
       exact At.skip hat0 hdn
      rename_i b
      obtain ⟨ha, hb⟩ := h
      rw [w2 t want b hg hq]
      by_cases e : b = want
      ·subst e
       rw [if_pos zS]
       exact .inl (hstep (ha rfl))
      ·have e' : b = !want := by cases b <;> cases want <;> simp_all
       rw [if_neg (by simp [e])]
       refine ih _ _ _ _ _ (hb e') ?_ hQ
       rw [a1S, hdst]
       exact At.skip hat0 hdn
   ·cases hr

def a1u (log : List LE) (i : Nat) : LE := log.reverse.getD i (.acc [] none)

def r5 : LE -> LE -> Prop
 | .acc fp wr, .acc fp' wr' => (match wr with | none => True | some o => o ∉ fp') /\ (match wr' with | none => True | some o => o ∉ fp)
 | .eff S S', .acc fp wr => wr = none /\ ∀ o ∈ fp, hp S' o = hp S o
 | .acc fp wr, .eff S S' => wr = none /\ ∀ o ∈ fp, hp S' o = hp S o
 | .eff _ _, .eff _ _ => False
 | .eff S S', .rdl o J => J (hp S o) /\ J (hp S' o)
 | .rdl o J, .eff S S' => J (hp S o) /\ J (hp S' o)
 | .acc _ wr, .rdl o _ => wr ≠ some o
 | .rdl o _, .acc _ wr => wr ≠ some o
 | .rdl _ _, .rdl _ _ => True

def u7 : List (Nat × Nat) -> List LE -> Prop
 | [], _ => True
 | (i, j) :: ps, log => r5 (a1u log i) (a1u log j) /\ u7 ps log

def RC.quiet : RC -> Bool
 | .op (.mv _) | .op (.pick _ _ _) | .op (.build _ _) | .op (.nchk _) | .op (.bin _ _ _ _) | .op (.eqs _ _ _ _) | .op (.un _ _) | .op (.cint _ _) | .op (.cstr _) | .op (.mki _ _) | .op (.mkf _ _ _)
 | .op (.slc _ _ _ _ _) | .op (.sls _ _ _) | .op (.fad _ _) | .op (.iad _ _ _ _) | .op (.idxs _ _) | .op (.idxa _ _ _ _) | .op (.ext _ _) | .op (.fld _ _ _) | .op (.len _ _) | .op (.mn _ _ _) | .op (.s2b _) | .op (.tas _ _) => true
 | _ => false
def RC.reads : RC -> Bool
 | .op (.load _ _) | .op (.b2s _) | .op (.slp _ _ _ _ _) => true
 | c => c.quiet

def a1g (r : w8) : List Nat :=
 r.c.slots ++ ((match r.guard with | none => [] | some (t, _) => [t]) ++ (match r.dst with | none => [] | some d => [d]))

def a5A (ops : List Oper) (rs : List w8) (pairs : List (Nat × Nat)) : Bool :=
 let bs := a2k [] ops
 let n := ops.length
 (List.range n).all fun i =>
  ((ops[i]?).map fun o => o.after.toList.all fun e => !Region.binds .any e || decide (e.on < i)).getD true &&
  (List.range n).all fun j =>
   if i < j && !b2Y bs i j then
    match rs[i]?, rs[j]? with
    | some x, some y =>
      (x.c.quiet || y.c.quiet || (x.c.reads && y.c.reads) || pairs.contains (i, j)) &&
      (match x.dst with | none => true | some d => !(a1g y).contains d) &&
      (match y.dst with | none => true | some d => !(a1g x).contains d)
    | _, _ => true
   else true
theorem a4j {P c F σ v σ' le} (hq : RC.quiet c = true) (h : StepG P c F σ v σ' le) : σ' = σ /\ le = .acc [] none := by
 cases c with
 | op r =>
   rcases h with ⟨rd, δ, ⟨_, h1, _⟩, rfl, rfl⟩ | ⟨hl, _⟩
   case inr => cases r <;> simp [RC.quiet] at hq <;> simp [ROp.isL] at hl
   cases r <;> simp [RC.quiet] at hq <;> simp only [St] at h1 <;> first
    | (obtain ⟨_, rfl, rfl⟩ := h1; exact ⟨rfl, rfl⟩)
 | _ => simp [RC.quiet] at hq

theorem b1Y {P c F σ v σ' le} (hq : RC.reads c = true) (h : StepG P c F σ v σ' le) : σ' = σ := by
 cases c with
 | op r =>
   by_cases hq' : RC.quiet (.op r) = true
   ·exact (a4j hq' h).1
   ·rcases h with ⟨rd, δ, ⟨_, h1, _⟩, rfl, rfl⟩ | ⟨_, o, J, _, _, h3, _⟩
    case inr => exact h3
    cases r <;> simp [RC.reads, RC.quiet] at hq hq' <;> simp only [St] at h1
    ·obtain ⟨_, rfl⟩ := h1; rfl
    ·obtain ⟨_, rfl⟩ := h1; rfl
    ·obtain ⟨_, rfl⟩ := h1; rfl
 | _ => simp [RC.reads, RC.quiet] at hq

structure Rec (P : Program) (rs : List w8) (N : Nat) where
 F : Nat -> Fm
 S : Nat -> List Ob
 val : Nat -> AV
 le : Nat -> LE
 go : ∀ i (ro : w8), i < N -> rs[i]? = some ro ->
  ((match ro.guard with | none => True | some (t, want) => F i t = .bool want) /\ StepG P ro.c (F i) (hp (S i)) (val i) (hp (S (i + 1))) (a8p (le i)) /\ (∀ A B, le i = .eff A B -> A = S i /\ B = S (i + 1))) \/
  ((match ro.guard with | none => False | some (t, want) => c1V want (F i t)) /\ val i = .tup [] /\ S (i + 1) = S i /\ le i = .acc [] none)
 next : ∀ i (ro : w8), i < N -> rs[i]? = some ro -> F (i + 1) = putM (F i) ro.dst (val i)

def Rec.log {P rs N} (r : Rec P rs N) : Nat -> List LE
 | 0 => []
 | n + 1 => r.le n :: r.log n

theorem a6R {P : Program} {K : Fr -> List Ob -> List LE -> Prop} : ∀ (rs : List w8) (fr : Fr) (S : List Ob) (log : List LE), VCops P rs fr S log K ->
  ∃ (r : Rec P rs rs.length) (fr' : Fr), r.F 0 = Fr.get fr /\ r.S 0 = S /\ Fr.get fr' = r.F rs.length /\ K fr' (r.S rs.length) (r.log rs.length ++ log)
 | [], fr, S, log, h => ⟨⟨fun _ => Fr.get fr, fun _ => S, fun _ => .junk, fun _ => .acc [] none, fun i ro hi => by simp at hi, fun i ro hi => by simp at hi⟩, fr, rfl, rfl, rfl, h⟩
 | ro :: rs, fr, S, log, h => by
   have key : ∀ v S' le, (((match ro.guard with | none => True | some (t, want) => Fr.get fr t = .bool want) /\ StepG P ro.c (Fr.get fr) (hp S) v (hp S') (a8p le) /\ (∀ A B, le = .eff A B -> A = S /\ B = S')) \/
     ((match ro.guard with | none => False | some (t, want) => c1V want (Fr.get fr t)) /\ v = .tup [] /\ S' = S /\ le = .acc [] none)) ->
     VCops P rs (a5j fr ro.dst v) S' (le :: log) K ->
     ∃ (r : Rec P (ro :: rs) (ro :: rs).length) (fr' : Fr), r.F 0 = Fr.get fr /\ r.S 0 = S /\ Fr.get fr' = r.F (ro :: rs).length /\ K fr' (r.S (ro :: rs).length) (r.log (ro :: rs).length ++ log) := fun v S' le hstep hv => by
    obtain ⟨r, fr', r1, r2, r3, r4⟩ := a6R rs _ _ _ hv
    let r' : Rec P (ro :: rs) (ro :: rs).length := {
     F := fun i => match i with | 0 => Fr.get fr | i + 1 => r.F i
     S := fun i => match i with | 0 => S | i + 1 => r.S i
     val := fun i => match i with | 0 => v | i + 1 => r.val i
     le := fun i => match i with | 0 => le | i + 1 => r.le i
     go := fun i ro' hi hro => by
      cases i with
      | zero =>
        simp at hro; subst hro
        simp only [r2]
        exact hstep
      | succ i => exact r.go i ro' (by simpa using hi) (by simpa using hro)
     next := fun i ro' hi hro => by
      cases i with
      | zero => simp at hro; subst hro; simp only [r1]; exact a1S _ _ _
      | succ i => exact r.next i ro' (by simpa using hi) (by simpa using hro) }
    have hlog : ∀ n, r'.log (n + 1) = r.log n ++ [le] := by
     intro n
     induction n with
     | zero => rfl
     | succ n ih => show r'.le (n + 1) :: r'.log (n + 1) = _; rw [ih]; rfl
    refine ⟨r', fr', rfl, rfl, r3, ?_⟩
    show K fr' (r.S rs.length) (r'.log (rs.length + 1) ++ log)
    rw [hlog]; simpa using r4
   simp only [VCops] at h
   cases hg : ro.guard with
   | none =>
     simp only [hg] at h
     obtain ⟨v, S', le, k1, k2, k3⟩ := a4i h
     exact key v S' le (.inl ⟨by simp [hg], k1, k2⟩) k3
   | some p =>
     obtain ⟨t, want⟩ := p
     simp only [hg] at h
     generalize hq : Fr.get fr t = q at h
     split at h
     case h_3 => exact h.elim
     case h_2 => exact key (.tup []) S (.acc [] none) (.inr ⟨by simp [hg, hq, c1V], rfl, rfl, rfl⟩) h
     rename_i b
     obtain ⟨ha, hb⟩ := h
     by_cases e : b = want
     ·subst e
      obtain ⟨v, S', le, k1, k2, k3⟩ := a4i (ha rfl)
      exact key v S' le (.inl ⟨by simp [hg, hq], k1, k2⟩) k3
     ·have e' : b = !want := by cases b <;> cases want <;> simp_all
      exact key (.tup []) S (.acc [] none) (.inr ⟨by simp [hg, hq, e', c1V], rfl, rfl, rfl⟩) (hb e')

theorem a3B {P rs N} (r : Rec P rs N) : ∀ n, (r.log n).length = n
 | 0 => rfl
 | n + 1 => by simp [Rec.log, a3B r n]

theorem a0Z {P rs N} (r : Rec P rs N) : ∀ (n i : Nat), i < n -> a1u (r.log n) i = r.le i
 | 0, i, h => by omega
 | n + 1, i, h => by
   unfold a1u
   rw [Rec.log, List.reverse_cons]
   by_cases e : i = n
   ·subst e
    simp [List.getD_eq_getElem?_getD, a3B]
   ·have := a0Z r n i zO
    unfold a1u at this
    rw [List.getD_eq_getElem?_getD, List.getElem?_append_left (by simp [a3B]; omega), <- List.getD_eq_getElem?_getD]
    exact this

theorem a2l : ∀ {ps : List (Nat × Nat)} {log : List LE}, u7 ps log -> ∀ i j, (i, j) ∈ ps -> r5 (a1u log i) (a1u log j)
 | [], _, _, i, j, h => by simp at h
 | (a, b) :: ps, log, h, i, j, hm => by
   obtain ⟨h1, h2⟩ := h
   rcases List.mem_cons.1 hm with h | h
   ·cases h; exact h1
   ·exact a2l h2 i j h

section
variable {P : Program} {rs : List w8} {N : Nat} (r : Rec P rs N)

def Rec.W (o i : Nat) : Prop := i < N /\ hp (r.S (i + 1)) o ≠ hp (r.S i) o
def wrT (rs : List w8) (t i : Nat) : Prop := ∃ ro, rs[i]? = some ro /\ ro.dst = some t

theorem Rec.F_pick (hN : N = rs.length) (t : Nat) : ∀ k, k <= N -> r.F k t = pick (wrT rs t) (r.F 0 t) r.val k
 | 0, _ => rfl
 | k + 1, h => by
   have hlt : k < rs.length := by omega
   have hro : rs[k]? = some rs[k] := List.getElem?_eq_getElem hlt
   have ih := Rec.F_pick hN t k zO
   rw [r.next k rs[k] zO hro]
   simp only [pick]
   cases hd : rs[k].dst with
   | none =>
     rw [if_neg (by rintro ⟨ro, e1, e2⟩; rw [hro] at e1; cases e1; rw [hd] at e2; cases e2)]
     exact ih
   | some d =>
     by_cases e : t = d
     ·subst e
      rw [if_pos ⟨_, hro, hd⟩]
      simp [putM]
     ·rw [if_neg (by rintro ⟨ro, e1, e2⟩; rw [hro] at e1; cases e1; rw [hd] at e2; cases e2; exact e rfl)]
      simp only [putM, s8 _ _ e]
      exact ih

theorem Rec.S_pick (o : Nat) : ∀ k, k <= N -> hp (r.S k) o = pick (r.W o) (hp (r.S 0) o) (fun i => hp (r.S (i + 1)) o) k
 | 0, _ => rfl
 | k + 1, h => by
   simp only [pick]
   by_cases e : r.W o k
   ·rw [if_pos e]
   ·rw [if_neg e, <- Rec.S_pick o k zO]
    have : hp (r.S (k + 1)) o = hp (r.S k) o := Classical.byContradiction fun hne => e ⟨by omega, hne⟩
    exact this

noncomputable def Rec.Fl (ls : Nat -> Prop) : Fm := fun t => pick (fun i => ls i /\ wrT rs t i) (r.F 0 t) r.val N
noncomputable def Rec.σl (ls : Nat -> Prop) : Hp := fun o => pick (fun i => ls i /\ r.W o i) (hp (r.S 0) o) (fun i => hp (r.S (i + 1)) o) N

theorem b0b {α : Type _} {p : Nat -> Prop} {d : α} {f : Nat -> α} (Q : α -> Prop) (h0 : Q d) : ∀ k, (∀ i, i < k -> Q (f i)) -> Q (pick p d f k)
 | 0, _ => h0
 | k + 1, h => by
   simp only [pick]
   by_cases e : p k
   ·rw [if_pos e]; exact h k zO
   ·rw [if_neg e]; exact b0b Q h0 k (fun i hi => h i zO)
theorem Rec.σl_fin (ls : Nat -> Prop) : b3q (r.σl ls) := by
 have hb : ∀ k, ∃ B, ∀ i, i <= k -> ∀ o, B <= o -> hp (r.S i) o = .virgin := fun k => by
  induction k with
  | zero => obtain ⟨B, hB⟩ := a6f (r.S 0); exact ⟨B, fun i hi o ho => Nat.le_zero.1 hi ▸ hB o ho⟩
  | succ k ih =>
    obtain ⟨B, hB⟩ := ih
    obtain ⟨C, hC⟩ := a6f (r.S (k + 1))
    refine ⟨max B C, fun i hi o ho => ?_⟩
    rcases Nat.lt_or_ge k i with h | h
    ·obtain rfl : i = k + 1 := by omega
     exact hC o zO
    ·exact hB i h o zO
 obtain ⟨B, hB⟩ := hb N
 exact ⟨B, fun o ho => b0b (fun x => x = Ob.virgin) (hB 0 zO o ho) N (fun i hi => hB (i + 1) zO o ho)⟩

theorem a6S {α : Type _} {p : Nat -> Prop} {d : α} {f : Nat -> α} : ∀ k, (pick p d f k = d /\ ∀ j, j < k -> ¬ p j) \/ ∃ i, i < k /\ p i /\ pick p d f k = f i /\ ∀ j, i < j -> j < k -> ¬ p j
 | 0 => .inl ⟨rfl, fun j h => by omega⟩
 | k + 1 => by
   simp only [pick]
   by_cases e : p k
   ·rw [if_pos e]; exact .inr ⟨k, by omega, e, rfl, fun j a b => by omega⟩
   ·rw [if_neg e]
    rcases a6S k with ⟨h1, h2⟩ | ⟨i, h1, h2, h3, h4⟩
    ·refine .inl ⟨h1, fun j hj => ?_⟩
     rcases Nat.lt_or_ge j k with h | h
     ·exact h2 j h
     ·obtain rfl : j = k := by omega
      exact e
    ·refine .inr ⟨i, by omega, h2, h3, fun j a b => ?_⟩
     rcases Nat.lt_or_ge j k with h | h
     ·exact h4 j a h
     ·obtain rfl : j = k := by omega
      exact e
theorem Rec.σl_J {ls : Nat -> Prop} {i : Nat} (hi : i < N) {o : Nat} {J : Ob -> Prop} (h0 : J (hp (r.S i) o)) (h : ∀ j, j < N -> r.W o j -> (ls j ↔ j < i) \/ (J (hp (r.S j) o) /\ J (hp (r.S (j + 1)) o))) : J (r.σl ls o) := by
 have down : ∀ d m, m + d = i -> (∀ j, m <= j -> j < i -> r.W o j -> J (hp (r.S j) o)) -> J (hp (r.S m) o) := fun d => by
  induction d with
  | zero => intro m e _; obtain rfl : m = i := by omega
            exact h0
  | succ d ih =>
    intro m e hm
    by_cases w : r.W o m
    ·exact hm m (Nat.le_refl _) zO w
    ·have e2 : hp (r.S (m + 1)) o = hp (r.S m) o := Classical.byContradiction fun hne => w ⟨by omega, hne⟩
     rw [<- e2]
     exact ih (m + 1) zO (fun j a b => hm j zO b)
 unfold Rec.σl
 rcases a6S (p := fun i => ls i /\ r.W o i) (d := hp (r.S 0) o) (f := fun i => hp (r.S (i + 1)) o) N with ⟨h1, h2⟩ | ⟨k, h1, h2, h3, h4⟩
 ·rw [h1]
  refine down i 0 zO (fun j _ hj hw => ?_)
  rcases h j zO hw with h | h
  ·exact absurd ⟨h.2 hj, hw⟩ (h2 j zO)
  ·exact h.1
 ·rw [h3]
  rcases h k h1 h2.2 with hk | hk
  ·have hki := hk.1 h2.1
   refine down (i - (k + 1)) (k + 1) zO (fun j hj1 hj hw => ?_)
   rcases h j zO hw with h | h
   ·exact absurd ⟨h.2 hj, hw⟩ (h4 j zO zO)
   ·exact h.1
  ·exact hk.2

theorem Rec.Fl_at (hN : N = rs.length) {ls : Nat -> Prop} {i : Nat} (hi : i < N) {t : Nat} (h : ∀ j, j < N -> wrT rs t j -> (ls j ↔ j < i)) : r.Fl ls t = r.F i t := by
 rw [r.F_pick hN t i zO]
 unfold Rec.Fl
 rw [a2D (i := i) zO (fun j a b => by rintro ⟨h1, h2⟩; have := (h j b h2).1 h1; omega)]
 exact a0G (fun j hj => ⟨fun h => h.2, fun hw => ⟨(h j zO hw).2 hj, hw⟩⟩)

theorem Rec.σl_at {ls : Nat -> Prop} {i : Nat} (hi : i < N) {o : Nat} (h : ∀ j, j < N -> r.W o j -> (ls j ↔ j < i)) : r.σl ls o = hp (r.S i) o := by
 rw [r.S_pick o i zO]
 unfold Rec.σl
 rw [a2D (i := i) zO (fun j a b => by rintro ⟨h1, h2⟩; have := (h j b h2).1 h1; omega)]
 exact a0G (fun j hj => ⟨fun h => h.2, fun hw => ⟨(h j zO hw).2 hj, hw⟩⟩)

theorem Rec.Fl_step {ls ls' : Nat -> Prop} {i : Nat} (hi : i < N) (hls : ∀ j, ls' j ↔ ls j \/ j = i) {ro : w8} (hro : rs[i]? = some ro)
  (h : ∀ t, wrT rs t i -> ∀ j, j < N -> wrT rs t j -> j ≠ i -> (ls j ↔ j < i)) (hni : ¬ ls i) : r.Fl ls' = putM (r.Fl ls) ro.dst (r.val i) := by
 funext t
 by_cases hw : wrT rs t i
 ·obtain ⟨ro', e1, e2⟩ := hw
  rw [hro] at e1; cases e1
  simp only [e2, putM, a1N]
  unfold Rec.Fl
  refine b0a (i := i) hi ⟨(hls i).2 (.inr rfl), ro, hro, e2⟩ (fun j a b => ?_)
  rintro ⟨h1, h2⟩
  rcases (hls j).1 h1 with h1 | h1
  ·have := (h t ⟨ro, hro, e2⟩ j b h2 zO).1 h1; omega
  ·omega
 ·have e : putM (r.Fl ls) ro.dst (r.val i) t = r.Fl ls t := by
   cases hd : ro.dst with
   | none => rfl
   | some d =>
     have : t ≠ d := fun e => hw ⟨ro, hro, by rw [hd, e]⟩
     simp [putM, s8 _ _ this]
  rw [e]
  unfold Rec.Fl
  refine a0G (fun j hj => ?_)
  rw [hls]
  constructor
  ·rintro ⟨h1 | rfl, h2⟩
   ·exact ⟨h1, h2⟩
   ·exact (hw h2).elim
  ·rintro ⟨h1, h2⟩; exact ⟨.inl h1, h2⟩

open Classical in
theorem Rec.σl_step {ls ls' : Nat -> Prop} {i : Nat} (hi : i < N) (hls : ∀ j, ls' j ↔ ls j \/ j = i) (o : Nat)
  (h : r.W o i -> ∀ j, j < N -> r.W o j -> j ≠ i -> (ls j ↔ j < i)) : r.σl ls' o = if hp (r.S (i + 1)) o = hp (r.S i) o then r.σl ls o else hp (r.S (i + 1)) o := by
 by_cases hw : r.W o i
 ·rw [if_neg hw.2]
  unfold Rec.σl
  refine b0a (i := i) hi ⟨(hls i).2 (.inr rfl), hw⟩ (fun j a b => ?_)
  rintro ⟨h1, h2⟩
  rcases (hls j).1 h1 with h1 | h1
  ·have := (h hw j b h2 zO).1 h1; omega
  ·omega
 ·have : hp (r.S (i + 1)) o = hp (r.S i) o := Classical.byContradiction fun hne => hw ⟨hi, hne⟩
  rw [if_pos this]
  unfold Rec.σl
  refine a0G (fun j hj => ?_)
  rw [hls]
  constructor
  ·rintro ⟨h1 | rfl, h2⟩
   ·exact ⟨h1, h2⟩
   ·exact (hw h2).elim
  ·rintro ⟨h1, h2⟩; exact ⟨.inl h1, h2⟩
end
end Go.Ab

/- A region whose order is open is sound. -/
namespace Go.Ab
open Go.RowKit

theorem a6T {p q : Nat -> Bool} : ∀ (l : List Nat) (_ : ∀ i ∈ l, q i = true -> p i = true) (x : Nat), x ∈ l -> p x = true -> q x = false -> (l.filter q).length < (l.filter p).length
 | [], _, x, h, _, _ => by simp at h
 | y :: l, hpq, x, hx, h1, h2 => by
   have hle : ∀ (l : List Nat), (∀ i ∈ l, q i = true -> p i = true) -> (l.filter q).length <= (l.filter p).length := by
    intro l
    induction l with
    | nil => simp
    | cons z l ih =>
      intro h
      have := ih (fun i hi => h i (by simp [hi]))
      have hz := h z zS
      cases hq : q z <;> cases hp : p z <;> simp [List.filter_cons, hq, hp] <;> first | omega | (rw [hq, hp] at hz; simp at hz)
   rcases List.mem_cons.1 hx with rfl | hx
   ·have := hle l (fun i hi => hpq i (by simp [hi]))
    simp [List.filter_cons, h1, h2]; omega
   ·have ih := a6T l (fun i hi => hpq i (by simp [hi])) x hx h1 h2
    have hz := hpq y zS
    cases hq : q y <;> cases hp : p y <;> simp [List.filter_cons, hq, hp] <;> first | omega | (rw [hq, hp] at hz; simp at hz)

theorem a2E {ops : List Oper} {rs : List w8} {pairs} (h : a5A ops rs pairs = true) (hl : rs.length = ops.length) :
  (∀ i o, ops[i]? = some o -> ∀ e ∈ o.after.toList, Region.binds .any e = true -> e.on < i) /\
  (∀ i j x y, i < j -> b2Y (a2k [] ops) i j = false -> rs[i]? = some x -> rs[j]? = some y ->
   (x.c.quiet = true \/ y.c.quiet = true \/ (x.c.reads = true /\ y.c.reads = true) \/ (i, j) ∈ pairs) /\ (∀ d, x.dst = some d -> d ∉ a1g y) /\ (∀ d, y.dst = some d -> d ∉ a1g x)) := by
 unfold a5A at h
 simp only [List.all_eq_true, List.mem_range, Bool.and_eq_true] at h
 refine ⟨fun i o hi e he hb => ?_, fun i j x y hij ho hx hy => ?_⟩
 ·have hlt : i < ops.length := by
   rcases Nat.lt_or_ge i ops.length with h | h
   ·exact h
   ·rw [List.getElem?_eq_none h] at hi; cases hi
  have := (h i hlt).1
  rw [hi] at this
  simp only [Option.map_some, Option.getD_some, List.all_eq_true, Bool.or_eq_true, Bool.not_eq_true', decide_eq_true_eq] at this
  rcases this e he with h | h
  ·rw [hb] at h; cases h
  ·exact h
 ·have hlj : j < ops.length := by
   rcases Nat.lt_or_ge j rs.length with h | h
   ·omega
   ·rw [List.getElem?_eq_none h] at hy; cases hy
  have := (h i zO).2 j hlj
  rw [if_pos (by simp [hij, ho]), hx, hy] at this
  simp only [Bool.and_eq_true, Bool.or_eq_true, List.contains_iff_mem] at this
  obtain ⟨⟨h1, h2⟩, h3⟩ := this
  refine ⟨?_, fun d hd => ?_, fun d hd => ?_⟩
  ·rcases h1 with ((h1 | h1) | h1) | h1
   ·exact .inl h1
   ·exact .inr (.inl h1)
   ·exact .inr (.inr (.inl h1))
   ·exact .inr (.inr (.inr h1))
  ·rw [hd] at h2
   simpa using h2
  ·rw [hd] at h3
   simpa using h3

section
variable {P : Program} {n : Nat} {ops : Array Oper} {rs : List w8} {pairs : List (Nat × Nat)} (hr : t6 P n ops ops.toList = some rs) (hd : a5A ops.toList rs pairs = true)
 (r : Rec P rs rs.length) (hlog : u7 pairs (r.log rs.length))

def m8 (listed : Array Bool) (i : Nat) : Prop := listed.getD i false = true

def a2O (ops : Array Oper) (ls : Nat -> Prop) : Prop := ∀ i (o : Oper), ops.toList[i]? = some o -> ls i -> ∀ e ∈ o.after.toList, Region.binds .any e = true -> ls e.on

theorem a2m {ls : Nat -> Prop} (hcl : a2O ops ls) {i : Nat} {o : Oper} (ho : ops.toList[i]? = some o) (hni : ¬ ls i)
  (hrd : ∀ e ∈ o.after.toList, Region.binds .any e = true -> ls e.on) {j : Nat} (hji : j ≠ i) (hord : b2Y (a2k [] ops.toList) (min i j) (max i j) = true) : ls j ↔ j < i := by
 have hcl' : a2O ops (fun k => ls k \/ k = i) := by
  intro k o' hk hls e he hb
  rcases hls with h | rfl
  ·exact .inl (hcl k o' hk h e he hb)
  ·rw [ho] at hk; cases hk; exact .inl (hrd e he hb)
 have key : ∀ {ls' : Nat -> Prop}, a2O ops ls' -> ∀ k, ls' k -> ∀ m, ((a2k [] ops.toList).getD k 0).testBit m = true -> ls' m := fun {ls'} h => a5z ops.toList [] [] rfl h zS
 unfold b2Y at hord
 rw [show max (min i j) (max i j) = max i j by omega, show min (min i j) (max i j) = min i j by omega] at hord
 rcases Nat.lt_or_ge j i with h | h
 ·rw [show max i j = i by omega, show min i j = j by omega] at hord
  refine ⟨fun _ => h, fun _ => ?_⟩
  rcases key hcl' i (.inr rfl) j hord with h | h
  ·exact h
  ·omega
 ·rw [show max i j = j by omega, show min i j = i by omega] at hord
  exact ⟨fun hj => absurd (key hcl j hj i hord) hni, fun hlt => by omega⟩

include hr hd in
theorem a4A {ls : Nat -> Prop} (hcl : a2O ops ls) {i : Nat} {o : Oper} (ho : ops.toList[i]? = some o) (hni : ¬ ls i)
  (hrd : ∀ e ∈ o.after.toList, Region.binds .any e = true -> ls e.on) {ro : w8} (hro : rs[i]? = some ro) {t : Nat} (ht : t ∈ a1g ro) : ∀ j, j < rs.length -> wrT rs t j -> j ≠ i -> (ls j ↔ j < i) := by
 intro j hj hw hji
 obtain ⟨ro', e1, e2⟩ := hw
 cases hb : b2Y (a2k [] ops.toList) (min i j) (max i j) with
 | true => exact a2m hcl ho hni hrd hji hb
 | false =>
   exfalso
   obtain ⟨hlen, _⟩ := a0k hr
   have hdr := (a2E hd hlen).2
   rcases Nat.lt_or_ge j i with h | h
   ·rw [show max i j = i by omega, show min i j = j by omega] at hb
    exact (hdr j i ro' ro h hb e1 hro).2.1 t e2 ht
   ·rw [show max i j = j by omega, show min i j = i by omega] at hb
    exact (hdr i j ro ro' zO hb hro e1).2.2 t e2 ht

theorem a3C {j : Nat} {ro : w8} (hj : j < rs.length) (hro : rs[j]? = some ro) {o : Nat} (hw : hp (r.S (j + 1)) o ≠ hp (r.S j) o) :
  StepG P ro.c (r.F j) (hp (r.S j)) (r.val j) (hp (r.S (j + 1))) (a8p (r.le j)) /\ (∀ A B, r.le j = .eff A B -> A = r.S j /\ B = r.S (j + 1)) /\ ro.c.reads = false /\ ro.c.quiet = false /\ (∀ fp wr, r.le j = .acc fp wr -> wr = some o /\ o ∈ fp) := by
 rcases r.go j ro hj hro with ⟨_, h1, h2⟩ | ⟨_, _, h2, _⟩
 ·refine ⟨h1, h2, ?_, ?_, fun fp wr e => ?_⟩
  ·cases h : ro.c.reads with
   | false => rfl
   | true => exact absurd (congrFun (b1Y h h1) o) hw
  ·cases h : ro.c.quiet with
   | false => rfl
   | true => exact absurd (congrFun (a4j h h1).1 o) hw
  ·rw [e] at h1
   obtain ⟨c1, c2⟩ := a3c h1
   have : wr = some o := Classical.byContradiction fun hne => hw (c1 o hne)
   exact ⟨this, c2 o this⟩
 ·rw [h2] at hw; exact absurd rfl hw

theorem a4B {a b : LE} (h : r5 a b) : r5 b a := by
 cases a <;> cases b <;> simp only [r5] at h ⊢ <;> first | exact h.elim | exact h | exact ⟨h.2, h.1⟩

include hr hd hlog in
theorem a5B {ls : Nat -> Prop} (hcl : a2O ops ls) {i : Nat} {o : Oper} (ho : ops.toList[i]? = some o) (hni : ¬ ls i)
  (hrd : ∀ e ∈ o.after.toList, Region.binds .any e = true -> ls e.on) {ro : w8} (hi : i < rs.length) (hro : rs[i]? = some ro) {ob : Nat}
  (hstep : StepG P ro.c (r.F i) (hp (r.S i)) (r.val i) (hp (r.S (i + 1))) (a8p (r.le i)))
  (hob : match r.le i with | .acc fp _ => ob ∈ fp | .eff _ _ => True | .rdl _ _ => False) : ∀ j, j < rs.length -> r.W ob j -> j ≠ i -> (ls j ↔ j < i) := by
 intro j hj hw hji
 cases hb : b2Y (a2k [] ops.toList) (min i j) (max i j) with
 | true => exact a2m hcl ho hni hrd hji hb
 | false =>
   exfalso
   obtain ⟨hlen, _⟩ := a0k hr
   have hdr := (a2E hd hlen).2
   have hroj : rs[j]? = some rs[j] := List.getElem?_eq_getElem hj
   obtain ⟨c1, c2, c3, c4, c5⟩ := a3C r hj hroj hw.2
   have hpair : (ro.c.quiet = true \/ (rs[j]).c.quiet = true \/ (ro.c.reads = true /\ (rs[j]).c.reads = true) \/ r5 (r.le i) (r.le j)) := by
    rcases Nat.lt_or_ge j i with h | h
    ·rw [show max i j = i by omega, show min i j = j by omega] at hb
     rcases (hdr j i _ _ h hb hroj hro).1 with q | q | ⟨q, q'⟩ | q
     ·exact .inr (.inl q)
     ·exact .inl q
     ·exact .inr (.inr (.inl ⟨q', q⟩))
     ·have := a2l hlog j i q
      rw [a0Z r _ _ hj, a0Z r _ _ hi] at this
      exact .inr (.inr (.inr (a4B this)))
    ·rw [show max i j = j by omega, show min i j = i by omega] at hb
     rcases (hdr i j _ _ zO hb hro hroj).1 with q | q | ⟨q, q'⟩ | q
     ·exact .inl q
     ·exact .inr (.inl q)
     ·exact .inr (.inr (.inl ⟨q, q'⟩))
     ·have := a2l hlog i j q
      rw [a0Z r _ _ hi, a0Z r _ _ hj] at this
      exact .inr (.inr (.inr this))
   rcases hpair with q | q | ⟨_, q⟩ | q
   ·have hle := (a4j q hstep).2
    cases hli : r.le i with
    | acc fp wr => rw [hli] at hle hob; simp only [a8p, LG.acc.injEq] at hle; rw [hle.1] at hob; simp at hob
    | eff A B => rw [hli] at hle; simp [a8p] at hle
    | rdl o J => rw [hli] at hob; exact hob
   ·rw [c4] at q; cases q
   ·rw [c3] at q; cases q
   ·have hnj : ∀ o' J, r.le j ≠ .rdl o' J := fun o' J e => by
     rw [e] at c1
     exact hw.2 (congrFun (a2j c1).1 ob)
    cases hli : r.le i with
    | rdl o J => rw [hli] at hob; exact hob
    | acc fp wr =>
      rw [hli] at hob q
      cases hlj : r.le j with
      | rdl o J => exact hnj _ _ hlj
      | acc fp' wr' =>
        rw [hlj] at q
        obtain ⟨e1, e2⟩ := c5 fp' wr' hlj
        subst e1
        exact q.2 hob
      | eff A B =>
        rw [hlj] at q
        obtain ⟨rfl, rfl⟩ := c2 A B hlj
        exact hw.2 (q.2 ob hob)
    | eff A B =>
      rw [hli] at q
      cases hlj : r.le j with
      | rdl o J => exact hnj _ _ hlj
      | acc fp' wr' =>
        rw [hlj] at q
        obtain ⟨e1, e2⟩ := c5 fp' wr' hlj
        rw [q.1] at e1; cases e1
      | eff A' B' => rw [hlj] at q; exact q
include hr hd hlog in
theorem b3r {ls : Nat -> Prop} (hcl : a2O ops ls) {i : Nat} {o : Oper} (ho : ops.toList[i]? = some o) (hni : ¬ ls i)
  (hrd : ∀ e ∈ o.after.toList, Region.binds .any e = true -> ls e.on) {ro : w8} (hi : i < rs.length) (hro : rs[i]? = some ro) {ob : Nat} {J : Ob -> Prop}
  (hstep : StepG P ro.c (r.F i) (hp (r.S i)) (r.val i) (hp (r.S (i + 1))) (a8p (r.le i))) (hli : r.le i = .rdl ob J) : J (r.σl ls ob) := by
 have hst := hstep
 rw [hli] at hst
 obtain ⟨hs1, hs2⟩ := a2j hst
 refine r.σl_J hi hs2 (fun j hj hw => ?_)
 by_cases hji : j = i
 ·subst hji; exact absurd (congrFun hs1 ob) hw.2
 cases hb : b2Y (a2k [] ops.toList) (min i j) (max i j) with
 | true => exact .inl (a2m hcl ho hni hrd hji hb)
 | false =>
   obtain ⟨hlen, _⟩ := a0k hr
   have hdr := (a2E hd hlen).2
   have hroj : rs[j]? = some rs[j] := List.getElem?_eq_getElem hj
   obtain ⟨c1, c2, c3, c4, c5⟩ := a3C r hj hroj hw.2
   have hpair : (ro.c.quiet = true \/ (rs[j]).c.quiet = true \/ (ro.c.reads = true /\ (rs[j]).c.reads = true) \/ r5 (r.le i) (r.le j)) := by
    rcases Nat.lt_or_ge j i with h | h
    ·rw [show max i j = i by omega, show min i j = j by omega] at hb
     rcases (hdr j i _ _ h hb hroj hro).1 with q | q | ⟨q, q'⟩ | q
     ·exact .inr (.inl q)
     ·exact .inl q
     ·exact .inr (.inr (.inl ⟨q', q⟩))
     ·have := a2l hlog j i q
      rw [a0Z r _ _ hj, a0Z r _ _ hi] at this
      exact .inr (.inr (.inr (a4B this)))
    ·rw [show max i j = j by omega, show min i j = i by omega] at hb
     rcases (hdr i j _ _ zO hb hro hroj).1 with q | q | ⟨q, q'⟩ | q
     ·exact .inl q
     ·exact .inr (.inl q)
     ·exact .inr (.inr (.inl ⟨q, q'⟩))
     ·have := a2l hlog i j q
      rw [a0Z r _ _ hi, a0Z r _ _ hj] at this
      exact .inr (.inr (.inr this))
   right
   rcases hpair with q | q | ⟨_, q⟩ | q
   ·have hle := (a4j q hstep).2
    rw [hli] at hle; simp [a8p] at hle
   ·rw [c4] at q; cases q
   ·rw [c3] at q; cases q
   ·rw [hli] at q
    cases hlj : r.le j with
    | rdl o' J' => rw [hlj] at c1; exact absurd (congrFun (a2j c1).1 ob) hw.2
    | acc fp' wr' =>
      rw [hlj] at q
      exact absurd (c5 fp' wr' hlj).1 q
    | eff A B =>
      rw [hlj] at q
      obtain ⟨rfl, rfl⟩ := c2 A B hlj
      exact q
end
end Go.Ab

/- A region whose order is open is sound: the whole. -/
namespace Go.Ab
open Go.RowKit

section
variable {P : Program} {n : Nat} {ops : Array Oper} {rs : List w8} {pairs : List (Nat × Nat)} (hr : t6 P n ops ops.toList = some rs) (hd : a5A ops.toList rs pairs = true)
 (r : Rec P rs rs.length) (hlog : u7 pairs (r.log rs.length))

theorem a8Y {listed : Array Bool} {i : Nat} (hi : i < listed.size) (j : Nat) : m8 (listed.setIfInBounds i true) j ↔ m8 listed j \/ j = i := by
 unfold m8
 simp only [Array.getD_eq_getD_getElem?, Array.getElem?_setIfInBounds]
 by_cases h : i = j
 ·subst h; simp [hi]
 ·rw [if_neg h]
  constructor
  ·exact .inl
  ·rintro (h' | rfl)
   ·exact h'
   ·exact absurd rfl h

include hr hd hlog in
theorem b1Z {g0 σ0} {Q : Exit -> Act -> World -> Prop} (hQ : ∀ a w, At g0 σ0 n (r.F rs.length) (hp (r.S rs.length)) a w -> Q .normal a w) : ∀ (fuel : Nat) (listed : Array Bool) (a : Act) (w : World),
  listed.size = rs.length -> a2O ops (m8 listed) -> ((List.range rs.length).filter fun i => !listed.getD i false).length <= fuel ->
  At g0 σ0 n (r.Fl (m8 listed)) (r.σl (m8 listed)) a w -> wpAny P .any ops Q fuel listed a w := by
 obtain ⟨hlen, hget⟩ := a0k hr
 have hdr := (a2E hd hlen).1
 have hall : ∀ (listed : Array Bool) a w, (∀ i, i < rs.length -> m8 listed i) -> At g0 σ0 n (r.Fl (m8 listed)) (r.σl (m8 listed)) a w -> Q .normal a w := fun listed a w hl hat => by
  refine hQ a w ?_
  have e1 : r.Fl (m8 listed) = r.F rs.length := by
   funext t
   rw [r.F_pick rfl t _ (Nat.le_refl _)]
   exact a0G (fun j hj => ⟨fun h => h.2, fun h => ⟨hl j hj, h⟩⟩)
  have e2 : r.σl (m8 listed) = hp (r.S rs.length) := by
   funext o
   rw [r.S_pick o _ (Nat.le_refl _)]
   exact a0G (fun j hj => ⟨fun h => h.2, fun h => ⟨hl j hj, h⟩⟩)
  rwa [e1, e2] at hat
 have hready : ∀ (listed : Array Bool), listed.size = rs.length -> Region.ready .any ops listed = [] -> ∀ i, i < rs.length -> m8 listed i := fun listed hs hrd => by
  intro i
  induction i using Nat.strongRecOn with
  | _ i ih =>
    intro hi
    apply Classical.byContradiction
    intro hni
    have ho : ops.toList[i]? = some (ops.toList[i]'zO) := List.getElem?_eq_getElem _
    have hin : i ∈ Region.ready .any ops listed := by
     unfold Region.ready
     rw [List.mem_filter]
     refine ⟨List.mem_range.2 (by simpa using (by omega : i < ops.toList.length)), ?_⟩
     have hls : listed.getD i true = false := by
      unfold m8 at hni
      have hlt : i < listed.size := by omega
      simp only [Array.getD_eq_getD_getElem?, Array.getElem?_eq_getElem hlt, Option.getD_some] at hni ⊢
      cases hq : listed[i] <;> simp_all
     have hog : ops[i]? = some (ops.toList[i]'zO) := by rw [<- Array.getElem?_toList]; exact ho
     rw [hls, hog]
     simp only [Bool.not_false, Bool.true_and, Option.map_some, Option.getD_some]
     rw [<- Array.all_toList, List.all_eq_true]
     intro e he
     cases hb : Region.binds .any e with
     | false => simp
     | true =>
       have hlt := hdr i _ ho e he hb
       simpa [m8] using ih e.on hlt zO
    rw [hrd] at hin
    simp at hin
 intro fuel
 induction fuel with
 | zero =>
   intro listed a w hs hcl hf hat
   have hl : ∀ i, i < rs.length -> m8 listed i := fun i hi => by
    apply Classical.byContradiction
    intro hni
    have : i ∈ (List.range rs.length).filter fun i => !listed.getD i false := by
     rw [List.mem_filter]
     refine ⟨List.mem_range.2 hi, ?_⟩
     unfold m8 at hni
     simpa using hni
    have h0 : ((List.range rs.length).filter fun i => !listed.getD i false) = [] := List.eq_nil_of_length_eq_zero zO
    rw [h0] at this
    simp at this
   refine ⟨?_, hall listed a w hl hat⟩
   unfold Region.ready
   rw [List.filter_eq_nil_iff]
   intro i hi
   have hi' : i < rs.length := by rw [hlen]; simpa using hi
   have := hl i hi'
   unfold m8 at this
   have hlt : i < listed.size := by omega
   simp only [Array.getD_eq_getD_getElem?, Array.getElem?_eq_getElem hlt, Option.getD_some] at this ⊢
   rw [this]; simp
 | succ fuel ih =>
   intro listed a w hs hcl hf hat
   refine ⟨fun hrd => hall listed a w (hready listed hs hrd) hat, fun i hi => ?_⟩
   unfold Region.ready at hi
   rw [List.mem_filter] at hi
   obtain ⟨hi1, hi2⟩ := hi
   have hilt : i < rs.length := by rw [hlen]; simpa using hi1
   have ho : ops.toList[i]? = some (ops.toList[i]'zO) := List.getElem?_eq_getElem _
   generalize hoe : ops.toList[i]'zO = o at ho
   have hog : ops[i]? = some o := by rw [<- Array.getElem?_toList]; exact ho
   rw [hog] at hi2
   simp only [Bool.and_eq_true, Bool.not_eq_true', Option.map_some, Option.getD_some] at hi2
   obtain ⟨hn, hea⟩ := hi2
   have hni : ¬ m8 listed i := by
    unfold m8
    have hlt : i < listed.size := by omega
    simp only [Array.getD_eq_getD_getElem?, Array.getElem?_eq_getElem hlt, Option.getD_some] at hn ⊢
    rw [hn]; simp
   have hrd : ∀ e ∈ o.after.toList, Region.binds .any e = true -> m8 listed e.on := fun e he hb => by
    rw [<- Array.all_toList, List.all_eq_true] at hea
    have := hea e he
    rw [hb] at this
    simpa [m8] using this
   obtain ⟨ro, hro, hres⟩ := hget i o ho
   obtain ⟨hc, hdst, hdn, _⟩ := a1J hres
   have hset := a8Y (listed := listed) (i := i) zO
   have hnext : ∀ a' w', At g0 σ0 n (r.Fl (m8 (listed.setIfInBounds i true))) (r.σl (m8 (listed.setIfInBounds i true))) a' w' -> wpAny P .any ops Q fuel (listed.setIfInBounds i true) a' w' := fun a' w' hat' => by
    refine ih _ a' w' (by simpa using hs) ?_ ?_ hat'
    ·intro k o' hk hls e he hb
     rw [hset] at hls ⊢
     rcases hls with h | rfl
     ·exact .inl (hcl k o' hk h e he hb)
     ·rw [ho] at hk; cases hk; exact .inl (hrd e he hb)
    ·have := a6T (p := fun i => !listed.getD i false) (q := fun j => !(listed.setIfInBounds i true).getD j false) (List.range rs.length) (fun j _ hq => by
       have h1 := hset j
       unfold m8 at h1
       cases hc : listed.getD j false with
       | false => rfl
       | true => rw [h1.2 (.inl hc)] at hq; simp at hq) i (List.mem_range.2 hilt) (by
       unfold m8 at hni
       simpa using hni) (by
       have h1 := (hset i).2 (.inr rfl)
       unfold m8 at h1
       rw [h1]; rfl)
     omega
   have hslot : ∀ t ∈ a1g ro, r.Fl (m8 listed) t = r.F i t := fun t ht => r.Fl_at rfl hilt (fun j hj hw => by
    by_cases hji : j = i
    ·subst hji; exact ⟨fun h => absurd h hni, fun h => by omega⟩
    ·exact a4A hr hd hcl ho hni hrd hro ht j hj hw hji)
   have hFl : r.Fl (m8 (listed.setIfInBounds i true)) = putM (r.Fl (m8 listed)) ro.dst (r.val i) := r.Fl_step hilt hset hro (fun t hwt j hj hw hji => by
    obtain ⟨ro', e1, e2⟩ := hwt
    rw [hro] at e1; cases e1
    exact a4A hr hd hcl ho hni hrd hro (by unfold a1g; rw [e2]; simp) j hj hw hji) hni
   have hat0 := hat
   obtain ⟨_, g, _, _, hfr⟩ := hat
   obtain ⟨w1, w2, w3⟩ := a4z hres hfr
   simp only [wpOp, hog]
   rcases r.go i ro hilt hro with ⟨hgd, hstep, heff⟩ | ⟨hgd, hv, hS, hle⟩
   ·-- carried out
    have hwant : Region.wanted o (yielded ops a.tmps) = true := by
     cases hg : ro.guard with
     | none => exact w1 hg
     | some p =>
       obtain ⟨t, want⟩ := p
       simp only [hg] at hgd
       rw [w2 t want want hg (by rw [hslot t (by unfold a1g; rw [hg]; simp)]; exact hgd)]
       simp
    rw [if_pos hwant]
    refine .inl ?_
    have hob : ∀ ob, (match r.le i with | .acc fp _ => ob ∈ fp | .eff _ _ => True | .rdl _ _ => False) -> r.σl (m8 listed) ob = hp (r.S i) ob := fun ob h => r.σl_at hilt (fun j hj hw => by
     by_cases hji : j = i
     ·subst hji; exact ⟨fun h => absurd h hni, fun h => by omega⟩
     ·exact a5B hr hd r hlog hcl ho hni hrd hilt hro hstep h j hj hw hji)
    have hagree : (a8p (r.le i)).agrees (hp (r.S i)) (r.σl (m8 listed)) := by
     cases hli : r.le i with
     | acc fp wr => intro ob hob'; exact hob ob (by rw [hli]; exact hob')
     | eff A B => simp only [a8p, LG.agrees]; funext ob; exact hob ob (by rw [hli]; trivial)
     | rdl ob J => exact b3r hr hd r hlog hcl ho hni hrd hilt hro hstep hli
    obtain ⟨τ', k1, k2⟩ := a7G hstep (G := r.Fl (m8 listed)) (fun t ht => hslot t (by unfold a1g; simp [ht])) hagree
    refine At.step hres hat0 (r.σl_fin _) k1 (fun a' w' hat' => hnext a' w' ?_)
    rw [hFl]
    have hτ : τ' = r.σl (m8 (listed.setIfInBounds i true)) := by
     funext ob
     rw [k2, r.σl_step hilt hset ob (fun hw j hj hwj hji => by
      refine a5B hr hd r hlog hcl ho hni hrd hilt hro hstep ?_ j hj hwj hji
      cases hli : r.le i with
      | eff A B => trivial
      | acc fp wr => exact ((a3C r hilt hro hw.2).2.2.2.2 fp wr hli).2
      | rdl o' J => rw [hli] at hstep; exact absurd (congrFun (a2j hstep).1 ob) hw.2)]
     cases hli : r.le i with
     | eff A B =>
       simp only [a8p, LG.after]
       split
       ·rename_i he; rw [he]; exact (hob ob (by rw [hli]; trivial)).symm
       ·rfl
     | acc fp wr =>
       rw [hli] at hstep
       obtain ⟨c1, c2⟩ := a3c hstep
       simp only [a8p, LG.after]
       by_cases hwr : wr = some ob
       ·rw [if_pos hwr]
        split
        ·rename_i he; rw [he]; exact (hob ob (by rw [hli]; exact c2 ob hwr)).symm
        ·rfl
       ·rw [if_neg hwr, if_pos (c1 ob hwr)]
     | rdl o' J =>
       rw [hli] at hstep
       rw [if_pos (congrFun (a2j hstep).1 ob)]
       rfl
    rw [<- hτ]
    exact hat'
   ·-- passed over
    have hwant : Region.wanted o (yielded ops a.tmps) = false := by
     cases hg : ro.guard with
     | none => simp only [hg] at hgd
     | some p =>
       obtain ⟨t, want⟩ := p
       simp only [hg] at hgd
       rcases hgd with hgd | hgd
       ·rw [w2 t want (!want) hg (by rw [hslot t (by unfold a1g; rw [hg]; simp)]; exact hgd)]
        cases want <;> rfl
       ·exact w3 t want hg (by rw [hslot t (by unfold a1g; rw [hg]; simp)]; exact hgd)
    rw [if_neg (by rw [hwant]; simp)]
    refine hnext _ _ ?_
    rw [hFl, hv]
    have hσ : r.σl (m8 (listed.setIfInBounds i true)) = r.σl (m8 listed) := by
     funext ob
     rw [r.σl_step hilt hset ob (fun hw => absurd (by rw [hS]) hw.2), if_pos (by rw [hS])]
    rw [hσ, hdst]
    exact At.skip hat0 hdn
end

theorem b0c {P : Program} {n : Nat} {ops : Array Oper} {rs : List w8} {pairs : List (Nat × Nat)} (hm : P.follows .mixedOrders = true) (hr : t6 P n ops ops.toList = some rs) (hd : a5A ops.toList rs pairs = true)
  {fr : Fr} {S : List Ob} {K : Fr -> List Ob -> Prop} (h : VCops P rs fr S [] (fun fr' S' log => u7 pairs log /\ K fr' S')) {g0 σ0} {a : Act} {w : World} (hat : At g0 σ0 n (Fr.get fr) (hp S) a w)
  {Q : Exit -> Act -> World -> Prop} (hQ : ∀ fr' S' a' w', K fr' S' -> At g0 σ0 n (Fr.get fr') (hp S') a' w' -> Q .normal a' w') {id : Nat} : (Code.region id ops true).wp P Q a w := by
 obtain ⟨hlen, _⟩ := a0k hr
 obtain ⟨r, fr', e1, e2, e3, hlog, hk⟩ := a6R rs fr S [] h
 simp only [List.append_nil] at hlog
 refine wp_region_any hm ?_
 have hsz : ops.size = rs.length := by rw [hlen]; simp
 have hno : ∀ i, ¬ m8 (Array.replicate ops.size false) i := fun i => by
  unfold m8
  simp only [Array.getD_eq_getD_getElem?, Array.getElem?_replicate]
  split <;> simp
 refine b1Z hr hd r hlog (g0 := g0) (σ0 := σ0) (fun a' w' hat' => hQ fr' _ a' w' hk (by rw [e3]; exact hat')) ops.size _ a _ (by simp [hsz]) (fun i o _ hi => absurd hi (hno i)) ?_ ?_
 ·rw [hsz]
  exact Nat.le_trans (List.length_filter_le _ _) zS
 ·have f1 : r.Fl (m8 (Array.replicate ops.size false)) = Fr.get fr := by
   funext t
   rw [<- e1]
   unfold Rec.Fl
   rw [a2D (i := 0) zO (fun j _ _ h => hno j h.1)]
   rfl
  have f2 : r.σl (m8 (Array.replicate ops.size false)) = hp S := by
   funext o
   rw [<- e2]
   unfold Rec.σl
   rw [a2D (i := 0) zO (fun j _ _ h => hno j h.1)]
   rfl
  rw [f1, f2]
  obtain ⟨h0, g, h1, h2, h3⟩ := hat
  exact ⟨h0, g, h1, h2.drew, h3⟩

theorem b0d {P : Program} {n : Nat} {ops : Array Oper} {rs : List w8} (hr : t6 P n ops ops.toList = some rs)
  {fr : Fr} {S : List Ob} {K : Fr -> List Ob -> Prop} (h : VCops P rs fr S [] (fun fr' S' _ => K fr' S')) {g0 σ0} {a : Act} {w : World} (hat : At g0 σ0 n (Fr.get fr) (hp S) a w)
  {Q : Exit -> Act -> World -> Prop} (hQ : ∀ fr' S' a' w', K fr' S' -> At g0 σ0 n (Fr.get fr') (hp S') a' w' -> Q .normal a' w') {id : Nat} : (Code.region id ops false).wp P Q a w := by
 refine wp_region ?_
 have := a6h (P := P) (n := n) (ops := ops) (Q := Q) ops.toList rs 0 fr S [] a w (fun j o hj => by rw [Nat.zero_add, <- Array.getElem?_toList]; exact hj) hr h hat (fun fr' S' _ a' w' hk => hQ fr' S' a' w' hk)
 rw [List.range_eq_range']
 simpa using this
end Go.Ab

/- Functions' bodies: their code resolved, verification conditions, and what a call comes to. -/
namespace Go.Ab
open Go.RowKit

inductive FC where
 | skip
 | reg (rs : List w8) (pairs : List (Nat × Nat))
 | seq (a b : FC)
 | cond (c : Opd) (a b : FC)
 | block (id : Nat) (a : FC)
 | loop (a : FC)
 | exit (id : Nat)
 | ret

def b3s (ops : List Oper) (rs : List w8) : List (Nat × Nat) :=
 let bs := a2k [] ops
 let l := (rs.zipIdx.filter fun (r, _) => !r.c.quiet)
 l.flatMap fun (y, j) => l.filterMap fun (x, i) => if i < j && !(x.c.reads && y.c.reads) && !b2Y bs i j then some (i, j) else none

def r8 (P : Program) (n : Nat) : Code -> Option FC
 | .skip => some .skip
 | .label _ => some .skip
 | .region _ ops d => match t6 P n ops ops.toList with
   | some rs => if d then (let ps := b3s ops.toList rs; if a5A ops.toList rs ps then some (.reg rs ps) else none) else some (.reg rs [])
   | none => none
 | .seq a b => match r8 P n a, r8 P n b with
   | some a, some b => some (.seq a b)
   | _, _ => none
 | .cond c a b => match a1m c, r8 P n a, r8 P n b with
   | some c, some a, some b => some (.cond c a b)
   | _, _, _ => none
 | .block i a => match r8 P n a with
   | some a => some (.block i a)
   | none => none
 | .loop a => match r8 P n a with
   | some a => some (.loop a)
   | none => none
 | .exit i => some (.exit i)
 | .ret => some .ret
 | _ => none

def Wk (S0 : List Ob) (fr : Fr) (S : List Ob) (fr' : Fr) (S' : List Ob) : Prop :=
 ∀ g0 n a w, At g0 (hp S0) n (Fr.get fr) (hp S) a w -> At g0 (hp S0) n (Fr.get fr') (hp S') a w

abbrev Post := Exit -> Fr -> List Ob -> Prop

def Post.thn (N : Fr -> List Ob -> Prop) (K : Post) : Post
 | .normal, fr, S => N fr S
 | e, fr, S => K e fr S

def Post.blk (id : Nat) (K : Post) : Post
 | .exit j, fr, S => if j = id then K .normal fr S else K (.exit j) fr S
 | e, fr, S => K e fr S

def a8q (S0 : List Ob) (body : Fr -> List Ob -> Post -> Prop) (fr : Fr) (S : List Ob) (K : Post) : Prop :=
 ∃ (ι : Type) (F : ι -> Fr) (T : ι -> List Ob) (Pr : ι -> Prop) (μ : ι -> Nat) (i0 : ι), Pr i0 /\ Wk S0 fr S (F i0) (T i0) /\
  ∀ i, Pr i -> body (F i) (T i) (Post.thn (fun fr' S' => ∃ i', Pr i' /\ μ i' < μ i /\ Wk S0 fr' S' (F i') (T i')) K)

def VC (P : Program) (S0 : List Ob) : FC -> Fr -> List Ob -> Post -> Prop
 | .skip, fr, S, K => K .normal fr S
 | .reg rs pairs, fr, S, K => VCops P rs fr S [] fun fr' S' log => u7 pairs log /\ K .normal fr' S'
 | .seq a b, fr, S, K => VC P S0 a fr S (Post.thn (fun fr' S' => ∃ F T, Wk S0 fr' S' F T /\ VC P S0 b F T K) K)
 | .cond c a b, fr, S, K => match ev (Fr.get fr) c with
   | .bool t => (t = true -> VC P S0 a fr S K) /\ (t = false -> VC P S0 b fr S K)
   | _ => False
 | .block id a, fr, S, K => VC P S0 a fr S (Post.blk id K)
 | .loop a, fr, S, K => a8q S0 (VC P S0 a) fr S K
 | .exit id, fr, S, K => K (.exit id) fr S
 | .ret, fr, S, K => K .ret fr S

theorem a5C {P : Program} {Q : Exit -> Act -> World -> Prop} {c : Code} {ι : Type} (I : ι -> Act -> World -> Prop) (μ : ι -> Nat)
  (round : ∀ i a w, I i a w -> c.wp P (Exit.then (fun a' w' => ∃ i', I i' a' w' /\ μ i' < μ i) Q) a w) {i0 : ι} {a : Act} {w : World} (h₀ : I i0 a w) : (Code.loop c).wp P Q a w := by
 intro b k cs
 have key : ∀ n i a w, μ i = n -> I i a w ->
   ∃ e a' w', Q e a' w' /\ Arrives P (lone (b.at a (.code c :: .inLoop c :: k)) cs w) b k cs e a' w' := by
  intro n
  induction n using Nat.strongRecOn with
  | _ n ih =>
    intro i a w hn hI
    obtain ⟨e, a₁, w₁, hq, harr⟩ := round i a w hI b (.inLoop c :: k) cs
    cases e with
    | normal =>
      obtain ⟨i', hI₁, hlt⟩ := hq
      obtain ⟨e₂, a₂, w₂, hq₂, harr₂⟩ := ih (μ i') (hn ▸ hlt) i' a₁ w₁ rfl hI₁
      exact ⟨e₂, a₂, w₂, hq₂, .of_steps (Steps.trans harr (.one step_inLoop)) harr₂⟩
    | exit id => exact ⟨_, a₁, w₁, hq, .pass (x := .inLoop c) rfl (fun _ _ => .inl zS) harr⟩
    | goto l => exact ⟨_, a₁, w₁, hq, .pass (x := .inLoop c) rfl (fun _ _ => .inl zS) harr⟩
    | ret => exact ⟨_, a₁, w₁, hq, .pass (x := .inLoop c) rfl (fun _ _ => .inl zS) harr⟩
    | panic ch => exact ⟨_, a₁, w₁, hq, .pass (x := .inLoop c) rfl (fun _ _ => .inl zS) harr⟩
    | outgrown => exact ⟨_, a₁, w₁, hq, .pass (x := .inLoop c) rfl (fun _ _ => .inl zS) harr⟩
 obtain ⟨e, a', w', hq, harr⟩ := key _ _ a w rfl h₀
 exact ⟨e, a', w', hq, .of_steps (.one step_loop) harr⟩

def QK (g0 : Gh) (S0 : List Ob) (n : Nat) (K : Post) : Exit -> Act -> World -> Prop := fun e a w => ∃ fr S, At g0 (hp S0) n (Fr.get fr) (hp S) a w /\ K e fr S

theorem c2l {P : Program} {n : Nat} (hm : P.follows .mixedOrders = true) {g0 : Gh} {S0 : List Ob} : ∀ (c : Code) (fc : FC), r8 P n c = some fc -> ∀ (fr : Fr) (S : List Ob) (K : Post), VC P S0 fc fr S K ->
  ∀ a w, At g0 (hp S0) n (Fr.get fr) (hp S) a w -> c.wp P (QK g0 S0 n K) a w := by
 intro c
 induction c with
 | skip => intro fc h fr S K hv a w hat; simp only [r8] at h; cases h; exact wp_skip ⟨fr, S, hat, hv⟩
 | label l => intro fc h fr S K hv a w hat; simp only [r8] at h; cases h; exact wp_label ⟨fr, S, hat, hv⟩
 | region id ops d =>
   intro fc h fr S K hv a w hat
   simp only [r8] at h
   split at h
   ·rename_i rs hrs
    split at h
    ·rename_i hd
     subst hd
     split at h
     ·rename_i hok
      cases h
      exact b0c hm hrs hok hv hat (fun fr' S' a' w' hk hat' => ⟨fr', S', hat', hk⟩)
     ·cases h
    ·rename_i hd
     have : d = false := by simpa using hd
     subst this
     cases h
     simp only [VC, u7, true_and] at hv
     exact b0d hrs hv hat (fun fr' S' a' w' hk hat' => ⟨fr', S', hat', hk⟩)
   ·cases h
 | seq x y ihx ihy =>
   intro fc h fr S K hv a w hat
   simp only [r8] at h
   split at h
   ·rename_i fx fy hx hy
    cases h
    refine wp_seq (wp_mono (ihx fx hx fr S _ hv a w hat) (fun e a' w' hq => ?_))
    obtain ⟨fr', S', hat', hk⟩ := hq
    cases e with
    | normal =>
      obtain ⟨F, T, hwk, hk⟩ := hk
      exact ihy fy hy F T K hk a' w' (hwk _ _ _ _ hat')
    | _ => exact ⟨fr', S', hat', hk⟩
   ·cases h
 | cond c x y ihx ihy =>
   intro fc h fr S K hv a w hat
   simp only [r8] at h
   split at h
   ·rename_i c' fx fy hc hx hy
    cases h
    simp only [VC] at hv
    obtain ⟨_, g, _, _, hf⟩ := id hat
    have hcv := i8 hf hc
    generalize ev (Fr.get fr) c' = q at hv hcv
    cases q <;> try exact hv.elim
    rename_i t
    generalize hae : a.eval c = u at hcv
    cases hcv
    refine wp_cond_split hae (fun ht => ?_) (fun ht => ?_)
    ·exact ihx fx hx fr S K (hv.1 ht) a w hat
    ·exact ihy fy hy fr S K (hv.2 ht) a w hat
   ·cases h
 | block i x ihx =>
   intro fc h fr S K hv a w hat
   simp only [r8] at h
   split at h
   ·rename_i fx hx
    cases h
    refine wp_block (wp_mono (ihx fx hx fr S _ hv a w hat) (fun e a' w' hq => ?_))
    obtain ⟨fr', S', hat', hk⟩ := hq
    cases e with
    | exit j =>
      simp only [Exit.inBlock, Post.blk] at hk ⊢
      split
      ·rename_i e; rw [if_pos e] at hk; exact ⟨fr', S', hat', hk⟩
      ·rename_i e; rw [if_neg e] at hk; exact ⟨fr', S', hat', hk⟩
    | _ => exact ⟨fr', S', hat', hk⟩
   ·cases h
 | loop x ihx =>
   intro fc h fr S K hv a w hat
   simp only [r8] at h
   split at h
   ·rename_i fx hx
    cases h
    obtain ⟨ι, F, T, Pr, μ, i0, hp0, hwk, hrd⟩ := hv
    refine a5C (fun i a w => Pr i /\ At g0 (hp S0) n (Fr.get (F i)) (hp (T i)) a w) μ (fun i a w hI => ?_) (i0 := i0) ⟨hp0, hwk _ _ _ _ hat⟩
    refine wp_mono (ihx fx hx (F i) (T i) _ (hrd i hI.1) a w hI.2) (fun e a' w' hq => ?_)
    obtain ⟨fr', S', hat', hk⟩ := hq
    cases e with
    | normal =>
      obtain ⟨i', h1, h2, h3⟩ := hk
      exact ⟨i', ⟨h1, h3 _ _ _ _ hat'⟩, h2⟩
    | _ => exact ⟨fr', S', hat', hk⟩
   ·cases h
 | exit i => intro fc h fr S K hv a w hat; simp only [r8] at h; cases h; exact wp_exit ⟨fr, S, hat, hv⟩
 | ret => intro fc h fr S K hv a w hat; simp only [r8] at h; cases h; exact wp_ret ⟨fr, S, hat, hv⟩
 | _ => intro fc h; simp [r8] at h

def a1h : Nat -> List AV -> Fr
 | _, [] => []
 | i, x :: r => (i, x) :: a1h (i + 1) r

theorem a3D : ∀ (args : List AV) (i t : Nat), Fr.get (a1h i args) t = if i <= t then args.getD (t - i) .junk else .junk
 | [], i, t => by simp [a1h, Fr.get]
 | x :: r, i, t => by
   simp only [a1h, Fr.get]
   by_cases e : t = i
   ·subst e; simp
   ·rw [if_neg e, a3D r (i + 1) t]
    by_cases h : i <= t
    ·rw [if_pos h, if_pos zO]
     rw [show t - i = (t - (i + 1)) + 1 by omega]
     simp
    ·rw [if_neg h, if_neg zO]

abbrev OV := Option (AV × List Nat × Option (Nat × Ob))
def pv (v : Option AV) : OV := v.map fun v => (v, [], none)

def b2a : AV -> AV -> AV -> Option AV
 | .bool t, a, b => some (if t then a else b)
 | _, _, _ => none
def b5K (ow : Bool) (cs : List AV) (S : List Ob) : OV :=
 if ow then some (.ptr S.length 0 0, [], some (S.length, .arr 0 cs)) else some (.cptr cs 0, [], none)
def w9 (sh : Option Nat) (cs : List AV) (off : Nat) : Option AV :=
 match sh with
 | none => if off < cs.length then some (cs.getD off .junk) else none
 | some n => if off + n <= cs.length then some (.agg ((cs.drop off).take n)) else none
def v9 (S : List Ob) (o ver : Nat) : Option (List AV) :=
 match hp S o with
 | .arr v cs => if v = ver then some cs else none
 | _ => none
def a6U (sh : Option Nat) (x : AV) (S : List Ob) : OV :=
 match x with
 | .ptr o ver off => (v9 S o ver).bind fun cs => (w9 sh cs off).map fun v => (v, [o], none)
 | .cptr cs off => pv (w9 sh cs off)
 | _ => none
def a6V (n : Nat) (a x : AV) (S : List Ob) : OV :=
 match a with
 | .ptr o ver off => (v9 S o ver).bind fun cs => if x.cells.length = n /\ off + n <= cs.length /\ x.cells.all AV.one = true then some (.tup [], [], some (o, .arr ver (splice cs off x.cells))) else none
 | _ => none
def b3t (x : AV) : Option AV :=
 match x with
 | .ptr _ _ _ | .cptr _ _ | .iface _ _ | .fn (.func _) _ _ => some x
 | _ => none
def b3u (c : EqC) (op : BinOp) (x y : AV) : Option AV :=
 match x, y with
 | .int k a, .int k' b =>
   match op with
   | .shl => a7y .shl k a b
   | .shr => a7y .shr k a b
   | op => if k = k' then a2Y op k a b else none
 | .str a, .str b => if op = .add /\ ¬ a.size + b.size <= 9223372036854775807 then none else a8f op a b
 | .bool a, .bool b => if c = .bool then a6x op (a == b) else none
 | .nilp, .nilp => if c = .ptr then a6x op true else none
 | .ptr _ _ _, .nilp | .cptr _ _, .nilp | .nilp, .ptr _ _ _ | .nilp, .cptr _ _ => if c = .ptr then a6x op false else none
 | .iface _ _, .nili | .nili, .iface _ _ => if c.isI = true then a6x op false else none
 | .nili, .nili => if c = .ifn then a6x op true else none
 | .nils, .nils => if c = .flat then a6x op true else none
 | .snn _, .nils | .sl _ _ (_ :: _), .nils | .ref _ _ _ (_ + 1) _, .nils => if c = .flat then a6x op false else none
 | _, _ => none
def c5n (ks : List FK) (op : BinOp) (x y : AV) : Option AV :=
 match x, y with
 | .agg xs, .agg ys => if a2h ks xs ys = true then a6x op (a3x xs ys) else none
 | _, _ => none
def vUn (op : UnOp) (x : AV) : Option AV :=
 match op, x with
 | .not, .bool b => some (.bool (!b))
 | .neg, .int k n => some (.int k (k.wrap (0 - n)))
 | .xor, .int k n => a2Y .xor k (if k.signed then -1 else k.max) n
 | _, _ => none
def b5X (k : IntKind) (x : AV) : Option AV := match x with | .int _ n => some (.int k (k.wrap n)) | _ => none
def b5Y (x : AV) : Option AV := match x with | .str s => some (.str s) | _ => none
def c5o (fo : Nat) (x : AV) : Option AV :=
 match x with
 | .ptr o ver off => some (.ptr o ver (off + fo))
 | .cptr cs off => some (.cptr cs (off + fo))
 | _ => none
def b5Z (arr : Option Nat) (esh : Option Nat) (x i : AV) : Option AV :=
 match arr, x, i with
 | none, .sl _ sz xs, .int _ n => if sz = d9 esh /\ 0 <= n /\ n < xs.length then some (.cptr (xs.getD n.toNat .junk).cells 0) else none
 | none, .ref o ver off m e, .int _ n => if e = esh /\ 0 <= n /\ n < m then some (.ptr o ver (off + n.toNat * d9 esh)) else none
 | some len, .ptr o ver off, .int _ n => if 0 <= n /\ n < len then some (.ptr o ver (off + n.toNat * d9 esh)) else none
 | some len, .cptr cs off, .int _ n => if 0 <= n /\ n < len then some (.cptr cs (off + n.toNat * d9 esh)) else none
 | _, _, _ => none
def b6a (esh : Option Nat) (x : AV) (lo hi mx : Option AV) : Option AV :=
 match mx with
 | none =>
   match x with
   | .nils => match loN lo, hiN 0 hi with
     | some l, some h => if l <= h /\ h <= 0 then some .nils else none
     | _, _ => none
   | .sl _ sz xs => match loN lo, hiN xs.length hi with
     | some l, some h => if sz = d9 esh /\ l <= h /\ h <= xs.length then some (.sl false sz ((xs.take h).drop l)) else none
     | _, _ => none
   | .ref o ver off n e => match loN lo, hiN n hi with
     | some l, some h => if e = esh /\ l <= h /\ h <= n /\ (l = 0 \/ l < h) then some (.ref o ver (off + l * d9 esh) (h - l) e) else if e = esh /\ l = h /\ h <= n then some (.sl false (d9 esh) []) else none
     | _, _ => none
   | _ => none
 | some (.int _ m) => match hi with
   | some (.int _ h) => if m = 0 /\ h = 0 /\ loN lo = some 0 then (match x with
     | .nils => some .nils
     | .sl _ _ _ | .ref _ _ _ _ _ => some (.sl true (d9 esh) [])
     | _ => none) else none
   | _ => none
 | some _ => none
def c5p (lo hi : Option AV) (x : AV) : Option AV :=
 match x with
 | .str s => match loN lo, hiN s.size hi with
   | some l, some h => if l <= h /\ h <= s.size then some (.str (s.extract l h)) else none
   | _, _ => none
 | _ => none
def b3v (x i : AV) : Option AV :=
 match x, i with
 | .str s, .int _ n => if 0 <= n /\ n < s.size then some (.int .u8 (s[n.toNat]?.getD 0).toNat) else none
 | _, _ => none
def b6b (len : Nat) (sh : Option Nat) (x i : AV) : Option AV :=
 match x, i with
 | .agg cs, .int _ n => if 0 <= n /\ n < len then w9 sh cs (n.toNat * d9 sh) else none
 | _, _ => none
def c5q (i : Nat) (x : AV) : Option AV := match x with | .tup vs => if i < vs.length then some (vs.getD i .junk) else none | _ => none
def c5r (off : Nat) (sh : Option Nat) (x : AV) : Option AV := match x with | .agg cs => w9 sh cs off | _ => none
def c1W (c : b2R) (x : AV) : Option AV :=
 match c, x with
 | .str, .str s => some (.int .i64 s.size)
 | .sl, .nils => some (.int .i64 0)
 | .sl, .sl _ _ xs => some (.int .i64 xs.length)
 | .sl, .ref _ _ _ n _ => some (.int .i64 n)
 | .arr n, _ => some (.int .i64 n)
 | _, _ => none
def c5s (mx : Bool) (x y : AV) : Option AV :=
 match x, y with
 | .int k a, .int _ b => some (.int k (if mx then (if b > a then b else a) else (if b < a then b else a)))
 | _, _ => none
def a8Z (esh : Option Nat) (x : AV) (S : List Ob) : Option (Nat × List AV × List Nat) :=
 match x with
 | .nils | .snn _ => some (0, [], [])
 | .sl _ sz xs => if sz = d9 esh then some (xs.length, xs.flatMap AV.cells, []) else none
 | .ref o ver off m e => if e = esh then (v9 S o ver).map fun cs => (m, (cs.drop off).take (m * d9 esh), [o]) else none
 | .str s => if esh = none then some (s.size, v3 s, []) else none
 | _ => none
def a2n (ow ex : Bool) (esh : Option Nat) (n : Nat) (cs : List AV) (S : List Ob) : OV :=
 if n * d9 esh <= cs.length /\ cs.all AV.one = true then
  (if ow then some (.ref S.length 0 0 n esh, [], some (S.length, .arr 0 cs)) else some (.sl ex (d9 esh) (q8 esh n cs), [], none))
 else none
def b3w (ow : Bool) (esh : Option Nat) (bytes : Nat) (zc : List AV) (l c : AV) (S : List Ob) : OV :=
 match l, c with
 | .int _ l, .int _ c => if 0 <= l /\ l <= c /\ c * bytes <= 281474976710656 /\ c <= 281474976710656 then a2n ow false esh l.toNat (repl l.toNat zc) S else none
 | _, _ => none
def a5D (rd : List Nat) (x : OV) : OV := x.map fun (v, _, δ) => (v, rd, δ)
def b1E (ow : Bool) (esh : Option Nat) (bytes : Nat) (s x : AV) (S : List Ob) : OV :=
 (a8Z esh x S).bind fun (n, cells, rdx) =>
  if cells.all AV.one = true then
   match s with
   | .ref o ver off m e => if e = esh /\ (m + n) * bytes <= 140737488355328 /\ m + n <= 140737488355328 then (v9 S o ver).map fun cs => (.ref o (ver + 1) 0 (m + n) esh, o :: rdx, some (o, .arr (ver + 1) ((cs.drop off).take (m * d9 esh) ++ cells))) else none
   | .nils => if n = 0 then (if ow then some (.ref S.length 0 0 0 esh, rdx, some (S.length, .arr 0 [])) else some (.nils, rdx, none))
     else if n * bytes <= 140737488355328 /\ n <= 140737488355328 then a5D rdx (a2n ow false esh n cells S) else none
   | .sl ex sz xs => if n = 0 then (if ow /\ ex = true /\ xs.isEmpty = true then some (.ref S.length 0 0 0 esh, rdx, some (S.length, .arr 0 [])) else some (.sl ex sz xs, rdx, none))
     else if ex = true /\ sz = d9 esh /\ (xs.length + n) * bytes <= 140737488355328 /\ xs.length + n <= 140737488355328 then a5D rdx (a2n ow false esh (xs.length + n) (xs.flatMap AV.cells ++ cells) S) else none
   | _ => none
  else none
def b3x (esh : Option Nat) (s x : AV) (S : List Ob) : OV :=
 match s, x with
 | .ref o ver off m e, .sl _ sz xs => if e = esh /\ sz = d9 esh /\ 0 < m /\ m < xs.length /\ ((xs.take m).flatMap AV.cells).all AV.one = true then (v9 S o ver).map fun cs => (.int .i64 m, [], some (o, .arr ver (splice cs off ((xs.take m).flatMap AV.cells)))) else none
 | _, _ => none
def c2m (esh : Option Nat) (s x : AV) (S : List Ob) : OV :=
 (a8Z esh x S).bind fun (n, cells, rdx) =>
  if cells.all AV.one = true then match s with
   | .ref o ver off m e => if e = esh /\ n <= m then (v9 S o ver).map fun cs => (.int .i64 n, rdx, some (o, .arr ver (splice cs off cells))) else none
   | .nils => if n = 0 then some (.int .i64 0, rdx, none) else none
   | _ => none
  else none
def a2P : List AV -> Option (List UInt8)
 | [] => some []
 | .int .u8 n :: r => if 0 <= n /\ n < 256 then (a2P r).map (UInt8.ofNat n.toNat :: ·) else none
 | _ => none
def c2n (x : AV) (S : List Ob) : OV :=
 match x with
 | .str _ => none
 | x => (a8Z none x S).bind fun (_, cells, rd) => (a2P cells).map fun bs => (.str ⟨bs.toArray⟩, rd, none)
def c5t : AV -> Option AV
 | .str s => some (.sl false 1 (v3 s))
 | _ => none
def b6c (z : List AV) (ps : List (Nat × Nat × AV)) : Option AV := (a2Z z ps).map .agg

def c5u (t : TypeId) (x : AV) : Option AV := match x with | .iface t' v => if t' = t then some v else none | _ => none
def c5v (n : Nat) (esh : Option Nat) (x : AV) (lo hi : Option AV) (S : List Ob) : OV :=
 match x with
 | .ptr o ver off => (v9 S o ver).bind fun cs => match loN lo, hiN n hi with
   | some l, some h => if l <= h /\ h <= n /\ (l = 0 \/ l < n) /\ off + n * d9 esh <= cs.length then some (.ref o ver (off + l * d9 esh) (h - l) esh, [o], none) else none
   | _, _ => none
 | .cptr cs off => match esh, lo, hi with
   | none, none, none => if off + n <= cs.length /\ ((cs.drop off).take n).all AV.one = true then some (.sl false 1 ((cs.drop off).take n), [], none) else none
   | _, _, _ => none
 | _ => none
def c5w (esh : Option Nat) (z : List AV) (x : AV) (S : List Ob) : OV :=
 match x with
 | .nils => some (.tup [], [], none)
 | .ref o ver off n e => if e = esh /\ 0 < n /\ z.all AV.one = true then (v9 S o ver).map fun cs => (.tup [], [], some (o, .arr ver (splice cs off (repl n z)))) else none
 | _ => none
def opV (ow : Bool) (r : ROp) (F : Fm) (S : List Ob) : OV :=
 match r with
 | .mv x => some (ev F x, [], none)
 | .pick c a b => pv (b2a (ev F c) (ev F a) (ev F b))
 | .new cs => b5K ow cs S
 | .box x => if (ev F x).nj = true then b5K ow (ev F x).cells S else none
 | .build z ps => pv (b6c z (evP F ps))
 | .bsl esh z len ps => (a2Z (repl len z) (evP F ps)).bind fun cs => a2n ow true esh len cs S
 | .load sh a => a6U sh (ev F a) S
 | .store n a x => a6V n (ev F a) (ev F x) S
 | .nchk x => pv (b3t (ev F x))
 | .bin c op x y => pv (b3u c op (ev F x) (ev F y))
 | .eqs ks op x y => pv (c5n ks op (ev F x) (ev F y))
 | .un op x => pv (vUn op (ev F x))
 | .cint k x => pv (b5X k (ev F x))
 | .cstr x => pv (b5Y (ev F x))
 | .b2s x => c2n (ev F x) S
 | .s2b x => pv (c5t (ev F x))
 | .mki t x => some (.iface t (ev F x), [], none)
 | .mkf f a b => some (.fn f (evL F a) (evL F b), [], none)
 | .mksl esh bytes z l c => b3w ow esh bytes z (ev F l) (ev F c) S
 | .slc esh x lo hi mx => pv (b6a esh (ev F x) (evO F lo) (evO F hi) (evO F mx))
 | .sls x lo hi => pv (c5p (evO F lo) (evO F hi) (ev F x))
 | .fad off x => pv (c5o off (ev F x))
 | .iad arr esh x i => pv (b5Z arr esh (ev F x) (ev F i))
 | .idxs x i => pv (b3v (ev F x) (ev F i))
 | .idxa len sh x i => pv (b6b len sh (ev F x) (ev F i))
 | .ext i x => pv (c5q i (ev F x))
 | .fld off sh x => pv (c5r off sh (ev F x))
 | .len c x => pv (c1W c (ev F x))
 | .app esh bytes s x => b1E ow esh bytes (ev F s) (ev F x) S
 | .cpy esh s x => match b3x esh (ev F s) (ev F x) S with | some r => some r | none => c2m esh (ev F s) (ev F x) S
 | .mn mx x y => pv (c5s mx (ev F x) (ev F y))
 | .tas t x => pv (c5u t (ev F x))
 | .slp n esh x lo hi => c5v n esh (ev F x) (evO F lo) (evO F hi) S
 | .clr esh z x => c5w esh z (ev F x) S

theorem a1v {x : Option AV} {v rd δ} (h : pv x = some (v, rd, δ)) : x = some v /\ rd = [] /\ δ = none := by
 cases x with
 | none => simp [pv] at h
 | some y => simp [pv] at h; obtain ⟨rfl, rfl, rfl⟩ := h; simp

theorem a0l {S o ver cs} (h : v9 S o ver = some cs) : hp S o = .arr ver cs := by
 unfold v9 at h
 split at h
 ·rename_i e; split at h
  ·rename_i e2; cases h; subst e2; exact e
  ·cases h
 ·cases h

theorem a5E (S : List Ob) : hp S S.length = .virgin := by simp [hp, List.getD_eq_getElem?_getD]

theorem b0e {ow cs S v rd δ} (h : b5K ow cs S = some (v, rd, δ)) : a8Q cs (hp S) v rd δ := by
 unfold b5K at h
 split at h <;> cases h
 ·exact ⟨rfl, .inl ⟨S.length, a5E S, rfl, rfl⟩⟩
 ·exact ⟨rfl, .inr ⟨rfl, rfl⟩⟩

theorem a4k {sh cs off v} (h : w9 sh cs off = some v) : a6D sh cs off v := by
 unfold w9 at h
 cases sh <;> simp only at h <;> split at h <;> cases h
 ·rename_i e; exact ⟨e, rfl⟩
 ·rename_i e; exact ⟨e, rfl⟩

theorem a3d {ow ex esh n cs S v rd δ} (h : a2n ow ex esh n cs S = some (v, rd, δ)) : a1c ex esh n cs (hp S) v rd δ := by
 unfold a2n at h
 split at h
 ·rename_i e
  split at h <;> cases h
  ·exact ⟨rfl, e.1, e.2, .inl ⟨S.length, a5E S, rfl, rfl⟩⟩
  ·exact ⟨rfl, e.1, e.2, .inr ⟨rfl, rfl⟩⟩
 ·cases h

theorem a7H {esh x S n cells rd} (h : a8Z esh x S = some (n, cells, rd)) : Src esh x (hp S) n cells rd := by
 unfold a8Z at h
 unfold Src
 cases x <;> simp only [reduceCtorEq] at h ⊢
 ·split at h
  ·rename_i e; cases h; exact ⟨e, rfl, rfl, rfl⟩
  ·cases h
 ·cases h; exact ⟨rfl, rfl, rfl⟩
 ·cases h; exact ⟨rfl, rfl, rfl⟩
 ·split at h
  ·rename_i e; cases h; exact ⟨e, rfl, rfl, rfl⟩
  ·cases h
 ·split at h
  ·rename_i e
   simp only [Option.map_eq_some_iff] at h
   obtain ⟨cs, h1, h2⟩ := h
   cases h2
   exact ⟨e, rfl, rfl, cs, a0l h1, rfl⟩
  ·cases h

theorem a5F : ∀ {cells : List AV} {bs}, a2P cells = some bs -> cells = v3 ⟨bs.toArray⟩
 | [], bs, h => by simp [a2P] at h; subst h; rfl
 | x :: r, bs, h => by
   cases x <;> try (simp [a2P] at h; done)
   rename_i k n
   cases k <;> try (simp [a2P] at h; done)
   simp only [a2P] at h
   split at h
   ·rename_i hn
    simp only [Option.map_eq_some_iff] at h
    obtain ⟨bs', h1, rfl⟩ := h
    have := a5F h1
    simp only [v3, List.map_cons] at this ⊢
    rw [<- this]
    congr 2
    have : (UInt8.ofNat n.toNat).toNat = n.toNat % 2 ^ 8 := UInt8.toNat_ofNat'
    rw [this]; omega
   ·cases h

theorem b3y {x S v rd δ} (h : c2n x S = some (v, rd, δ)) : b3n x (hp S) v rd /\ δ = none := by
 unfold c2n at h
 split at h
 ·cases h
 ·rename_i hx
  simp only [Option.bind_eq_some_iff, Option.map_eq_some_iff, Prod.exists] at h
  obtain ⟨n, cells, rd', h1, bs, h2, h3⟩ := h
  cases h3
  refine ⟨⟨n, _, ?_, ?_, rfl⟩, rfl⟩
  ·rw [<- a5F h2]; exact a7H h1
  ·cases x <;> first | trivial | exact (hx _ rfl).elim

theorem a8r {sh x S v rd δ} (h : a6U sh x S = some (v, rd, δ)) : a2e sh x (hp S) v rd /\ δ = none := by
 unfold a6U at h
 split at h
 ·simp only [Option.bind_eq_some_iff, Option.map_eq_some_iff] at h
  obtain ⟨cs, h1, v', h2, h3⟩ := h
  cases h3
  exact ⟨⟨rfl, cs, a0l h1, by have := a4k h2; cases sh <;> exact this⟩, rfl⟩
 ·obtain ⟨h1, rfl, rfl⟩ := a1v h
  exact ⟨⟨rfl, by have := a4k h1; cases sh <;> exact this⟩, rfl⟩
 ·cases h

theorem b0f {n a x S v rd δ} (h : a6V n a x S = some (v, rd, δ)) : a2M n a x (hp S) v rd δ := by
 unfold a6V at h
 split at h
 ·simp only [Option.bind_eq_some_iff] at h
  obtain ⟨cs, h1, h2⟩ := h
  split at h2 <;> cases h2
  rename_i e
  exact ⟨rfl, rfl, cs, a0l h1, e.1, e.2.1, e.2.2, rfl⟩
 ·cases h

theorem b2b {x v} (h : b3t x = some v) : a8h x v := by
 unfold b3t at h; unfold a8h
 split at h <;> cases h <;> rfl

theorem b3z {c op x y v} (h : b3u c op x y = some v) : a9y c op x y v := by
 unfold b3u at h; unfold a9y
 split at h
 ·split at h
  ·exact h
  ·exact h
  ·rename_i h1 h2
   split at h
   ·cases op <;> first | exact (h1 rfl).elim | exact (h2 rfl).elim | exact ⟨by assumption, h⟩
   ·cases h
 ·split at h
  ·cases h
  ·rename_i e
   exact ⟨fun e' => Classical.not_not.1 fun e2 => e ⟨e', e2⟩, h⟩
 all_goals first | cases h; done | (split at h <;> first | cases h; done | exact ⟨by assumption, h⟩)

theorem b3A {arr esh x i v} (h : b5Z arr esh x i = some v) : a9B arr esh x i v := by
 unfold b5Z at h; unfold a9B
 split at h
 all_goals first | cases h; done | skip
 all_goals (split at h <;> cases h; rename_i e)
 ·exact ⟨e.1, e.2.1, e.2.2, rfl⟩
 ·exact ⟨e.1, e.2.1, e.2.2, rfl⟩
 ·exact ⟨e.1, e.2, rfl⟩
 ·exact ⟨e.1, e.2, rfl⟩

theorem b3B {esh x lo hi mx v} (h : b6a esh x lo hi mx = some v) : a9C esh x lo hi mx v := by
 unfold b6a at h; unfold a9C
 split at h
 ·split at h
  ·split at h
   ·rename_i l k h1 h2
    split at h <;> cases h
    rename_i e
    exact ⟨l, k, h1, h2, e.1, e.2, rfl⟩
   ·cases h
  ·split at h
   ·rename_i l k h1 h2
    split at h <;> cases h
    rename_i e
    exact ⟨e.1, l, k, h1, h2, e.2.1, e.2.2, rfl⟩
   ·cases h
  ·split at h
   ·rename_i l k h1 h2
    split at h
    ·cases h
     rename_i e
     exact ⟨e.1, l, k, h1, h2, e.2.1, e.2.2.1, .inl ⟨e.2.2.2, rfl⟩⟩
    ·split at h <;> cases h
     rename_i e
     exact ⟨e.1, l, k, h1, h2, Nat.le_of_eq e.2.1, e.2.2, .inr ⟨e.2.1, rfl⟩⟩
   ·cases h
  ·cases h
 ·split at h
  ·split at h
   ·rename_i e
    obtain ⟨rfl, rfl, e3⟩ := e
    refine ⟨rfl, e3, ⟨_, rfl⟩, ?_⟩
    split at h <;> cases h <;> rfl
   ·cases h
  ·cases h
 ·cases h

theorem b3C {ow esh bytes s x S v rd δ} (h : b1E ow esh bytes s x S = some (v, rd, δ)) : a9K esh bytes s x (hp S) v rd δ := by
 unfold b1E at h
 simp only [Option.bind_eq_some_iff, Prod.exists] at h
 obtain ⟨n, cells, rdx, h1, h2⟩ := h
 refine ⟨n, cells, rdx, a7H h1, ?_⟩
 split at h2
 ·rename_i hone
  refine ⟨hone, ?_⟩
  split at h2
  ·split at h2
   ·rename_i e
    simp only [Option.map_eq_some_iff] at h2
    obtain ⟨cs, h3, h4⟩ := h2
    cases h4
    exact .inr (.inr ⟨e.1, e.2.1, e.2.2, rfl, cs, a0l h3, rfl, rfl⟩)
   ·cases h2
  ·split at h2
   ·rename_i hn
    split at h2 <;> cases h2
    ·exact .inr (.inl ⟨hn, rfl, .inl rfl, _, a5E S, rfl, rfl⟩)
    ·exact .inl ⟨hn, rfl, rfl, rfl, trivial⟩
   ·rename_i hn
    split at h2
    ·rename_i e
     simp only [a5D, Option.map_eq_some_iff, Prod.exists] at h2
     obtain ⟨v', rd', δ', h3, h4⟩ := h2
     cases h4
     have := a3d h3
     obtain ⟨a1, a2⟩ := this
     subst a1
     exact .inr (.inr ⟨by omega, e.1, e.2, rfl, rfl, a2⟩)
    ·cases h2
  ·rename_i ex sz xs
   split at h2
   ·rename_i hn
    split at h2
    ·rename_i e
     cases h2
     obtain ⟨_, rfl, e3⟩ := e
     have : xs = [] := by simpa using e3
     subst this
     exact .inr (.inl ⟨hn, rfl, .inr ⟨_, rfl⟩, _, a5E S, rfl, rfl⟩)
    ·cases h2
     exact .inl ⟨hn, rfl, rfl, rfl, trivial⟩
   ·rename_i hn
    split at h2
    ·rename_i e
     obtain ⟨rfl, e⟩ := e
     simp only [a5D, Option.map_eq_some_iff, Prod.exists] at h2
     obtain ⟨v', rd', δ', h3, h4⟩ := h2
     cases h4
     have := a3d h3
     obtain ⟨a1, a2⟩ := this
     subst a1
     exact .inr (.inr ⟨by omega, e.1, e.2.1, e.2.2, rfl, rfl, a2⟩)
    ·cases h2
  ·cases h2
 ·cases h2

theorem b3D {esh s x S v rd δ} (h : c2m esh s x S = some (v, rd, δ)) : a9L esh s x (hp S) v rd δ := by
 unfold c2m at h
 simp only [Option.bind_eq_some_iff, Prod.exists] at h
 obtain ⟨n, cells, rdx, h1, h2⟩ := h
 refine ⟨n, cells, rdx, a7H h1, ?_⟩
 split at h2
 ·rename_i hone
  refine ⟨hone, ?_⟩
  split at h2
  ·split at h2
   ·rename_i e
    simp only [Option.map_eq_some_iff] at h2
    obtain ⟨cs, h3, h4⟩ := h2
    cases h4
    exact ⟨e.1, e.2, rfl, rfl, cs, a0l h3, rfl⟩
   ·cases h2
  ·split at h2
   ·rename_i e; cases h2; exact ⟨e, rfl, rfl, rfl⟩
   ·cases h2
  ·cases h2
 ·cases h2

theorem b2c {esh s x S v rd δ} (h : b3x esh s x S = some (v, rd, δ)) : a6I esh s x (hp S) v rd δ := by
 unfold b3x at h
 split at h
 ·split at h
  ·rename_i e
   simp only [Option.map_eq_some_iff] at h
   obtain ⟨cs, h3, h4⟩ := h
   cases h4
   obtain ⟨rfl, rfl, e1, e2, e3⟩ := e
   exact ⟨_, _, _, _, _, _, rfl, rfl, e1, by omega, e3, rfl, rfl, cs, a0l h3, rfl⟩
  ·cases h
 ·cases h
theorem b0g {ow r F S v rd δ} (h : opV ow r F S = some (v, rd, δ)) : St r F (hp S) v rd δ := by
 cases r
 all_goals simp only [opV] at h
 all_goals simp only [St]
 case mv => cases h; exact ⟨rfl, rfl, rfl⟩
 case pick =>
  replace h := a1v h; obtain ⟨h, rfl, rfl⟩ := h
  unfold b2a at h; unfold a9V
  split at h <;> cases h
  rename_i e
  rw [e]
  exact ⟨rfl, rfl, rfl⟩
 case new => exact b0e h
 case box =>
  split at h
  ·rename_i e; exact ⟨e, b0e h⟩
  ·cases h
 case build =>
  replace h := a1v h; obtain ⟨h, rfl, rfl⟩ := h
  simp only [b6c, Option.map_eq_some_iff] at h
  obtain ⟨cs, h1, rfl⟩ := h
  exact ⟨⟨cs, h1, rfl⟩, rfl, rfl⟩
 case bsl =>
  simp only [Option.bind_eq_some_iff] at h
  obtain ⟨cs, h1, h2⟩ := h
  exact ⟨cs, h1, a3d h2⟩
 case load => exact a8r h
 case store => exact b0f h
 case nchk => replace h := a1v h; obtain ⟨h, rfl, rfl⟩ := h; exact ⟨b2b h, rfl, rfl⟩
 case bin => replace h := a1v h; obtain ⟨h, rfl, rfl⟩ := h; exact ⟨b3z h, rfl, rfl⟩
 case eqs =>
  replace h := a1v h; obtain ⟨h, rfl, rfl⟩ := h
  refine ⟨?_, rfl, rfl⟩
  unfold c5n at h; unfold b1S
  split at h
  ·rename_i e1 e2
   rw [e1, e2]
   split at h
   ·exact ⟨by assumption, h⟩
   ·cases h
  ·cases h
 case un =>
  replace h := a1v h; obtain ⟨h, rfl, rfl⟩ := h
  refine ⟨?_, rfl, rfl⟩
  unfold vUn at h; unfold c1T
  split at h
  ·rename_i e; rw [e]; cases h; rfl
  ·rename_i e; rw [e]; cases h; rfl
  ·rename_i e; rw [e]; exact h
  ·cases h
 case cint =>
  replace h := a1v h; obtain ⟨h, rfl, rfl⟩ := h
  refine ⟨?_, rfl, rfl⟩
  unfold b5X at h; unfold b2T
  split at h <;> cases h
  rename_i e; rw [e]
 case cstr =>
  replace h := a1v h; obtain ⟨h, rfl, rfl⟩ := h
  refine ⟨?_, rfl, rfl⟩
  unfold b5Y at h; unfold b2U
  split at h <;> cases h
  rename_i e; rw [e]
 case b2s => exact b3y h
 case s2b =>
  replace h := a1v h; obtain ⟨h, rfl, rfl⟩ := h
  refine ⟨?_, rfl, rfl⟩
  unfold c5t at h; unfold b1R
  split at h <;> cases h
  rename_i e; rw [e]
 case mki => cases h; exact ⟨rfl, rfl, rfl⟩
 case mkf => cases h; exact ⟨rfl, rfl, rfl⟩
 case mksl =>
  unfold b3w at h; unfold a4q
  split at h
  ·rename_i e1 e2
   rw [e1, e2]
   split at h
   ·rename_i e; exact ⟨e.1, e.2.1, e.2.2.1, e.2.2.2, a3d h⟩
   ·cases h
  ·cases h
 case slc => replace h := a1v h; obtain ⟨h, rfl, rfl⟩ := h; exact ⟨b3B h, rfl, rfl⟩
 case sls =>
  replace h := a1v h; obtain ⟨h, rfl, rfl⟩ := h
  refine ⟨?_, rfl, rfl⟩
  unfold c5p at h; unfold b1O
  split at h
  ·rename_i e
   rw [e]
   split at h
   ·rename_i l k h1 h2
    split at h <;> cases h
    rename_i e; exact ⟨l, k, h1, h2, e.1, e.2, rfl⟩
   ·cases h
  ·cases h
 case fad =>
  replace h := a1v h; obtain ⟨h, rfl, rfl⟩ := h
  refine ⟨?_, rfl, rfl⟩
  unfold c5o at h; unfold b1L
  split at h <;> cases h <;> (rename_i e; rw [e])
 case iad => replace h := a1v h; obtain ⟨h, rfl, rfl⟩ := h; exact ⟨b3A h, rfl, rfl⟩
 case idxs =>
  replace h := a1v h; obtain ⟨h, rfl, rfl⟩ := h
  refine ⟨?_, rfl, rfl⟩
  unfold b3v at h; unfold a8j
  split at h
  ·rename_i e1 e2; rw [e1, e2]; split at h <;> cases h; rename_i e; exact ⟨e.1, e.2, rfl⟩
  ·cases h
 case idxa =>
  replace h := a1v h; obtain ⟨h, rfl, rfl⟩ := h
  refine ⟨?_, rfl, rfl⟩
  unfold b6b at h; unfold a8k
  split at h
  ·rename_i e1 e2
   rw [e1, e2]
   split at h
   ·rename_i e; exact ⟨e.1, e.2, a4k h⟩
   ·cases h
  ·cases h
 case ext =>
  replace h := a1v h; obtain ⟨h, rfl, rfl⟩ := h
  refine ⟨?_, rfl, rfl⟩
  unfold c5q at h; unfold b1M
  split at h
  ·rename_i e; rw [e]; split at h <;> cases h; exact ⟨by assumption, rfl⟩
  ·cases h
 case fld =>
  replace h := a1v h; obtain ⟨h, rfl, rfl⟩ := h
  refine ⟨?_, rfl, rfl⟩
  unfold c5r at h; unfold b5T
  split at h
  ·rename_i e; rw [e]; exact a4k h
  ·cases h
 case len =>
  replace h := a1v h; obtain ⟨h, rfl, rfl⟩ := h
  refine ⟨?_, rfl, rfl⟩
  unfold c1W at h; unfold b1N
  split at h
  all_goals first | (cases h; done) | skip
  all_goals (cases h; rename_i e; first | rw [e] | rfl)
 case app => exact b3C h
 case cpy =>
  split at h
  ·rename_i e; cases h; exact .inr (.inr (b2c e))
  ·exact .inl (b3D h)
 case tas =>
  replace h := a1v h; obtain ⟨h, rfl, rfl⟩ := h
  refine ⟨?_, rfl, rfl⟩
  unfold c5u at h; unfold b1T
  split at h
  ·rename_i e; rw [e]
   split at h
   ·rename_i e2; cases h; exact ⟨e2, rfl⟩
   ·cases h
  ·cases h
 case slp =>
  unfold c5v at h
  split at h
  ·rename_i o ver off e
   simp only [Option.bind_eq_some_iff] at h
   obtain ⟨cs, h1, h2⟩ := h
   split at h2
   ·rename_i l k e1 e2
    split at h2
    ·rename_i e3; cases h2
     refine ⟨?_, rfl⟩
     unfold a6H
     rw [e]
     exact ⟨rfl, cs, l, k, a0l h1, e1, e2, e3.1, e3.2.1, e3.2.2.1, e3.2.2.2, rfl⟩
    ·cases h2
   ·cases h2
  ·rename_i cs off e
   split at h
   ·rename_i e1 e2
    split at h
    ·rename_i e3; cases h
     refine ⟨?_, rfl⟩
     unfold a6H
     rw [e]
     exact ⟨rfl, rfl, e1, e2, e3.1, fun x hx => AV.cells_one (List.all_eq_true.1 e3.2 x hx), rfl⟩
    ·cases h
   ·cases h
  ·cases h
 case clr =>
  unfold c5w at h
  split at h
  ·rename_i e; cases h; exact ⟨rfl, rfl, by rw [e]⟩
  ·rename_i o ver off n e' e
   split at h
   ·rename_i e2
    simp only [Option.map_eq_some_iff] at h
    obtain ⟨cs, h1, h2⟩ := h
    cases h2
    refine ⟨rfl, rfl, ?_⟩
    rw [e]
    exact ⟨e2.1, e2.2.1, e2.2.2, cs, a0l h1, rfl⟩
   ·cases h
  ·cases h
 case mn =>
  replace h := a1v h; obtain ⟨h, rfl, rfl⟩ := h
  refine ⟨?_, rfl, rfl⟩
  unfold c5s at h; unfold a8U
  split at h
  ·rename_i e1 e2; rw [e1, e2]; cases h; rfl
  ·cases h
end Go.Ab

