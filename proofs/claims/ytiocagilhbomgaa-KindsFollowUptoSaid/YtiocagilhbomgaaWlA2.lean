/- What stays of the relation between ghost and world when a block is made, a cell is written, or nothing but a count turns. -/
import Derived.Test.YtiocagilhbomgaaWlA1
namespace Go.Ab
open Go.RowKit
set_option linter.unusedVariables false
set_option linter.unusedSimpArgs false

def upd {α : Type} (f : Nat → α) (o : Nat) (x : α) : Nat → α := fun i => if i = o then x else f i
@[simp] theorem upd_same {α : Type} (f : Nat → α) (o : Nat) (x : α) : upd f o x o = x := by simp [upd]
theorem upd_ne {α : Type} (f : Nat → α) {o i : Nat} (x : α) (h : i ≠ o) : upd f o x i = f i := by simp [upd, h]

def AV.one : AV → Bool
  | .agg _ | .tup _ | .junk => false
  | _ => true

theorem VR.one {pm L σ} {x : AV} {v : Value} (h : VR pm L σ x v) (h1 : x.one = true) : v.oneCell' = true := by
  cases h <;> simp_all [AV.one, Value.oneCell']

theorem WRel.heap_eq {g σ} {w w' : World} (h : WRel g σ w) (hh : w'.heap = w.heap) (ht : w'.tape = w.tape) (ho : w'.os = w.os) (hout : w'.output = w.output) : WRel g σ w' := by
  have hc : ∀ a, w'.cell? a = w.cell? a := fun a => by simp [World.cell?, hh]
  have hf : ∀ a, w'.frozen? a = w.frozen? a := fun a => by simp [World.frozen?, hh]
  refine ⟨fun b o v e => by rw [hc]; exact h.pm b o v e, fun b o v e => by rw [hc]; exact h.tm b o v e, fun b o v e => by rw [hf]; exact h.tmf b o v e, h.disj, ?_, by rw [hh]; exact h.B0, fun o ver cs e => ?_, h.sep⟩
  · exact h.low.trans ⟨ho, ht, hout, by rw [hh]; exact Nat.le_refl _, fun k _ => by rw [hh]⟩
  · have k := h.ob o ver cs e
    exact ⟨k.low, k.len, fun j hj => by rw [hc]; exact k.there j hj, fun j hj => by rw [hf]; exact k.free j hj, k.pm, k.tm⟩

theorem WRel.drew {g σ} {w : World} (h : WRel g σ w) : WRel g σ w.drew := h.heap_eq rfl rfl rfl rfl

theorem WRel.pm_lt {g σ} {w : World} (h : WRel g σ w) {b o v} (e : g.pm b o = some v) : b < w.heap.size := lt_of_cell (h.pm b o v e)
theorem WRel.tm_lt {g σ} {w : World} (h : WRel g σ w) {b o v} (e : g.tm b o = some v) : b < w.heap.size := lt_of_cell (h.tm b o v e)
theorem WRel.pm_new {g σ} {w : World} (h : WRel g σ w) (o : Nat) : g.pm w.heap.size o = none := by
  cases e : g.pm w.heap.size o with
  | none => rfl
  | some v => exact absurd (h.pm_lt e) (Nat.lt_irrefl _)
theorem WRel.tm_new {g σ} {w : World} (h : WRel g σ w) (o : Nat) : g.tm w.heap.size o = none := by
  cases e : g.tm w.heap.size o with
  | none => rfl
  | some v => exact absurd (h.tm_lt e) (Nat.lt_irrefl _)

theorem ObOK.lt {g σ o cs} {w : World} (k : ObOK g σ o cs w) (hc : 0 < (g.L o).cap) : (g.L o).b < w.heap.size := by
  obtain ⟨v, hv, _⟩ := k.there 0 hc
  exact lt_of_cell hv

/-- A block is made that is nobody's. -/
theorem WRel.alloc_none {g σ} {w : World} (h : WRel g σ w) (x : Go.Obj) : WRel g σ (w.alloc x) := by
  have hc : ∀ b o v, w.cell? ⟨b, o, none⟩ = some v → (w.alloc x).cell? ⟨b, o, none⟩ = some v := fun b o v e => by
    rw [World.cell?_alloc_lt (h := lt_of_cell e)]; exact e
  refine ⟨fun b o v e => hc _ _ _ (h.pm b o v e), fun b o v e => hc _ _ _ (h.tm b o v e), fun b o v e => by
    rw [World.frozen?_alloc_old (h := by have := h.tm_lt e; simp at this ⊢; omega)]; exact h.tmf b o v e, h.disj, h.low.alloc h.B0 x, by have := h.B0; simp; omega, fun o ver cs e => ?_, h.sep⟩
  have k := h.ob o ver cs e
  refine ⟨k.low, k.len, fun j hj => ?_, fun j hj => ?_, k.pm, k.tm⟩
  · obtain ⟨v, hv, hr⟩ := k.there j hj
    exact ⟨v, hc _ _ _ hv, hr⟩
  · obtain ⟨v, hv, _⟩ := k.there j hj
    rw [World.frozen?_alloc_old (h := by have := lt_of_cell hv; simp at this ⊢; omega)]
    exact k.free j hj

/-- The object of a number is laid at a place of cells that nobody has. -/
theorem WRel.own {g σ} {w : World} (h : WRel g σ w) {o : Nat} {l : Loc} {ver : Nat} {cs : List AV}
    (hob : ObExt (σ o) (g.L o) (.arr ver cs) l)
    (hlow : g.B0 ≤ l.b) (hlen : cs.length ≤ l.cap)
    (hth : ∀ j, j < l.cap → ∃ v, w.cell? ⟨l.b, l.off + j, none⟩ = some v ∧ ∀ hj : j < cs.length, VR g.pm (upd g.L o l) (upd σ o (.arr ver cs)) (cs[j]) v)
    (hfr : ∀ j, j < l.cap → w.frozen? ⟨l.b, l.off + j, none⟩ = false)
    (hpm : ∀ j, j < l.cap → g.pm l.b (l.off + j) = none) (htm : ∀ j, j < l.cap → g.tm l.b (l.off + j) = none)
    (hap : ∀ o' ver' cs', o' ≠ o → σ o' = .arr ver' cs' → Apart (g.L o') l) :
    WRel { g with L := upd g.L o l } (upd σ o (.arr ver cs)) w ∧ g.le σ { g with L := upd g.L o l } (upd σ o (.arr ver cs)) := by
  have hext : Ext g.pm g.L σ g.pm (upd g.L o l) (upd σ o (.arr ver cs)) := ⟨fun _ _ _ e => e, fun i => by
    by_cases hi : i = o
    · subst hi; simpa using hob
    · simp [upd_ne _ _ hi]; exact ObExt.refl _ _⟩
  refine ⟨⟨h.pm, h.tm, h.tmf, h.disj, h.low, h.B0, fun i ver' cs' e => ?_, fun i i' v1 v2 c1 c2 e1 e2 hne => ?_⟩, ⟨hext, rfl, rfl, rfl⟩⟩
  · by_cases hi : i = o
    · subst hi
      simp at e
      obtain ⟨rfl, rfl⟩ := e
      exact ⟨by simpa using hlow, by simpa using hlen, by simpa using hth, by simpa using hfr, by simpa using hpm, by simpa using htm⟩
    · rw [upd_ne _ _ hi] at e
      have k := h.ob i ver' cs' e
      refine ⟨by simpa [upd_ne _ _ hi] using k.low, by simpa [upd_ne _ _ hi] using k.len, ?_, by simpa [upd_ne _ _ hi] using k.free, by simpa [upd_ne _ _ hi] using k.pm, by simpa [upd_ne _ _ hi] using k.tm⟩
      intro j hj
      simp only [upd_ne _ _ hi] at hj ⊢
      obtain ⟨v, hv, hr⟩ := k.there j hj
      exact ⟨v, hv, fun hj' => (hr hj').mono hext⟩
  · by_cases hi : i = o
    · subst hi
      have hi' : i' ≠ i := fun h => hne h.symm
      rw [upd_ne _ _ hi'] at e2
      simp only [upd_same, upd_ne _ _ hi']
      have := hap i' _ _ hi' e2
      intro hb j j' hj hj' he
      exact this hb.symm j' j hj' hj he.symm
    · rw [upd_ne _ _ hi] at e1
      by_cases hi' : i' = o
      · subst hi'
        simp only [upd_same, upd_ne _ _ hi]
        exact hap i _ _ hi e1
      · rw [upd_ne _ _ hi'] at e2
        simp only [upd_ne _ _ hi, upd_ne _ _ hi']
        exact h.sep i i' _ _ _ _ e1 e2 hne

/-- A new block of cells becomes an object. -/
theorem WRel.alloc_ob {g σ} {w : World} (h : WRel g σ w) {o ver : Nat} (c : Array Value) (t : TypeId) (cs : List AV)
    (hob : ObExt (σ o) (g.L o) (.arr ver cs) ⟨w.heap.size, 0, c.size⟩) (hlen : cs.length ≤ c.size)
    (hc : ∀ j (hj : j < cs.length) (hj' : j < c.size), VR g.pm g.L σ (cs[j]) (c[j])) :
    WRel { g with L := upd g.L o ⟨w.heap.size, 0, c.size⟩ } (upd σ o (.arr ver cs)) (w.alloc (.cells c t)) ∧
      g.le σ { g with L := upd g.L o ⟨w.heap.size, 0, c.size⟩ } (upd σ o (.arr ver cs)) := by
  have hext : Ext g.pm g.L σ g.pm (upd g.L o ⟨w.heap.size, 0, c.size⟩) (upd σ o (.arr ver cs)) := ⟨fun _ _ _ e => e, fun i => by
    by_cases hi : i = o
    · subst hi; simpa using hob
    · simp [upd_ne _ _ hi]; exact ObExt.refl _ _⟩
  refine (h.alloc_none (.cells c t)).own hob h.B0 hlen (fun j hj => ?_) (fun j hj => ?_) (fun j hj => h.pm_new _) (fun j hj => h.tm_new _) ?_
  · simp at hj
    refine ⟨c[j], ?_, fun hj' => (hc j hj' hj).mono hext⟩
    rw [show (⟨w.heap.size, 0 + j, none⟩ : Addr) = ⟨w.heap.size, j, none⟩ by simp]
    simp [hj]
  · simp
  · intro o' ver' cs' hne e hb j j' hj hj'
    have k := h.ob o' ver' cs' e
    simp at hb
    have := k.lt (by omega)
    omega

/-- Cells that nobody has, and that are written no more, are told for good. -/
theorem WRel.tell {g σ} {w : World} (h : WRel g σ w) (b o n : Nat) (us : Nat → Value)
    (hc : ∀ j, j < n → w.cell? ⟨b, o + j, none⟩ = some (us j))
    (htm : ∀ j, j < n → g.tm b (o + j) = none)
    (hold : ∀ j, j < n → ∀ v, g.pm b (o + j) = some v → v = us j)
    (hap : ∀ o' ver' cs', σ o' = .arr ver' cs' → ∀ j, j < n → ∀ j', j' < (g.L o').cap → ¬ ((g.L o').b = b ∧ (g.L o').off + j' = o + j)) :
    WRel { g with pm := fun b' o' => if b' = b ∧ o ≤ o' ∧ o' < o + n then some (us (o' - o)) else g.pm b' o' } σ w ∧
      g.le σ { g with pm := fun b' o' => if b' = b ∧ o ≤ o' ∧ o' < o + n then some (us (o' - o)) else g.pm b' o' } σ := by
  have hext : Ext g.pm g.L σ (fun b' o' => if b' = b ∧ o ≤ o' ∧ o' < o + n then some (us (o' - o)) else g.pm b' o') g.L σ := ⟨fun b' o' v e => by
    show (if b' = b ∧ o ≤ o' ∧ o' < o + n then some (us (o' - o)) else g.pm b' o') = some v
    split
    · rename_i hh
      obtain ⟨rfl, h1, h2⟩ := hh
      have := hold (o' - o) (by omega) v (by rw [show o + (o' - o) = o' by omega]; exact e)
      rw [this]
    · exact e, fun i => ObExt.refl _ _⟩
  refine ⟨⟨fun b' o' v e => ?_, h.tm, h.tmf, fun b' o' v e => ?_, h.low, h.B0, fun i ver' cs' e => ?_, h.sep⟩, ⟨hext, rfl, rfl, rfl⟩⟩
  · replace e : (if b' = b ∧ o ≤ o' ∧ o' < o + n then some (us (o' - o)) else g.pm b' o') = some v := e
    split at e
    · rename_i hh
      obtain ⟨rfl, h1, h2⟩ := hh
      cases e
      have := hc (o' - o) (by omega)
      rwa [show o + (o' - o) = o' by omega] at this
    · exact h.pm _ _ _ e
  · replace e : (if b' = b ∧ o ≤ o' ∧ o' < o + n then some (us (o' - o)) else g.pm b' o') = some v := e
    split at e
    · rename_i hh
      obtain ⟨rfl, h1, h2⟩ := hh
      have := htm (o' - o) (by omega)
      rwa [show o + (o' - o) = o' by omega] at this
    · exact h.disj _ _ _ e
  · have k := h.ob i ver' cs' e
    refine ⟨k.low, k.len, fun j hj => ?_, k.free, fun j hj => ?_, k.tm⟩
    · obtain ⟨v, hv, hr⟩ := k.there j hj
      exact ⟨v, hv, fun hj' => (hr hj').mono hext⟩
    · show (if (g.L i).b = b ∧ o ≤ (g.L i).off + j ∧ (g.L i).off + j < o + n then some (us ((g.L i).off + j - o)) else g.pm (g.L i).b ((g.L i).off + j)) = none
      rw [if_neg]
      · exact k.pm j hj
      · rintro ⟨h1, h2, h3⟩
        exact hap i _ _ e ((g.L i).off + j - o) (by omega) j hj ⟨h1, by omega⟩

theorem cell_alloc_at (w : World) (c : Array Value) (t : TypeId) (fz : Nat × Nat) (i : Nat) : (w.alloc (.cells c t fz)).cell? ⟨w.heap.size, i, none⟩ = c[i]? := by
  show (match (w.heap.push (.cells c t fz))[w.heap.size]? with | some (.cells c _ _) => if (none : Option Nat).isSome then none else c[i]? | _ => none) = _
  rw [Array.getElem?_push_size]
  rfl

/-- A new block's first cells are told for good. -/
theorem WRel.alloc_tell {g σ} {w : World} (h : WRel g σ w) (c : Array Value) (t : TypeId) (fz : Nat × Nat := (0, 0)) :
    ∃ g', WRel g' σ (w.alloc (.cells c t fz)) ∧ g.le σ g' σ ∧ ∀ j, (hj : j < c.size) → g'.pm w.heap.size j = some (c[j]) := by
  obtain ⟨h1, h2⟩ := (h.alloc_none (.cells c t fz)).tell w.heap.size 0 c.size (fun j => c.getD j undef) (fun j hj => by
      rw [show (⟨w.heap.size, 0 + j, none⟩ : Addr) = ⟨w.heap.size, j, none⟩ by simp]
      rw [cell_alloc_at]; simp [hj, Array.getD]) (fun j hj => h.tm_new _) (fun j hj v e => by rw [h.pm_new] at e; cases e)
    (fun o' ver' cs' e j hj j' hj' hh => by
      have k := h.ob o' ver' cs' e
      have := k.lt (by omega)
      omega)
  refine ⟨_, h1, h2, fun j hj => ?_⟩
  simp [hj, Array.getD]

theorem cell?_setCell_iff (w : World) (b o : Nat) (x : Value) (b' o' : Nat) {u : Value} (h : w.cell? ⟨b, o, none⟩ = some u) :
    (w.setCell ⟨b, o, none⟩ x).cell? ⟨b', o', none⟩ = if b' = b ∧ o' = o then some x else w.cell? ⟨b', o', none⟩ := by
  split
  · rename_i hh; obtain ⟨rfl, rfl⟩ := hh; exact World.cell?_setCell_same _ _ _ h
  · rename_i hh
    rw [World.cell?_setCell_other]
    intro e; cases e; exact hh ⟨rfl, rfl⟩

/-- A cell of an object is written. -/
theorem WRel.store {g σ} {w : World} (h : WRel g σ w) {o ver : Nat} {cs : List AV} (e : σ o = .arr ver cs) (j : Nat) (hj : j < (g.L o).cap) (x : AV) (v : Value)
    (hx : VR g.pm g.L σ x v) :
    WRel g (upd σ o (.arr ver (cs.set j x))) (w.setCell ⟨(g.L o).b, (g.L o).off + j, none⟩ v) ∧ g.le σ g (upd σ o (.arr ver (cs.set j x))) := by
  have k := h.ob o ver cs e
  obtain ⟨u, hu, _⟩ := k.there j hj
  have hcell := fun b' o' => cell?_setCell_iff w (g.L o).b ((g.L o).off + j) v b' o' hu
  have hext : Ext g.pm g.L σ g.pm g.L (upd σ o (.arr ver (cs.set j x))) := ⟨fun _ _ _ e => e, fun i => by
    by_cases hi : i = o
    · subst hi; simp [e, ObExt]
    · simp [upd_ne _ _ hi]; exact ObExt.refl _ _⟩
  refine ⟨⟨fun b' o' v' e' => ?_, fun b' o' v' e' => ?_, fun b' o' v' e' => by rw [World.frozen?_setCell]; exact h.tmf _ _ _ e', h.disj, h.low.setCell (p := ⟨(g.L o).b, (g.L o).off + j, none⟩) k.low v, by simpa using h.B0, fun i ver' cs' e' => ?_, fun i i' v1 v2 c1 c2 e1 e2 hne => ?_⟩, ⟨hext, rfl, rfl, rfl⟩⟩
  · rw [hcell, if_neg]
    · exact h.pm _ _ _ e'
    · rintro ⟨rfl, rfl⟩; rw [k.pm j hj] at e'; cases e'
  · rw [hcell, if_neg]
    · exact h.tm _ _ _ e'
    · rintro ⟨rfl, rfl⟩; rw [k.tm j hj] at e'; cases e'
  · by_cases hi : i = o
    · subst hi
      simp at e'
      obtain ⟨rfl, rfl⟩ := e'
      refine ⟨k.low, by simpa using k.len, fun m hm => ?_, fun m hm => by rw [World.frozen?_setCell]; exact k.free m hm, k.pm, k.tm⟩
      rw [hcell]
      obtain ⟨u', hu', hr'⟩ := k.there m hm
      by_cases hmj : m = j
      · subst hmj
        refine ⟨v, by simp, fun hm' => ?_⟩
        simp
        exact hx.mono hext
      · refine ⟨u', by rw [if_neg (by omega)]; exact hu', fun hm' => ?_⟩
        simp at hm'
        rw [List.getElem_set_ne (by omega)]
        exact (hr' hm').mono hext
    · rw [upd_ne _ _ hi] at e'
      have k' := h.ob i ver' cs' e'
      refine ⟨k'.low, k'.len, fun m hm => ?_, fun m hm => by rw [World.frozen?_setCell]; exact k'.free m hm, k'.pm, k'.tm⟩
      obtain ⟨u', hu', hr'⟩ := k'.there m hm
      refine ⟨u', ?_, fun hm' => (hr' hm').mono hext⟩
      rw [hcell, if_neg]
      · exact hu'
      · rintro ⟨h1, h2⟩
        exact h.sep i o _ _ _ _ e' e hi h1 m j hm hj h2
  · have a1 : ∃ v c, σ i = .arr v c := by
      by_cases hi : i = o
      · exact ⟨_, _, hi ▸ e⟩
      · rw [upd_ne _ _ hi] at e1; exact ⟨_, _, e1⟩
    have a2 : ∃ v c, σ i' = .arr v c := by
      by_cases hi : i' = o
      · exact ⟨_, _, hi ▸ e⟩
      · rw [upd_ne _ _ hi] at e2; exact ⟨_, _, e2⟩
    obtain ⟨_, _, a1⟩ := a1
    obtain ⟨_, _, a2⟩ := a2
    exact h.sep i i' _ _ _ _ a1 a2 hne

/-- An object is let go: its cells are nobody's. -/
theorem WRel.drop {g σ} {w : World} (h : WRel g σ w) {o ver : Nat} {cs : List AV} (e : σ o = .arr ver cs) :
    WRel g (upd σ o (.dead ver)) w ∧ g.le σ g (upd σ o (.dead ver)) := by
  have hext : Ext g.pm g.L σ g.pm g.L (upd σ o (.dead ver)) := ⟨fun _ _ _ e => e, fun i => by
    by_cases hi : i = o
    · subst hi; simp [e, ObExt]
    · simp [upd_ne _ _ hi]; exact ObExt.refl _ _⟩
  refine ⟨⟨h.pm, h.tm, h.tmf, h.disj, h.low, h.B0, fun i ver' cs' e' => ?_, fun i i' v1 v2 c1 c2 e1 e2 hne => ?_⟩, ⟨hext, rfl, rfl, rfl⟩⟩
  · by_cases hi : i = o
    · subst hi; simp at e'
    · rw [upd_ne _ _ hi] at e'
      have k := h.ob i ver' cs' e'
      refine ⟨k.low, k.len, fun m hm => ?_, k.free, k.pm, k.tm⟩
      obtain ⟨u', hu', hr'⟩ := k.there m hm
      exact ⟨u', hu', fun hm' => (hr' hm').mono hext⟩
  · by_cases hi : i = o
    · subst hi; simp at e1
    · by_cases hi' : i' = o
      · subst hi'; simp at e2
      · rw [upd_ne _ _ hi] at e1; rw [upd_ne _ _ hi'] at e2; exact h.sep i i' _ _ _ _ e1 e2 hne
end Go.Ab
