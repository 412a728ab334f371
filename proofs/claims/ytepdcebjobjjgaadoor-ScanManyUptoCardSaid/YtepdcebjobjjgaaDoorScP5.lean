/- The first thing asked of scan.Assign. -/
import Derived.Test.YtepdcebjobjjgaaDoorGenF
set_option linter.unusedVariables false
set_option linter.unusedSimpArgs false
namespace Go.Proofs.YtepdcebjobjjgaaDoor
open Go Go.Ab
theorem a4r {g : b5} (hg : a2s g) (hp : a7O g) {w : List Nat} (hw1 : a0J g = w.map (fun (n : Nat) => (n : Int))) (hwl : w.length ≤ g.Nodes.length) {k a i : Nat} (hk : k < g.Kinds.length) (ha : w[a]? = some i) (ht : a7X g k i) : ∃ x ∈ x9 g, x.Place = (k : Int) ∧ x.From ≤ a ∧ (a : Int) ≤ x.To := by
 obtain ⟨x, hx, he⟩ := a7Y hg hp hw1 hwl hk
 obtain ⟨h1, h2⟩ := he.all a i (.inl ⟨ha, (List.getElem?_eq_some_iff.1 ha).1, ht⟩)
 refine ⟨x, ?_, he.pl, h1, h2⟩
 unfold x9
 refine List.mem_filter.2 ⟨List.mem_of_getElem? hx, ?_⟩
 unfold a8i
 simp; omega
def gF : b5 := b5.mk [] ([0]) 0 [] false (-1) ([(f7.mk 1 0 0 0 0 0 0 0 0 [] 1 0), (f7.mk 17 0 0 0 0 0 0 0 0 [] 2 0), (f7.mk 12 0 0 0 (-1) 0 0 0 0 [] 0 0)]) 0
theorem b3O : RightB (f6.mk [gF]) = true := by kernel_rfl
theorem b7Q : s6 = some true := by
 have hpos : b7P (f6.mk [gF]) = true := by kernel_rfl
 have hgf : y5 (f6.mk [gF]).Funcs 0 = some gF := rfl
 obtain ⟨h0, h1, h2⟩ := i6 hgf
 obtain ⟨hg, hhd, hnd⟩ := a2I b3O gF (List.mem_of_getElem? h2)
 obtain ⟨hK, hp4, hpar, hn1, hN, he0, heN⟩ := a0n hhd
 obtain ⟨w, hw1, hw2, hw3, _, _, r, hw6⟩ := (a9T hg (by omega : gF.Entry.toNat < gF.Nodes.length)).w
 have hwl := a4o _ _ hw2 hw3
 have ht : a7X gF 0 0 := by
  refine .inr ?_
  show (0 : Int) ∈ wrS (f7.mk 1 0 0 0 0 0 0 0 0 [] 1 0)
  rw [a7T]
  exact ⟨by simp [b1B], Int.le_refl _⟩
 obtain ⟨x, hx, hxp, _, _⟩ := a4r (k := 0) (a := 0) (i := 0) hg hpar hw1 hwl (show 0 < gF.Kinds.length by decide) (by rw [hw6]; rfl) ht
 obtain ⟨m, c, h, S, hmp, H, room⟩ := (a8e (a8f.1 hpos) b3O hgf).1
 have hol := H.ol
 have hkd : kd gF.Kinds x = 0 := by unfold kd; rw [hxp]; rfl
 have hall : ∀ y ∈ x9 gF, kd gF.Kinds y = 0 := fun y hy => by
  obtain ⟨k, hk, hkp, _⟩ := b0a hg hpar hw1 hwl hy
  have : k = 0 := by have : gF.Kinds.length = 1 := rfl; omega
  subst this
  unfold kd; rw [hkp]; rfl
 obtain ⟨_, r2⟩ := room (fun y hy h => by rw [hall y hy] at h; simp at h) (fun y hy => by
  have a1 : (b1E (x9 gF) y.From).length ≤ (x9 gF).length := List.length_filter_le _ _
  have a2 := a4Q gF
  have : gF.Kinds.length = 1 := rfl
  omega)
 have e : s6 = some true := by
  unfold s6 z8
  rw [show f6.mk [b5.mk [] ([0]) 0 [] false (-1) ([(f7.mk 1 0 0 0 0 0 0 0 0 [] 1 0), (f7.mk 17 0 0 0 0 0 0 0 0 [] 2 0), (f7.mk 12 0 0 0 (-1) 0 0 0 0 [] 0 0)]) 0] = f6.mk [gF] from rfl, if_pos hpos]
  have e0 : b1y (f6.mk [gF]) 0 = 0 := by unfold b1y; rw [if_pos b3O]; rfl
  generalize a7j (f6.mk [gF]) 0 = O at H room r2 hol
  match O, hol with
  | [p], _ =>
    have hp : plc [p] x = p := by unfold plc; rw [hxp]; rfl
    have hp1 := r2 p zS
    have hp0 : 0 ≤ p := by
     rcases H.pl x (hmp.mem_iff.2 hx) with ⟨i, q, _⟩ | ⟨i, q, _⟩ <;> (rw [hp] at q; omega)
    simp [jp, e0, y5, hp0, show p < 12 by omega]
 exact e
end Go.Proofs.YtepdcebjobjjgaaDoor

