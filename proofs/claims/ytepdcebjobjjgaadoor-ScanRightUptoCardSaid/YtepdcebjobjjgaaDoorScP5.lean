/- The first thing asked of scan.Assign. -/
import Derived.Test.YtepdcebjobjjgaaDoorGenF
set_option linter.unusedVariables false
set_option linter.unusedSimpArgs false
namespace Go.Proofs.YtepdcebjobjjgaaDoor
open Go Go.Ab
theorem a9v {g : b5} (hg : a1E g) (hp : a6n g) {w : List Nat} (hw1 : a1l g = w.map (fun (n : Nat) => (n : Int))) (hwl : w.length <= g.Nodes.length) {k a i : Nat} (hk : k < g.Kinds.length) (ha : w[a]? = some i) (ht : a7U g k i) : ∃ x ∈ y7 g, x.Place = (k : Int) /\ x.From <= a /\ (a : Int) <= x.To := by
 obtain ⟨x, hx, he⟩ := a7B hg hp hw1 hwl hk
 obtain ⟨h1, h2⟩ := he.all a i (.inl ⟨ha, (List.getElem?_eq_some_iff.1 ha).1, ht⟩)
 refine ⟨x, ?_, he.pl, h1, h2⟩
 unfold y7
 refine List.mem_filter.2 ⟨List.mem_of_getElem? hx, ?_⟩
 unfold a6E
 simp; omega
def gF : b5 := b5.mk [] ([0]) 0 [] false (-1) ([(g6.mk 1 0 0 0 0 0 0 0 0 [] 1 0), (g6.mk 17 0 0 0 0 0 0 0 0 [] 2 0), (g6.mk 12 0 0 0 (-1) 0 0 0 0 [] 0 0)]) 0
theorem b5r : a1h (f7.mk [gF]) = true := by kernel_rfl
theorem b9o : u9 = some true := by
 have hpos : b9K (f7.mk [gF]) = true := by kernel_rfl
 have hgf : o6 (f7.mk [gF]).Funcs 0 = some gF := rfl
 obtain ⟨h0, h1, h2⟩ := i8 hgf
 obtain ⟨hg, hhd, hnd⟩ := a3z b5r gF (List.mem_of_getElem? h2)
 obtain ⟨hK, hp4, hpar, hn1, hN, he0, heN⟩ := a0d hhd
 obtain ⟨w, hw1, hw2, hw3, _, _, r, hw6⟩ := (a9f hg (by omega : gF.Entry.toNat < gF.Nodes.length)).w
 have hwl := a4y _ _ hw2 hw3
 have ht : a7U gF 0 0 := by
  refine .inr ?_
  show (0 : Int) ∈ wrS (g6.mk 1 0 0 0 0 0 0 0 0 [] 1 0)
  rw [a9i]
  exact ⟨by simp [b0B], Int.le_refl _⟩
 obtain ⟨x, hx, hxp, _, _⟩ := a9v (k := 0) (a := 0) (i := 0) hg hpar hw1 hwl (show 0 < gF.Kinds.length by decide) (by rw [hw6]; rfl) ht
 obtain ⟨m, c, h, S, hmp, H, room⟩ := (a9u (a6L.1 hpos) b5r hgf).1
 have hol := H.ol
 have hkd : kd gF.Kinds x = 0 := by unfold kd; rw [hxp]; rfl
 have hall : ∀ y ∈ y7 gF, kd gF.Kinds y = 0 := fun y hy => by
  obtain ⟨k, hk, hkp, _⟩ := b1z hg hpar hw1 hwl hy
  have : k = 0 := by have : gF.Kinds.length = 1 := rfl; omega
  subst this
  unfold kd; rw [hkp]; rfl
 obtain ⟨_, r2⟩ := room (fun y hy h => by rw [hall y hy] at h; simp at h) (fun y hy => by
  have a1 : (b5o (y7 gF) y.From).length <= (y7 gF).length := List.length_filter_le _ _
  have a2 := a5Q gF
  have : gF.Kinds.length = 1 := rfl
  omega)
 have e : u9 = some true := by
  unfold u9 a1e
  rw [show f7.mk [b5.mk [] ([0]) 0 [] false (-1) ([(g6.mk 1 0 0 0 0 0 0 0 0 [] 1 0), (g6.mk 17 0 0 0 0 0 0 0 0 [] 2 0), (g6.mk 12 0 0 0 (-1) 0 0 0 0 [] 0 0)]) 0] = f7.mk [gF] from rfl, if_pos hpos]
  have e0 : b0A (f7.mk [gF]) 0 = 0 := by unfold b0A; rw [if_pos b5r]; rfl
  generalize b0E (f7.mk [gF]) 0 = O at H room r2 hol
  match O, hol with
  | [p], _ =>
    have hp : plc [p] x = p := by unfold plc; rw [hxp]; rfl
    have hp1 := r2 p zS
    have hp0 : 0 <= p := by
     rcases H.pl x (hmp.mem_iff.2 hx) with ⟨i, q, _⟩ | ⟨i, q, _⟩ <;> (rw [hp] at q; omega)
    simp [jp, e0, o6, hp0, show p < 12 by omega]
 exact e
end Go.Proofs.YtepdcebjobjjgaaDoor

