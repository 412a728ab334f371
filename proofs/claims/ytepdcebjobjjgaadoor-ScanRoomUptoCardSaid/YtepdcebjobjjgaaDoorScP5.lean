/- The first thing asked of scan.Assign. -/
import Derived.Test.YtepdcebjobjjgaaDoorGenF
set_option linter.unusedVariables false
set_option linter.unusedSimpArgs false
namespace Go.Proofs.YtepdcebjobjjgaaDoor
open Go Go.Ab
theorem a9j {g : b5} (hg : a1y g) (hp : a8O g) {w : List Nat} (hw1 : a1f g = w.map (fun (n : Nat) => (n : Int))) (hwl : w.length ≤ g.Nodes.length) {k a i : Nat} (hk : k < g.Kinds.length) (ha : w[a]? = some i) (ht : a7E g k i) : ∃ x ∈ y4 g, x.Place = (k : Int) ∧ x.From ≤ a ∧ (a : Int) ≤ x.To := by
 obtain ⟨x, hx, he⟩ := a7o hg hp hw1 hwl hk
 obtain ⟨h1, h2⟩ := he.all a i (.inl ⟨ha, (List.getElem?_eq_some_iff.1 ha).1, ht⟩)
 refine ⟨x, ?_, he.pl, h1, h2⟩
 unfold y4
 refine List.mem_filter.2 ⟨List.mem_of_getElem? hx, ?_⟩
 unfold a6t
 simp; omega
def gF : b5 := b5.mk [] ([0]) 0 [] false (-1) ([(i7.mk 1 0 0 0 0 0 0 0 0 [] 1 0), (i7.mk 17 0 0 0 0 0 0 0 0 [] 2 0), (i7.mk 12 0 0 0 (-1) 0 0 0 0 [] 0 0)]) 0
theorem b4X : a1m (g5.mk [gF]) = true := by kernel_rfl
theorem b8L : v6 = some true := by
 have hpos : b9g (g5.mk [gF]) = true := by kernel_rfl
 have hgf : u6 (g5.mk [gF]).Funcs 0 = some gF := rfl
 obtain ⟨h0, h1, h2⟩ := j4 hgf
 obtain ⟨hg, hhd, hnd⟩ := a3o b4X gF (List.mem_of_getElem? h2)
 obtain ⟨hK, hp4, hpar, hn1, hN, he0, heN⟩ := a0K hhd
 obtain ⟨w, hw1, hw2, hw3, _, _, r, hw6⟩ := (a8S hg (by omega : gF.Entry.toNat < gF.Nodes.length)).w
 have hwl := a4l _ _ hw2 hw3
 have ht : a7E gF 0 0 := by
  refine .inr ?_
  show (0 : Int) ∈ wrS (i7.mk 1 0 0 0 0 0 0 0 0 [] 1 0)
  rw [a8V]
  exact ⟨by simp [b0o], Int.le_refl _⟩
 obtain ⟨x, hx, hxp, _, _⟩ := a9j (k := 0) (a := 0) (i := 0) hg hpar hw1 hwl (show 0 < gF.Kinds.length by decide) (by rw [hw6]; rfl) ht
 obtain ⟨m, c, h, S, hmp, H, room⟩ := (a9i (a6z.1 hpos) b4X hgf).1
 have hol := H.ol
 have hkd : kd gF.Kinds x = 0 := by unfold kd; rw [hxp]; rfl
 have hall : ∀ y ∈ y4 gF, kd gF.Kinds y = 0 := fun y hy => by
  obtain ⟨k, hk, hkp, _⟩ := b1i hg hpar hw1 hwl hy
  have : k = 0 := by have : gF.Kinds.length = 1 := rfl; omega
  subst this
  unfold kd; rw [hkp]; rfl
 obtain ⟨_, r2⟩ := room (fun y hy h => by rw [hall y hy] at h; simp at h) (fun y hy => by
  have a1 : (b2L (y4 gF) y.From).length ≤ (y4 gF).length := List.length_filter_le _ _
  have a2 := a5G gF
  have : gF.Kinds.length = 1 := rfl
  omega)
 have e : v6 = some true := by
  unfold v6 a0Z
  rw [show g5.mk [b5.mk [] ([0]) 0 [] false (-1) ([(i7.mk 1 0 0 0 0 0 0 0 0 [] 1 0), (i7.mk 17 0 0 0 0 0 0 0 0 [] 2 0), (i7.mk 12 0 0 0 (-1) 0 0 0 0 [] 0 0)]) 0] = g5.mk [gF] from rfl, if_pos hpos]
  have e0 : b0n (g5.mk [gF]) 0 = 0 := by unfold b0n; rw [if_pos b4X]; rfl
  generalize b0r (g5.mk [gF]) 0 = O at H room r2 hol
  match O, hol with
  | [p], _ =>
    have hp : plc [p] x = p := by unfold plc; rw [hxp]; rfl
    have hp1 := r2 p zS
    have hp0 : 0 ≤ p := by
     rcases H.pl x (hmp.mem_iff.2 hx) with ⟨i, q, _⟩ | ⟨i, q, _⟩ <;> (rw [hp] at q; omega)
    simp [jp, e0, u6, hp0, show p < 12 by omega]
 exact e
end Go.Proofs.YtepdcebjobjjgaaDoor

