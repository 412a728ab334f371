/- Lists made of zeros that are nil slices; pointers that are known not to be nil. -/
import Derived.Test.YtiocagilhbomgaaWlF8
namespace Go.Ab
set_option linter.unusedVariables false
set_option linter.unusedSimpArgs false
open Go Go.RowKit

theorem RnL.app {R : Rn} {a a' b b' : List AV} (hl : a'.length = a.length) (h : RnL R 0 a a') (k : RnL R 0 b b') : RnL R 0 (a ++ b) (a' ++ b') := by
  refine ⟨by have := k.1; simp only [List.length_append]; omega, fun j h1 h2 => ?_⟩
  simp only [Nat.zero_add] at h1 ⊢
  by_cases hj : j < a.length
  · rw [List.getElem_append_left hj, List.getElem_append_left (by omega)]
    have := h.2 j (by omega) (by omega)
    simpa only [Nat.zero_add] using this
  · rw [List.getElem_append_right (by omega), List.getElem_append_right (by omega)]
    have h2' : j - a'.length < b'.length := by simp only [List.length_append] at h2; omega
    have h1' : j - a.length < b.length := by simp only [List.length_append] at h1; omega
    have := k.2 (j - a'.length) (by omega) h2'
    simp only [Nat.zero_add] at this
    simp only [hl] at this ⊢
    exact this
theorem RnL.aw {R : Rn} {a a' : List AV} (hb : blwL 0 a = true) (h : awL a a') : RnL R 0 a a' := by
  refine ⟨by rw [awL_len h]; omega, fun j h1 h2 => ?_⟩
  simp only [Nat.zero_add] at h1 ⊢
  exact .base (blwL_get hb j h1) (awL_get h j h1 h2)
section
variable {α : Type} {f f0 : α → AV} {esh : Option Nat}
theorem rnl_raw {R : Rn} (h0 : Enc f0 esh) {bytes : Nat} {n n' : Int} {x : α} {v : List α} (hv : mkL bytes n n' x = some v) (hw : awL (f0 x).cells (f x).cells) : RnL R 0 (flat f0 v) (flat f v) := by
  obtain ⟨_, rfl⟩ := mkL_some hv
  generalize n.toNat = m
  induction m with
  | zero => exact .nil (Nat.zero_le _)
  | succ m ih =>
    have e1 : flat f0 (List.replicate (m + 1) x) = (f0 x).cells ++ flat f0 (List.replicate m x) := by simp [flat, List.replicate_succ]
    have e2 : flat f (List.replicate (m + 1) x) = (f x).cells ++ flat f (List.replicate m x) := by simp [flat, List.replicate_succ]
    rw [e1, e2]
    exact .app (awL_len hw).symm (.aw (cells_below (h0.blw x 0)) hw) ih
theorem rn_refW (he : Enc f esh) {M : RMap} {S S' : List Ob} {o ver o' ver'} {l : List α} {cs} (h1 : rmAt M o' = some (o, 0)) (h2 : hp S o = .arr ver cs) (h3 : hp S' o' = .arr ver' (flat f l)) : RnV (wkR M S S') (.ref o ver 0 l.length esh) (.ref o' ver' 0 l.length esh) :=
  rn_ref h1 h2 h3 rfl (by rw [he.length]; omega)
variable {P : Program} {S0 : List Ob} {ow : List Nat} {fr : Fr} {S : List Ob} {log : List LE}
theorem E_mkLFw {d} {bytes : Nat} {z l c rs} {K : Fr → List Ob → List LE → Prop} {k k' n n'} {x : α} {v : List α} (h0 : Enc f0 esh) (he : Enc f esh) (how : ow.contains d = false) (e : ev (Fr.get fr) l = .int k n) (e1 : ev (Fr.get fr) c = .int k' n') (hz : (f0 x).cells = z) (hw : awL (f0 x).cells (f x).cells) (hv : mkL bytes n n' x = some v)
    (h : VTops P ow rs ((d, .sl false (szOf esh) (v.map f)) :: fr) S (.acc [] none :: log) K) : VTops P ow (⟨some d, none, .op (.mksl esh bytes z l c)⟩ :: rs) fr S log K := by
  obtain ⟨h1, rfl⟩ := mkL_some hv
  refine E_opw (v := .sl false (szOf esh) ((List.replicate n.toNat x).map f0)) (v' := .sl false (szOf esh) ((List.replicate n.toNat x).map f)) (rd := []) (δ := none) ?_ ?_ rfl h
  · simp only [opV, vMksl, e, e1]
    rw [if_pos h1]
    subst hz
    have hel := h0.elems (List.replicate n.toNat x)
    simp only [List.length_replicate] at hel
    have how' : ¬ d ∈ ow := by simpa using how
    simp [vNewSl, h0.repl, h0.all, h0.length, how', hel]
  · refine .sl id (by simp) (fun i a b => ?_) (fun i a b j q t => ?_)
    · simp [h0.sz, he.sz]
    · simp only [List.getElem_map, List.getElem_replicate] at q t ⊢
      exact awL_get hw j q t
theorem E_nck {d x rs} {K : Fr → List Ob → List LE → Prop} {o : Option α} {y : α} (e : ev (Fr.get fr) x = avP f o) (ho : o = some y) (h : VTops P ow rs ((d, .cptr (f y).cells 0) :: fr) S (.acc [] none :: log) K) : VTops P ow (⟨some d, none, .op (.nchk x)⟩ :: rs) fr S log K := by
  subst ho
  refine E_op0 (v := .cptr (f y).cells 0) ?_ rfl h
  simp only [opV, e]
  rfl
end
end Go.Ab
