/- What a Go function does to abstract values: Ev; and that a call that was given no object touches none. -/
import Derived.Test.YtiocagilhbomgaaWlB2
namespace Go.Ab
open Go.RowKit
set_option linter.unusedVariables false
set_option linter.unusedSimpArgs false

mutual
/-- No object is named from number n on. -/
def AV.blw (n : Nat) : AV → Bool
  | .ptr o _ _ => decide (o < n)
  | .ref o _ _ _ _ => decide (o < n)
  | .mp o _ => decide (o < n)
  | .cptr cs _ => blwL n cs
  | .sl _ _ xs => blwL n xs
  | .agg cs => blwL n cs
  | .tup vs => blwL n vs
  | .fn _ a b => blwL n a && blwL n b
  | .iface _ v => v.blw n
  | _ => true
def blwL (n : Nat) : List AV → Bool
  | [] => true
  | x :: r => x.blw n && blwL n r
end

theorem blwL_get {n : Nat} : ∀ {xs : List AV}, blwL n xs = true → ∀ j (h : j < xs.length), (xs[j]).blw n = true
  | [], _, j, h => by simp at h
  | x :: r, h, 0, _ => by simp only [blwL, Bool.and_eq_true] at h; exact h.1
  | x :: r, h, j + 1, hj => by simp only [blwL, Bool.and_eq_true] at h; exact blwL_get h.2 j (by simpa using hj)

theorem blwL_iff {n : Nat} : ∀ {xs : List AV}, blwL n xs = true ↔ ∀ x ∈ xs, x.blw n = true
  | [] => by simp [blwL]
  | x :: r => by simp [blwL, blwL_iff (xs := r)]

theorem cells_below {n : Nat} {x : AV} (h : x.blw n = true) : blwL n x.cells = true := by
  cases x <;> first | exact h | (simp only [AV.cells, blwL, Bool.and_true]; exact h)

theorem VR.agree {pm L σ L' σ' n} {x : AV} {v : Value} (h : VR pm L σ x v) (hb : x.blw n = true) (hs : ∀ o, o < n → σ' o = σ o ∧ L' o = L o) : VR pm L' σ' x v := by
  induction h with
  | int => exact .int
  | bool => exact .bool
  | str => exact .str
  | nilp => exact .nilp
  | ptr h =>
    simp only [AV.blw, decide_eq_true_eq] at hb
    obtain ⟨e1, e2⟩ := hs _ hb
    exact .ptr (by unfold PtrOK at *; rw [e1, e2]; exact h)
  | cptr us hp hv ih =>
    simp only [AV.blw] at hb
    exact .cptr us hp (fun j hj => ih j hj (blwL_get hb j hj))
  | nils => exact .nils
  | snn => exact .snn
  | snnz => exact .snnz
  | slnil => exact .slnil
  | slz => exact .slz
  | sl us hc he hz hp hv ih =>
    simp only [AV.blw] at hb
    exact .sl us hc he hz hp (fun i hi j hj => ih i hi j hj (blwL_get (cells_below (blwL_get hb i hi)) j hj))
  | refnil h =>
    simp only [AV.blw, decide_eq_true_eq] at hb
    obtain ⟨e1, e2⟩ := hs _ hb
    exact .refnil (by unfold VerOK at *; rw [e1]; exact h)
  | ref hn hsp h =>
    simp only [AV.blw, decide_eq_true_eq] at hb
    obtain ⟨e1, e2⟩ := hs _ hb
    exact .ref hn hsp (by unfold RefOK at *; rw [e1, e2]; exact h)
  | agg hl hv ih => simp only [AV.blw] at hb; exact .agg hl (fun j a b => ih j a b (blwL_get hb j a))
  | tup hl hv ih => simp only [AV.blw] at hb; exact .tup hl (fun j a b => ih j a b (blwL_get hb j a))
  | nilf => exact .nilf
  | fn hlf hlc hvf hvc ihf ihc =>
    simp only [AV.blw, Bool.and_eq_true] at hb
    exact .fn hlf hlc (fun j a b => ihf j a b (blwL_get hb.1 j a)) (fun j a b => ihc j a b (blwL_get hb.2 j a))
  | nili => exact .nili
  | iface h ih => simp only [AV.blw] at hb; exact .iface (ih hb)
  | nilm => exact .nilm
  | junk => exact .junk

def VRs (g : Gh) (σ : Hp) (args : List AV) (vals : Array Value) : Prop :=
  vals.size = args.length ∧ ∀ j (h : j < args.length) (h' : j < vals.size), VR g.pm g.L σ (args[j]) (vals[j])

/-- The call of f with these arguments returns r and leaves the heap as σ'. -/
def Ev (P : Program) (f : FuncId) (args : List AV) (σ : Hp) (r : AV) (σ' : Hp) : Prop :=
  ∀ (g : Gh) (w : World) (vals : Array Value), WRel g σ w → VRs g σ args vals →
    Calls P f vals w fun e w' => ∃ u g', e = .returned u ∧ g.le σ g' σ' ∧ WRel g' σ' w' ∧ VR g'.pm g'.L σ' r u

abbrev noHp : Hp := fun _ => .virgin

def PureEv (P : Program) (f : FuncId) (args : List AV) (r : AV) : Prop := Ev P f args noHp r noHp

theorem PureEv.frame {P f args r} (h : PureEv P f args r) (hb : blwL 0 args = true) (hr : r.blw 0 = true) (σ : Hp) : Ev P f args σ r σ := by
  intro g w vals hw hv
  classical
  let owned : Nat → Nat → Prop := fun b o => ∃ i ver cs, σ i = .arr ver cs ∧ (g.L i).b = b ∧ ∃ j, j < (g.L i).cap ∧ (g.L i).off + j = o
  let gE : Gh := { g with tm := fun b o => if owned b o then w.cell? ⟨b, o, none⟩ else g.tm b o }
  have hwE : WRel gE noHp w := by
    refine ⟨hw.pm, fun b o v e => ?_, fun b o v e => ?_, fun b o v e => ?_, hw.low, hw.B0, fun o ver cs e => by simp [noHp] at e, fun o o' v v' c c' e => by simp [noHp] at e⟩
    · by_cases ho : owned b o
      · simpa [gE, ho] using e
      · exact hw.tm _ _ _ (by simpa [gE, ho] using e)
    · by_cases ho : owned b o
      · obtain ⟨i, ver, cs, e1, rfl, j, hj, rfl⟩ := ho
        exact (hw.ob i ver cs e1).free j hj
      · exact hw.tmf _ _ _ (by simpa [gE, ho] using e)
    · have ho : ¬ owned b o := by
        rintro ⟨i, ver, cs, e1, rfl, j, hj, rfl⟩
        have := (hw.ob i ver cs e1).pm j hj
        rw [show gE.pm = g.pm from rfl] at e
        rw [this] at e; cases e
      simpa [gE, ho] using hw.disj b o v e
  refine (h gE w vals hwE ⟨hv.1, fun j a b => (hv.2 j a b).agree (blwL_get hb j a) (fun o ho => by omega)⟩).mono ?_
  rintro e w' ⟨u, g', rfl, hle, hw', hu⟩
  have hpm : ∀ b o v, g.pm b o = some v → g'.pm b o = some v := hle.ext.pm
  let g2 : Gh := { g with pm := g'.pm }
  have hext : Ext g.pm g.L σ g2.pm g2.L σ := ⟨hpm, fun _ => ObExt.refl _ _⟩
  have htm : ∀ b o, g'.tm b o = gE.tm b o := fun b o => by rw [hle.tm]
  refine ⟨u, g2, rfl, ⟨hext, rfl, rfl, rfl⟩, ⟨hw'.pm, fun b o v e => ?_, fun b o v e => ?_, fun b o v e => ?_, ?_, ?_, fun i ver cs e => ?_, hw.sep⟩, hu.agree hr (fun o ho => by omega)⟩
  · have ho : ¬ owned b o := by
      rintro ⟨i, ver, cs, e1, rfl, j, hj, rfl⟩
      have := (hw.ob i ver cs e1).tm j hj
      rw [show g2.tm = g.tm from rfl, this] at e; cases e
    exact hw'.tm b o v (by rw [htm]; simpa [gE, ho] using e)
  · have ho : ¬ owned b o := by
      rintro ⟨i, ver, cs, e1, rfl, j, hj, rfl⟩
      have := (hw.ob i ver cs e1).tm j hj
      rw [show g2.tm = g.tm from rfl, this] at e; cases e
    exact hw'.tmf b o v (by rw [htm]; simpa [gE, ho] using e)
  · have hd := hw'.disj b o v e
    rw [htm] at hd
    by_cases ho : owned b o
    · obtain ⟨i, ver, cs, e1, rfl, j, hj, rfl⟩ := ho
      exact (hw.ob i ver cs e1).tm j hj
    · simpa [gE, ho] using hd
  · have := hw'.low
    rw [hle.B0, hle.w0] at this
    exact this
  · have := hw'.B0
    rw [hle.B0] at this
    exact this
  · have k := hw.ob i ver cs e
    have hE : ∀ j, j < (g.L i).cap → gE.tm (g.L i).b ((g.L i).off + j) = w.cell? ⟨(g.L i).b, (g.L i).off + j, none⟩ := fun j hj => if_pos ⟨i, ver, cs, e, rfl, j, hj, rfl⟩
    have hown : ∀ j, j < (g.L i).cap → owned (g.L i).b ((g.L i).off + j) := fun j hj => ⟨i, ver, cs, e, rfl, j, hj, rfl⟩
    refine ⟨k.low, k.len, fun j hj => ?_, fun j hj => ?_, fun j hj => ?_, k.tm⟩
    · obtain ⟨v, hv, hr⟩ := k.there j hj
      refine ⟨v, hw'.tm _ _ v (by rw [htm]; exact (hE j hj).trans hv), fun hj' => (hr hj').mono hext⟩
    · obtain ⟨v, hv, hr⟩ := k.there j hj
      exact hw'.tmf _ _ v (by rw [htm]; exact (hE j hj).trans hv)
    · show g'.pm (g.L i).b ((g.L i).off + j) = none
      cases hq : g'.pm (g.L i).b ((g.L i).off + j) with
      | none => rfl
      | some v =>
        have := hw'.disj _ _ _ hq
        obtain ⟨v', hv', _⟩ := k.there j hj
        rw [htm, hE j hj, hv'] at this
        cases this

theorem Ev.mono {P f args σ r σ' r' } (h : Ev P f args σ r σ') (hr : ∀ pm L u, VR pm L σ' r u → VR pm L σ' r' u) : Ev P f args σ r' σ' := by
  intro g w vals hw hv
  refine (h g w vals hw hv).mono ?_
  rintro e w' ⟨u, g', e1, e2, e3, e4⟩
  exact ⟨u, g', e1, e2, e3, hr _ _ _ e4⟩
end Go.Ab
