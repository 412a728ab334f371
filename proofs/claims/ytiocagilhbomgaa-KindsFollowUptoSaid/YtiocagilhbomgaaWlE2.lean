/- From a law's evaluation to what the statement asks. -/
import Derived.Test.YtiocagilhbomgaaWlE1
import Derived.RowKit
import Derived.ProofKit
import Derived.OpenShut
import Derived.JoinedCond
namespace Go.Ab
open Go.RowKit
set_option linter.unusedVariables false
set_option linter.unusedSimpArgs false
variable {H : Type} {enc : TypeId × Value → H} {P : Program} {W : World} {bk : DataW H → Nat} {N : Nat}

def g00 (W : World) : Gh := { pm := fun b o => W.cell? ⟨b, o, none⟩, tm := fun _ _ => none, L := fun _ => ⟨0, 0, 0⟩, B0 := W.heap.size, w0 := W }

theorem g00_rel (W : World) : WRel (g00 W) noHp W :=
  ⟨fun _ _ _ e => e, fun _ _ _ e => (by cases e), fun _ _ _ e => (by cases e), fun _ _ _ _ => rfl, Below.refl _ _, Nat.le_refl _, fun _ _ _ e => (by cases e), fun _ _ _ _ _ _ e => (by cases e)⟩

/-- What is handed to a law. -/
def Arg (P : Program) (N : Nat) (t : TypeId) (x : AV) : Prop :=
  Ty P N t x.cells ∧ (((∃ fs, P.underlying t = some (.struct fs)) ∧ ∃ cs, x = .agg cs) ∨ ((∀ fs, P.underlying t ≠ some (.struct fs)) ∧ x.cells = [x]))

theorem arg_av (hb : Bulk bk) {m : Nat} {r : Reach} {b0 : Nat} {t : TypeId} {v : Value} {d : DataW H} {ps : List MemPlace} (hval : Value.okWide P W r b0 t v) (h : DataW.Trod enc P W 0 (fun _ => true) true t v d ps)
    (hp : plainT P m t = true) (hc : coversT P m t = true) (hbk : bk d ≤ N) : ∃ x, Arg P N t x ∧ VR (g00 W).pm (g00 W).L noHp x v := by
  obtain ⟨fuel, h⟩ := h
  obtain ⟨avs, h1, h2, h3⟩ := trod_Ty (pm := (g00 W).pm) (L := (g00 W).L) (σ := noHp) hb (fun b o v e => e) m fuel t _ d ps h hp hc hbk
  by_cases hs : ∃ fs, P.underlying t = some (.struct fs)
  · obtain ⟨fs, ht⟩ := id hs
    unfold Value.okWide at hval
    rw [ht] at hval
    obtain ⟨cs, rfl, _, _⟩ := hval
    refine ⟨.agg avs, ⟨h1, .inl ⟨hs, avs, rfl⟩⟩, .agg (by simpa [Value.cells] using h2.symm) (fun j a b => ?_)⟩
    have := h3 j a (by simpa [Value.cells] using b)
    simpa [Value.cells] using this
  · have hn : ∀ fs, P.underlying t ≠ some (.struct fs) := fun fs e => hs ⟨fs, e⟩
    obtain ⟨x, rfl, hx⟩ := h1.one hn
    have hv : v.cells.toList = [v] := by
      cases v <;> try rfl
      rename_i cs
      exfalso
      cases m with
      | zero => simp [plainT] at hp
      | succ m =>
        simp only [plainT] at hp
        unfold Value.okWide Cell.okWide Cell.ok at hval
        split at hp <;> rename_i ht <;> first | (rw [ht] at hval; simp at hval; done) | (exact hn _ ht) | (cases hp; done)
    refine ⟨x, ⟨by rw [hx]; exact h1, .inr ⟨hn, hx⟩⟩, ?_⟩
    have hl : 0 < v.cells.toList.length := by rw [hv]; simp
    have := h3 0 (by simp) hl
    simpa [hv] using this

theorem law_calls {f : FuncId} {args : List AV} {r : AV} (h : PureEv P f args r) {vals : Array Value} (hv : VRs (g00 W) noHp args vals) :
    Calls P f vals W fun e W' => (∃ u pm L, e = .returned u ∧ VR pm L noHp r u) ∧ Below W.heap.size W W' := by
  refine (h (g00 W) W vals (g00_rel W) hv).mono ?_
  rintro e w' ⟨u, g', rfl, a, b, c⟩
  refine ⟨⟨u, _, _, rfl, c⟩, ?_⟩
  have := b.low
  rw [a.B0, a.w0] at this
  exact this

theorem law_true {f : FuncId} {args : List AV} (h : PureEv P f args (.bool true)) {vals : Array Value} (hv : VRs (g00 W) noHp args vals) :
    Calls P f vals W fun e W' => e = .returned (.bool true) ∧ Below W.heap.size W W' := by
  refine (law_calls h hv).mono ?_
  rintro e w' ⟨⟨u, pm, L, rfl, c⟩, hb⟩
  cases c
  exact ⟨rfl, hb⟩

theorem VRs1 {g : Gh} {σ : Hp} {x : AV} {v : Value} (h : VR g.pm g.L σ x v) : VRs g σ [x] #[v] := ⟨rfl, fun j a b => by
  have : j = 0 := by simpa using a
  subst this; exact h⟩
theorem VRs2 {g : Gh} {σ : Hp} {x y : AV} {v u : Value} (h : VR g.pm g.L σ x v) (h' : VR g.pm g.L σ y u) : VRs g σ [x, y] #[v, u] := ⟨rfl, fun j a b => by
  match j, a with
  | 0, _ => exact h
  | 1, _ => exact h'⟩
theorem VRs3 {g : Gh} {σ : Hp} {x y z : AV} {v u w : Value} (h : VR g.pm g.L σ x v) (h' : VR g.pm g.L σ y u) (h2 : VR g.pm g.L σ z w) : VRs g σ [x, y, z] #[v, u, w] := ⟨rfl, fun j a b => by
  match j, a with
  | 0, _ => exact h
  | 1, _ => exact h'
  | 2, _ => exact h2⟩

/-- 'post', where the law returned true and below the old heap nothing has turned. -/
theorem post_true {f : Func} {s : ChangeSpec} {W' : World} {args : Array Value} {ds gs : List (DataW H)} {before pa : List MemPlace} {fresh handsOn : Bool}
    (hW : DataW.Whole enc P f.params.toList s.vars false W args.toList ds gs before) (hvars : s.vars = []) (hgs : gs = [])
    (hres : (s.fn H (ds ++ gs)).results = [.lit (.bool true)]) (hargs : (s.fn H (ds ++ gs)).args = ds) (hvs : (s.fn H (ds ++ gs)).vars = [])
    {tb : TypeId} (htb : f.resultTypes = #[tb]) (hub : P.underlying tb = some .bool) (hb : Below W.heap.size W W') 
    (hk : DataW.TrodAll enc P W' 0 (fun b => decide (b < W.heap.size)) true f.params.toList args.toList ds pa) :
    s.post enc P f false fresh handsOn false W args (.bool true) W' := by
  refine ⟨ds, gs, before, [], pa, [], hW, ?_, ?_, ?_, hb.frame _, fun h => by cases h⟩
  · rw [hres, htb]
    exact ⟨[], [], ⟨1, by unfold DataW.trod; rw [hub]; rfl⟩, rfl, rfl⟩
  · rw [hargs]; exact hk
  · rw [hvs, hvars]; rfl
end Go.Ab
