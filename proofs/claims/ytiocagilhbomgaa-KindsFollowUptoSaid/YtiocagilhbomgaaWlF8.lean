/- A slice as an argument, by what it is: nil, empty, or not empty. -/
import Derived.Test.YtiocagilhbomgaaWlF7
import Derived.Test.YtiocagilhbomgaaWlE2
namespace Go.Ab
set_option linter.unusedVariables false
set_option linter.unusedSimpArgs false
open Go Go.RowKit

theorem PureEv_sl {P : Program} {f : FuncId} {sz : Nat} {xs : List AV} {r : AV} (h0 : xs = [] → PureEv P f [.nils] r) (h1 : xs = [] → PureEv P f [.snn sz] r) (h2 : xs ≠ [] → PureEv P f [.sl false sz xs] r) : PureEv P f [.sl false sz xs] r := by
  intro g w vals hw hv
  by_cases hx : xs = []
  · obtain ⟨v, rfl⟩ : ∃ v, vals = #[v] := by
      have := hv.1
      match vals, this with
      | ⟨[v]⟩, _ => exact ⟨v, rfl⟩
    have hr : VR g.pm g.L noHp (.sl false sz xs) v := hv.2 0 (by simp) (by simp)
    cases hr with
    | slnil => exact h0 rfl g w _ hw (VRs1 .nils)
    | slz => exact h1 rfl g w _ hw (VRs1 .snnz)
    | sl us hc he hz hp hq => subst hx; exact h1 rfl g w _ hw (VRs1 .snn)
  · exact h2 hx g w vals hw hv
theorem Ev_sl {P : Program} {f : FuncId} {sz : Nat} {xs : List AV} {r : AV} {σ σ' : Hp} (h0 : xs = [] → Ev P f [.nils] σ r σ') (h1 : xs = [] → Ev P f [.snn sz] σ r σ') (h2 : xs ≠ [] → Ev P f [.sl false sz xs] σ r σ') : Ev P f [.sl false sz xs] σ r σ' := by
  intro g w vals hw hv
  by_cases hx : xs = []
  · obtain ⟨v, rfl⟩ : ∃ v, vals = #[v] := by
      have := hv.1
      match vals, this with
      | ⟨[v]⟩, _ => exact ⟨v, rfl⟩
    have hr : VR g.pm g.L σ (.sl false sz xs) v := hv.2 0 (by simp) (by simp)
    cases hr with
    | slnil => exact h0 rfl g w _ hw (VRs1 .nils)
    | slz => exact h1 rfl g w _ hw (VRs1 .snnz)
    | sl us hc he hz hp hq => subst hx; exact h1 rfl g w _ hw (VRs1 .snn)
  · exact h2 hx g w vals hw hv
section
variable {P : Program} {S0 : List Ob} {ow : List Nat} {fr : Fr} {S : List Ob}
/-- Ways come together, and what is there is frozen. -/
theorem E_jpw {σ β : Type} {a b} {K : Post} {k : σ → Option β} {f : (σ → Option β) → Option β} {r : β} (h : jp k f = some r) (F : σ → Fr) (T : σ → List Ob) (F' : σ → Fr) (T' : σ → List Ob) (hw : ∀ s, Wk S0 (F s) (T s) (F' s) (T' s))
    (h1 : ∀ k', f k' = some r → VT P S0 ow a fr S (Post.thn (fun fr' S' => ∃ s, k' s = some r ∧ Wk S0 fr' S' (F s) (T s)) K)) (h2 : ∀ s, k s = some r → VT P S0 ow b (F' s) (T' s) K) : VT P S0 ow (.seq a b) fr S K :=
  E_sq (VT_mono (thn_mono (fun _ _ ⟨s, hs, hw1⟩ => ⟨F' s, T' s, wk_trans hw1 (hw s), h2 s hs⟩) (fun _ _ _ h => h)) (h1 k h))
end
end Go.Ab
