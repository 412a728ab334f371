/- Slices of slices and strings, indices into strings, fields, tuples, lengths, interfaces, functions. -/
import Derived.Test.YtiocagilhbomgaaWlA4
namespace Go.Ab
open Go.RowKit
set_option linter.unusedVariables false
set_option linter.unusedSimpArgs false

def loN : Option AV → Option Nat
  | none => some 0
  | some (.int _ i) => if 0 ≤ i then some i.toNat else none
  | some _ => none
def hiN (len : Nat) : Option AV → Option Nat
  | none => some len
  | some (.int _ i) => if 0 ≤ i then some i.toNat else none
  | some _ => none

inductive OVR (g : Gh) (σ : Hp) : Option AV → Option Value → Prop
  | none : OVR g σ none none
  | some {x u} (h : VR g.pm g.L σ x u) : OVR g σ (some x) (some u)

theorem run_bounds {P : Program} {g σ} {lo hi : Option AV} {lo' hi' : Option Value} {l h len cap : Nat} (isS : Bool) (hlo : OVR g σ lo lo') (hhi : OVR g σ hi hi')
    (el : loN lo = some l) (eh : hiN len hi = some h) (h1 : l ≤ h) (h2 : h ≤ len) (h3 : len ≤ cap) (w : World) :
    (Instr.sliceBounds isS len cap lo' hi' none).run P w = .ok (l, h, cap) w := by
  cases hhi with
  | none =>
    simp only [hiN, Option.some.injEq] at eh
    subst eh
    cases hlo with
    | none =>
      simp only [loN, Option.some.injEq] at el
      subst el
      simp [Instr.sliceBounds]
    | some hx =>
      cases hx <;> simp [loN] at el
      rename_i k n
      obtain ⟨e1, rfl⟩ := el
      simp [Instr.sliceBounds, run_sliceBound w k n len .sliceB e1 (by omega)]
  | some hy =>
    cases hy <;> simp [hiN] at eh
    rename_i k m
    obtain ⟨e2, rfl⟩ := eh
    cases hlo with
    | none =>
      simp only [loN, Option.some.injEq] at el
      subst el
      cases isS <;> simp [Instr.sliceBounds, run_sliceBound w k m cap _ e2 (by omega)]
    | some hx =>
      cases hx <;> simp [loN] at el
      rename_i k' n
      obtain ⟨e1, rfl⟩ := el
      cases isS <;> simp [Instr.sliceBounds, run_sliceBound w k m cap _ e2 (by omega), run_sliceBound w k' n m.toNat .sliceB e1 (by omega)]

def StSlc (esh : Option Nat) (x : AV) (lo hi mx : Option AV) (v : AV) : Prop :=
  match mx with
  | none =>
    match x with
    | .nils => ∃ l h, loN lo = some l ∧ hiN 0 hi = some h ∧ l ≤ h ∧ h ≤ 0 ∧ v = .nils
    | .sl _ sz xs => sz = szOf esh ∧ ∃ l h, loN lo = some l ∧ hiN xs.length hi = some h ∧ l ≤ h ∧ h ≤ xs.length ∧ v = .sl false sz ((xs.take h).drop l)
    | .ref o ver off n e => e = esh ∧ ∃ l h, loN lo = some l ∧ hiN n hi = some h ∧ l ≤ h ∧ h ≤ n ∧ (((l = 0 ∨ l < h) ∧ v = .ref o ver (off + l * szOf esh) (h - l) e) ∨ (l = h ∧ v = .sl false (szOf esh) []))
    | _ => False
  | some (.int _ m) => m = 0 ∧ loN lo = some 0 ∧ (∃ k, hi = some (.int k 0)) ∧
    match x with
    | .nils => v = .nils
    | .sl _ _ _ | .ref _ _ _ _ _ => v = .sl true (szOf esh) []
    | _ => False
  | some _ => False

theorem sl_empty {pm L σ} {ex : Bool} {sz : Nat} {a : Option Addr} {cap : Nat} (hs : ∀ b, a = some b → b.spot = none) (hcap : ex = true ∨ a = none → cap = 0) : VR pm L σ (.sl ex sz []) (.slice a 0 cap) := by
  cases a with
  | none =>
    have := hcap (.inr rfl)
    subst this
    exact .slnil
  | some b =>
    obtain ⟨b, o, s⟩ := b
    have := hs _ rfl
    simp at this
    subst this
    exact VR.sl (xs := []) (b := b) (o := o) (fun _ _ => undef) (by simp) (by intro h; have := hcap (.inl h); simpa using this) (by simp) (by simp) (by simp)

theorem sound_slc {P g σ w t elem esh x ux lo hi mx lo' hi' mx' v} (hw : WRel g σ w) (he : eshOf P elem = some esh) (ht : P.underlying t = some (.slice elem))
    (hx : VR g.pm g.L σ x ux) (hlo : OVR g σ lo lo') (hhi : OVR g σ hi hi') (hmx : OVR g σ mx mx') (h : StSlc esh x lo hi mx v) :
    Goes P g σ w (do pure (.value (← Instr.sliceAt t ux lo' hi' mx'))) v none := by
  obtain ⟨inf, hinf, hsz⟩ := eshOf_info he
  have hrun : ∀ (a : Option Addr) (len cap l h : Nat), loN lo = some l → hiN len hi = some h → l ≤ h → h ≤ len → len ≤ cap → mx' = none →
      (Instr.sliceAt t (.slice a len cap) lo' hi' mx').run P w = .ok (sliced a l h cap (szOf esh)) w := fun a len cap l h e1 e2 h1 h2 h3 hm => by
    subst hm
    have hb := run_bounds (P := P) true hlo hhi e1 e2 h1 h2 h3 w
    simp [Instr.sliceAt, Instr.slice, run_underlying ht, hb, run_sizeOf hinf, hsz, sliced]
  unfold StSlc at h
  split at h
  · cases hmx
    split at h
    · obtain ⟨l, h, e1, e2, h1, h2, rfl⟩ := h
      cases hx
      refine Goes.val hw (hrun none 0 0 l h e1 e2 h1 h2 (Nat.le_refl _) rfl) ?_
      obtain ⟨rfl, rfl⟩ : l = 0 ∧ h = 0 := by omega
      exact .nils
    · rename_i ex sz xs
      obtain ⟨rfl, l, h, e1, e2, h1, h2, rfl⟩ := h
      cases hx with
      | slnil =>
        refine Goes.val hw (hrun none 0 0 l h e1 e2 h1 h2 (Nat.le_refl _) rfl) ?_
        have : l = 0 ∧ h = 0 := by simp at h2; omega
        obtain ⟨rfl, rfl⟩ := this
        exact .slnil
      | slz =>
        refine Goes.val hw (hrun _ 0 0 l h e1 e2 h1 h2 (Nat.le_refl _) rfl) ?_
        have : l = 0 ∧ h = 0 := by simp at h2; omega
        obtain ⟨rfl, rfl⟩ := this
        simp only [sliced]
        exact .slz
      | sl us hc hex hz hp hv =>
        rename_i b o cap
        refine Goes.val hw (hrun _ _ _ l h e1 e2 h1 h2 hc rfl) ?_
        unfold sliced
        by_cases hml : cap = l
        · have : l = h := by omega
          subst this
          have hnil : (xs.take l).drop l = [] := by simp [List.drop_take]
          rw [if_pos hml, hnil, Nat.sub_self, hml, Nat.sub_self]
          exact sl_empty (by rintro b' ⟨⟩; rfl) (by simp)
        · rw [if_neg hml]
          have hlen : ((xs.take h).drop l).length = h - l := by simp; omega
          have hget : ∀ i (hi : i < ((xs.take h).drop l).length), ((xs.take h).drop l)[i] = xs[l + i]'(by omega) := fun i hi => by simp
          simp only [Option.map_some, Addr.add_lit]
          rw [← hlen]
          refine VR.sl (fun i j => us (l + i) j) (by omega) (by simp) (fun i hi => ?_) (fun i j hi hj => ?_) (fun i hi j hj => ?_)
          · rw [hget i hi]; exact hz _ _
          · have := hp (l + i) j (by omega) hj
            rwa [show o + l * szOf esh + i * szOf esh + j = o + (l + i) * szOf esh + j by rw [Nat.add_mul]; omega]
          · have := hv (l + i) (by omega) j (by rw [← hget i hi]; exact hj)
            simpa [hget i hi] using this
    · rename_i o ver off n e
      obtain ⟨rfl, l, h, e1, e2, h1, h2, hh⟩ := h
      cases hx with
      | refnil hr =>
        refine Goes.val hw (hrun _ 0 0 l h e1 e2 h1 h2 (Nat.le_refl _) rfl) ?_
        have : l = 0 ∧ h = 0 := by omega
        obtain ⟨rfl, rfl⟩ := this
        simp only [sliced]
        rcases hh with ⟨hl, rfl⟩ | ⟨_, rfl⟩
        · split <;> first | exact .refnil hr | (rename_i q; exact (q rfl).elim)
        · exact .slz'
      | ref hn hs hr =>
        rename_i a cap
        refine Goes.val hw (hrun _ _ _ l h e1 e2 h1 h2 hn rfl) ?_
        unfold sliced
        rcases hh with ⟨hl, rfl⟩ | ⟨rfl, rfl⟩
        · have ha : (if cap = l then some a else (some a).map (·.add (l * szOf e))) = some (a.add (l * szOf e)) := by
            split
            · have : l = 0 := by omega
              subst this
              simp [Addr.add]
            · rfl
          rw [ha]
          refine .ref (by omega) (by unfold Addr.add; split <;> simp_all) ?_
          unfold RefOK at hr ⊢
          cases hs : σ o <;> simp only [hs] at hr ⊢
          · exact hr
          · refine ⟨hr.1, fun ee => ?_⟩
            obtain ⟨r1, r2, r3, r4⟩ := hr.2 ee
            have q1 : (h - l) * szOf e + l * szOf e = h * szOf e := by rw [← Nat.add_mul]; congr 1; omega
            have q2 : (cap - l) * szOf e + l * szOf e = cap * szOf e := by rw [← Nat.add_mul]; congr 1; omega
            have q3 : h * szOf e ≤ n * szOf e := Nat.mul_le_mul_right _ h2
            rw [r1, Addr.add_lit]
            exact ⟨by congr 1; omega, by omega, by omega, by omega⟩
        · rw [Nat.sub_self]
          refine sl_empty ?_ ?_
          · intro b hb
            split at hb
            · cases hb; exact hs
            · cases hb; unfold Addr.add; split <;> simp_all
          · rintro (h | h)
            · cases h
            · split at h <;> cases h
    · exact h.elim
  · obtain ⟨rfl, e1, e2, h⟩ := h
    cases hmx with
    | some hm =>
      cases hm
      rename_i k
      have hr0 : ∀ (a : Option Addr) (len cap : Nat), (Instr.sliceAt t (.slice a len cap) lo' hi' (some (.int k 0))).run P w = .ok (.slice a 0 0) w := fun a len cap => by
        obtain ⟨kk, rfl⟩ := e2
        cases hhi with
        | some hx =>
          cases hx
          have hb := run_sliceBound (P := P) w kk 0 0 .slice3B (by omega) (by omega)
          have hb' := run_sliceBound (P := P) w k 0 cap .slice3Acap (by omega) (by omega)
          have hbs : (Instr.sliceBounds true len cap lo' (some (.int kk 0)) (some (.int k 0))).run P w = .ok (0, 0, 0) w := by
            cases hlo with
            | none => simp [Instr.sliceBounds, hb', hb]
            | some hx =>
              cases hx <;> simp [loN] at e1
              rename_i k2 n2
              have hl := run_sliceBound (P := P) w k2 n2 0 .slice3C (by omega) (by omega)
              simp [Instr.sliceBounds, hb', hb, hl, show n2.toNat = 0 by omega]
          simp [Instr.sliceAt, Instr.slice, run_underlying ht, hbs, run_sizeOf hinf]
      split at h
      · cases hx; subst h; exact Goes.val hw (hr0 _ _ _) .nils
      · subst h
        cases hx with
        | slnil => exact Goes.val hw (hr0 _ _ _) .slnil
        | slz => exact Goes.val hw (hr0 _ _ _) .slz
        | sl us hc hex hz hp hv => exact Goes.val hw (hr0 _ _ _) (sl_empty (by rintro b' ⟨⟩; rfl) (by simp))
      · subst h
        cases hx with
        | ref hn hs hr => exact Goes.val hw (hr0 _ _ _) (sl_empty (by rintro b' ⟨⟩; exact hs) (by simp))
        | refnil _ => exact Goes.val hw (hr0 _ _ _) .slz'
      · exact h.elim
  · exact h.elim
end Go.Ab
