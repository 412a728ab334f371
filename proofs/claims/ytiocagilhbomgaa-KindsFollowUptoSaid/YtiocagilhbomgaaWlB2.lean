/- Each resolved operation does what it says. -/
import Derived.Test.YtiocagilhbomgaaWlB1
namespace Go.Ab
open Go.RowKit
set_option linter.unusedVariables false
set_option linter.unusedSimpArgs false

theorem Goes.pureV {P g σ w v u} (hw : WRel g σ w) (hv : VR g.pm g.L σ v u) : Goes P g σ w (pure (.value u)) v none :=
  ⟨.value u, u, w, g, rfl, .inl rfl, hw, Gh.le.refl _ _, hv⟩

theorem Goes.of_run {P g σ w s s' v δ} (h : Goes P g σ w s v δ) (e : s'.run P w = s.run P w) : Goes P g σ w s' v δ := by
  obtain ⟨res, u, w', g', e1, e2⟩ := h
  exact ⟨res, u, w', g', e.trans e1, e2⟩

theorem array_one {α : Type} {a : Array α} {x : α} (h : a.toList = [x]) : a = #[x] := by
  cases a; simp at h; subst h; rfl
theorem array_two {α : Type} {a : Array α} {x y : α} (h : a.toList = [x, y]) : a = #[x, y] := by
  cases a; simp at h; subst h; rfl

theorem getElem_map_toList {α β : Type} (f : α → β) (a : Array α) (j : Nat) (h : j < (a.map f).size) : (a.map f)[j] = f (a.toList[j]'(by simpa using h)) := by simp

def evParts (a : Act) (ps : Array (Nat × Operand)) : Array (Nat × Value) := ps.map fun (i, x) => (i, a.eval x)
theorem evParts_size (a : Act) (ps) : (evParts a ps).size = ps.size := by simp [evParts]
theorem evParts_get (a : Act) (ps : Array (Nat × Operand)) (j : Nat) (h : j < (evParts a ps).size) : (evParts a ps)[j] = ((ps[j]'(by simpa [evParts] using h)).1, a.eval (ps[j]'(by simpa [evParts] using h)).2) := by simp [evParts]

theorem res_bsl {P : Program} {t len esh bytes zc} {ps : Array (Nat × Operand)} {qs} (h1 : resElemZ P t = some (esh, bytes, zc)) (hbig : len * szOf esh ≤ 16777216)
    (h3 : rParts (fun i => some (i * szOf esh, szOf esh)) ps.toList = some qs) {g σ n fr} {a : Act} {w v rd δ} (hw : WRel g σ w) (hf : FRel g σ n fr a) (hst : St (.bsl esh zc len qs) fr σ v rd δ) :
    Goes P g σ w (do pure (.value (← Instr.buildSlice t len (evParts a ps)))) v δ := by
  obtain ⟨e, inf, z, hu, he, hi, hz, hzc, hzl, _⟩ := resElemZ_eq h1
  obtain ⟨p1, p2⟩ := rParts_VR hf h3
  have hl : (evP fr qs).length = (evParts a ps).size := by simpa [evParts_size] using p1
  have hp : ∀ j (b : j < (evP fr qs).length) (c : j < (evParts a ps).size), ((evP fr qs)[j]).1 = ((evParts a ps)[j]).1 * szOf esh ∧ ((evP fr qs)[j]).2.1 = szOf esh ∧
      VR g.pm g.L σ ((evP fr qs)[j]).2.2 ((evParts a ps)[j]).2 := fun j b c => by
    have c' : j < ps.size := by simpa [evParts_size] using c
    obtain ⟨q1, q2⟩ := p2 j b (by simpa using c')
    rw [Array.getElem_toList] at q1 q2
    simp only [Option.some.injEq, Prod.mk.injEq] at q1
    rw [evParts_get]
    exact ⟨q1.1.symm, q1.2.symm, q2⟩
  exact sound_bsl hw hu he hi hz hzc hzl hbig hl hp hst

set_option maxHeartbeats 1000000 in
theorem res_sound {P : Program} {o : Oper} {r : ROp} (h : resOp P o.op = some r) {g σ n fr} {a : Act} {w v rd δ} (hw : WRel g σ w) (hf : FRel g σ n fr a) (hst : St r fr σ v rd δ) :
    Goes P g σ w (execOp a.eval o) v δ := by
  obtain ⟨dst, op, ty, pos, after, guard⟩ := o
  cases op <;> simp only [resOp] at h <;> try (cases h; done)
  case move x =>
    simp only [Option.map_eq_some_iff] at h; obtain ⟨y, h1, rfl⟩ := h
    obtain ⟨rfl, _, rfl⟩ := hst
    exact Goes.pureV hw (rOpd_VR hf h1)
  case assign x =>
    simp only [Option.map_eq_some_iff] at h; obtain ⟨y, h1, rfl⟩ := h
    obtain ⟨rfl, _, rfl⟩ := hst
    exact Goes.pureV hw (rOpd_VR hf h1)
  case pick c x y =>
    split at h
    · rename_i c' x' y' h1 h2 h3
      cases h
      obtain ⟨hp, _, rfl⟩ := hst
      unfold StPick at hp
      split at hp
      · rename_i t ht
        have hc := rOpd_VR hf h1
        rw [ht] at hc
        generalize hcv : a.eval c = cv at hc
        cases hc
        subst hp
        refine ⟨.value (if t then a.eval x else a.eval y), _, w, g, ?_, .inl rfl, hw, Gh.le.refl _ _, ?_⟩
        · show (do pure (Next.value (if ← asBool (a.eval c) then a.eval x else a.eval y))).run P w = _
          rw [hcv]; cases t <;> rfl
        · cases t
          · exact rOpd_VR hf h3
          · exact rOpd_VR hf h2
      · exact hp.elim
    · cases h
  case alloc t =>
    simp only [Option.map_eq_some_iff] at h; obtain ⟨zc, h1, rfl⟩ := h
    obtain ⟨i, z, hi, hz, hzc⟩ := zeroCellsOf_eq h1
    obtain ⟨z1, z2⟩ := ofLits_VR (pm := g.pm) (L := g.L) (σ := σ) hzc
    have := sound_new (P := P) (t := t) (c := z.cells) hw (by simpa using z1) (fun j a b => by have := z2 j a (by simpa using b); rwa [Array.getElem_toList] at this) hst
    obtain ⟨res, u, w', g', e1, e2⟩ := this
    refine ⟨res, u, w', g', ?_, e2⟩
    rw [← e1]
    have hzr : (zeroValue t).run P w = .ok z w := by simp [zeroValue, typeInfo, hi, hz]
    simp [execOp, Instr.alloc, hzr, newVar]
  case box t x =>
    simp only [Option.map_eq_some_iff] at h; obtain ⟨y, h1, rfl⟩ := h
    obtain ⟨hnj, hst⟩ := hst
    obtain ⟨c1, c2⟩ := (rOpd_VR hf h1).cells (by rintro e; rw [e] at hnj; simp [AV.nj] at hnj)
    have := sound_new (P := P) (t := t) (c := (a.eval x).cells) hw c1 c2 hst
    obtain ⟨res, u, w', g', e1, e2⟩ := this
    refine ⟨res, u, w', g', ?_, e2⟩
    rw [← e1]
    simp [execOp, Instr.box, newVar]
  case build t ps =>
    split at h
    · rename_i zc place h1 h2
      simp only [Option.map_eq_some_iff] at h; obtain ⟨qs, h3, rfl⟩ := h
      obtain ⟨⟨cs, hfill, rfl⟩, _, rfl⟩ := hst
      obtain ⟨i, z, hi, hz, hzc⟩ := zeroCellsOf_eq h1
      obtain ⟨z1, z2⟩ := ofLits_VR (pm := g.pm) (L := g.L) (σ := σ) hzc
      obtain ⟨p1, p2⟩ := rParts_VR hf h3
      have hvl : VL g.pm g.L σ zc z.cells := ⟨by simpa using z1, fun j a b => by have := z2 j a (by simpa using b); rwa [Array.getElem_toList] at this⟩
      obtain ⟨vs', e1, e2⟩ := run_fill place (evP fr qs) (ps.map fun (i, x) => (i, a.eval x)).toList hvl (by simpa using p1) (fun j a b => by
        have b' : j < ps.size := by simpa using b
        have := p2 j a (by simpa using b')
        rw [Array.getElem_toList] at this
        simpa using this) hfill
      exact Goes.val hw (run_built h2 hi hz e1 w) (.agg e2.1 e2.2)
    · cases h
  case buildSlice t len ps =>
    split at h
    · rename_i esh bytes zc h1
      split at h
      · rename_i hbig
        simp only [Option.map_eq_some_iff] at h; obtain ⟨qs, h3, rfl⟩ := h
        exact res_bsl h1 hbig h3 hw hf hst
      · cases h
    · cases h
  case load t x =>
    split at h
    · rename_i sh y h1 h2
      cases h
      obtain ⟨hst, rfl⟩ := hst
      exact sound_load hw h1 (rOpd_VR hf h2) hst
    · cases h
  case store t x y =>
    split at h
    · rename_i i x' y' h1 h2 h3
      cases h
      exact sound_store hw h1 rfl (rOpd_VR hf h2) (rOpd_VR hf h3) hst
    · cases h
  case nilCheck x =>
    simp only [Option.map_eq_some_iff] at h; obtain ⟨y, h1, rfl⟩ := h
    obtain ⟨hst, _, rfl⟩ := hst
    have hx := rOpd_VR hf h1
    have key : ∀ u, a.eval x = u → (match u with | .pointer (some _) | .iface _ _ | .func (.func _) _ _ => True | _ => False) → v = ev fr y → Goes P g σ w (execOp a.eval ⟨dst, .nilCheck x, ty, pos, after, guard⟩) v none := fun u e hu hv => by
      subst hv
      refine ⟨.value (a.eval x), a.eval x, w, g, ?_, .inl rfl, hw, Gh.le.refl _ _, hx⟩
      simp only [execOp]
      rw [e]
      cases u <;> first
        | exact hu.elim
        | rfl
        | (rename_i p; cases p <;> first | exact hu.elim | rfl)
        | (rename_i f _ _; cases f <;> first | exact hu.elim | rfl)
    unfold StNchk at hst
    generalize hq : ev fr y = q at hst hx
    generalize hev : a.eval x = u at hx
    split at hst
    · cases hx; exact key _ hev trivial (hst.trans hq.symm)
    · cases hx; exact key _ hev trivial (hst.trans hq.symm)
    · cases hx; exact key _ hev trivial (hst.trans hq.symm)
    · cases hx; exact key _ hev trivial (hst.trans hq.symm)
    · exact hst.elim
  case binOp op t x y t2 =>
    split at h
    · rename_i x' y' h1 h2
      have hx := rOpd_VR hf h1
      have hy := rOpd_VR hf h2
      unfold resBin at h
      split at h
      · rename_i hu; cases h; obtain ⟨hst, _, rfl⟩ := hst; exact sound_bin (c := .bool) hw hu hx hy hst
      · rename_i hu; cases h; obtain ⟨hst, _, rfl⟩ := hst; exact sound_bin (c := .ptr) hw ⟨_, hu⟩ hx hy hst
      · rename_i hu; cases h; obtain ⟨hst, _, rfl⟩ := hst; exact sound_bin (c := .iface) hw ⟨_, hu⟩ hx hy hst
      · rename_i hu; cases h; obtain ⟨hst, _, rfl⟩ := hst; exact sound_bin (c := .flat) hw ⟨_, hu⟩ hx hy hst
      · rename_i fields hu
        split at h
        · rename_i ks hk
          split at h
          · rename_i hc
            cases h
            obtain ⟨hst, _, rfl⟩ := hst
            simp only [Bool.and_eq_true, Bool.not_eq_true'] at hc
            exact sound_eqs hw hu hc.1.1 hc.1.2 hc.2 hx hy hst
          · cases h
        · cases h
      · cases h; obtain ⟨hst, _, rfl⟩ := hst; exact sound_bin (c := .none) hw trivial hx hy hst
    · cases h
  case unOp op t x =>
    simp only [Option.map_eq_some_iff] at h; obtain ⟨y, h1, rfl⟩ := h
    obtain ⟨hst, _, rfl⟩ := hst
    exact sound_un hw (rOpd_VR hf h1) hst
  case convert src d x =>
    simp only [Option.bind_eq_some_iff] at h; obtain ⟨y, h1, h⟩ := h
    have hx := rOpd_VR hf h1
    unfold resConv at h
    split at h
    · rename_i hd hs
      cases h; obtain ⟨hst, _, rfl⟩ := hst
      exact sound_convInt hw ⟨_, hs⟩ hd hx hst
    · rename_i hd hs
      cases h; obtain ⟨hst, _, rfl⟩ := hst
      exact sound_convStr hw hs hd hx hst
    · rename_i e hd hs
      split at h
      · rename_i he
        cases h; obtain ⟨hst, rfl⟩ := hst
        exact sound_b2s hw hs he hd hx hst
      · cases h
    · rename_i e hd hs
      split at h
      · rename_i he
        cases h; obtain ⟨hst, _, rfl⟩ := hst
        exact sound_s2b hw hs he hd hx hst
      · cases h
    · cases h
  case makeInterface t x =>
    split at h
    · rename_i hc
      simp only [Option.map_eq_some_iff] at h; obtain ⟨y, h1, rfl⟩ := h
      obtain ⟨hst, _, rfl⟩ := hst
      exact sound_mki hw hc (rOpd_VR hf h1) hst
    · cases h
  case makeFunc f x y =>
    split at h
    · rename_i x' y' h1 h2
      cases h; obtain ⟨rfl, _, rfl⟩ := hst
      obtain ⟨a1, a2⟩ := rOpds_VR hf h1
      obtain ⟨b1, b2⟩ := rOpds_VR hf h2
      refine Goes.val hw (u := .func f (x.map a.eval) (y.map a.eval)) rfl (.fn (by simpa using a1.symm) (by simpa using b1.symm) (fun j p q => ?_) (fun j p q => ?_))
      · rw [getElem_map_toList]; exact a2 j p _
      · rw [getElem_map_toList]; exact b2 j p _
    · cases h
  case makeSlice t l c =>
    split at h
    · rename_i esh bytes zc l' c' h1 h2 h3
      cases h
      obtain ⟨e, inf, z, hu, he, hi, hz, hzc, hzl, rfl⟩ := resElemZ_eq h1
      exact sound_mksl hw hu he hi hz hzc hzl (rOpd_VR hf h2) (rOpd_VR hf h3) hst
    · cases h
  case slice t x lo hi mx =>
    split at h
    · rename_i x' lo' hi' mx' h1 h2 h3 h4
      split at h
      · rename_i hu
        split at h
        · rename_i e1
          cases h; obtain ⟨hst, _, rfl⟩ := hst
          have hm : mx.map a.eval = none := by
            cases mx with
            | none => rfl
            | some z => simp [rOpt] at h4
          have := sound_sls (P := P) hw hu (rOpd_VR hf h1) (rOpt_OVR hf h2) (rOpt_OVR hf h3) hst
          rw [← hm] at this
          exact this
        · cases h
      · simp only [Option.map_eq_some_iff] at h; obtain ⟨⟨e, esh⟩, h5, rfl⟩ := h
        obtain ⟨hst, _, rfl⟩ := hst
        obtain ⟨hu, he⟩ := resElem_eq h5
        exact sound_slc hw he hu (rOpd_VR hf h1) (rOpt_OVR hf h2) (rOpt_OVR hf h3) (rOpt_OVR hf h4) hst
    · cases h
  case fieldAddr t x fi =>
    split at h
    · rename_i fields hu
      split at h
      · rename_i f hfi
        split at h
        · rename_i i hi
          split at h
          · cases h
          · rename_i hz
            simp only [Option.map_eq_some_iff] at h; obtain ⟨y, h1, rfl⟩ := h
            obtain ⟨hst, _, rfl⟩ := hst
            exact sound_fad hw hu hfi ⟨i, hi, hz⟩ (rOpd_VR hf h1) hst
        · cases h
      · cases h
    · cases h
  case field t x fi =>
    split at h
    · rename_i fields hu
      split at h
      · rename_i f hfi
        split at h
        · rename_i sh hs
          simp only [Option.map_eq_some_iff] at h; obtain ⟨y, h1, rfl⟩ := h
          obtain ⟨hst, _, rfl⟩ := hst
          exact sound_fld hw hu hfi hs (rOpd_VR hf h1) hst
        · cases h
      · cases h
    · cases h
  case indexAddr t x i =>
    split at h
    · rename_i x' i' h1 h2
      split at h
      · rename_i e hu
        simp only [Option.map_eq_some_iff] at h; obtain ⟨sh, hs, rfl⟩ := h
        obtain ⟨hst, _, rfl⟩ := hst
        exact sound_iad (arr := none) hw hs hu (rOpd_VR hf h1) (rOpd_VR hf h2) hst
      · rename_i k e hu
        simp only [Option.map_eq_some_iff] at h; obtain ⟨sh, hs, rfl⟩ := h
        obtain ⟨hst, _, rfl⟩ := hst
        exact sound_iad (arr := some k) hw hs hu (rOpd_VR hf h1) (rOpd_VR hf h2) hst
      · cases h
    · cases h
  case index t x i =>
    split at h
    · rename_i x' i' h1 h2
      split at h
      · rename_i hu
        cases h
        obtain ⟨hst, _, rfl⟩ := hst
        exact sound_idx_str hw hu (rOpd_VR hf h1) (rOpd_VR hf h2) hst
      · rename_i k e hu
        simp only [Option.map_eq_some_iff] at h; obtain ⟨sh, hs, rfl⟩ := h
        obtain ⟨hst, _, rfl⟩ := hst
        exact sound_idx_arr hw hu hs (rOpd_VR hf h1) (rOpd_VR hf h2) hst
      · cases h
    · cases h
  case extract x i =>
    simp only [Option.map_eq_some_iff] at h; obtain ⟨y, h1, rfl⟩ := h
    obtain ⟨hst, _, rfl⟩ := hst
    exact sound_ext hw (rOpd_VR hf h1) hst
  case call c =>
    obtain ⟨callee, args, argTypes⟩ := c
    simp only at h
    split at h
    · rename_i b
      split at h
      · rename_i x t ha ht
        split at h
        · rename_i k x' h1 h2
          cases h; obtain ⟨hst, _, rfl⟩ := hst
          obtain rfl := array_one ha
          obtain rfl := array_one ht
          have hfit : LenC.fits P t k := by
            unfold resLen at h1
            split at h1 <;> (try cases h1)
            · rename_i hu; exact hu
            · rename_i hu; exact ⟨_, hu⟩
            · rename_i hu; exact .inl ⟨_, hu⟩
            · rename_i hu
              split at h1
              · rename_i hu2; cases h1; exact .inr ⟨_, _, hu, hu2⟩
              · cases h1
          exact (sound_len (ty := ty) hw hfit (rOpd_VR hf h2) hst).of_run (by simp [execOp, resolve, invoke, builtin])
        · cases h
      · rename_i s x t tx ha ht
        split at h
        · rename_i esh bytes zc s' x' h1 h2 h3
          obtain rfl := array_two ha
          obtain rfl := array_two ht
          obtain ⟨e, inf, z, hu, he, hi, hz, hzc, hzl, rfl⟩ := resElemZ_eq h1
          have hzs : z.cells.size = szOf esh := by
            have := (ofLits_VR (pm := g.pm) (L := g.L) (σ := σ) hzc).1
            rw [← hzl, ← this]; simp
          split at h
          · rename_i e' hux
            cases h
            exact (sound_app (ty := ty) hw hu hux (.inl ⟨e', rfl⟩) he hi hz hzs (rOpd_VR hf h2) (rOpd_VR hf h3) hst).of_run (by simp [execOp, resolve, invoke, builtin])
          · rename_i hux
            cases h
            exact (sound_app (ty := ty) hw hu hux (.inr rfl) he hi hz hzs (rOpd_VR hf h2) (rOpd_VR hf h3) hst).of_run (by simp [execOp, resolve, invoke, builtin])
          · cases h
        · cases h
      · rename_i s x t tx ha ht
        split at h
        · rename_i e esh s' x' h1 h2 h3
          cases h
          obtain rfl := array_two ha
          obtain rfl := array_two ht
          obtain ⟨hu, he⟩ := resElem_eq h1
          exact (sound_cpy (ty := ty) (tx := tx) hw hu he (rOpd_VR hf h2) (rOpd_VR hf h3) hst).of_run (by simp [execOp, resolve, invoke, builtin])
        · cases h
      · rename_i x y ha
        split at h
        · rename_i x' y' h1 h2
          cases h; obtain ⟨hst, _, rfl⟩ := hst
          obtain rfl := array_two ha
          exact (sound_min (P := P) (ts := argTypes) (ty := ty) hw (rOpd_VR hf h1) (rOpd_VR hf h2) hst).of_run (by simp [execOp, resolve, invoke, builtin])
        · cases h
      · rename_i x y ha
        split at h
        · rename_i x' y' h1 h2
          cases h; obtain ⟨hst, _, rfl⟩ := hst
          obtain rfl := array_two ha
          exact (sound_max (P := P) (ts := argTypes) (ty := ty) hw (rOpd_VR hf h1) (rOpd_VR hf h2) hst).of_run (by simp [execOp, resolve, invoke, builtin])
        · cases h
      · cases h
    · cases h
end Go.Ab
