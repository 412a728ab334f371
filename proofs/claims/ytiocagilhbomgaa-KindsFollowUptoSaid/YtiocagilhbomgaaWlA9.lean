/- append: what it makes of abstract values. -/
import Derived.Test.YtiocagilhbomgaaWlA8
namespace Go.Ab
open Go.RowKit
set_option linter.unusedVariables false
set_option linter.unusedSimpArgs false

def StApp (esh : Option Nat) (bytes : Nat) (s x : AV) (σ : Hp) (v : AV) (rd : List Nat) (δ : Option (Nat × Ob)) : Prop :=
  ∃ n cells rdx, Src esh x σ n cells rdx ∧ cells.all AV.one = true ∧
    ((n = 0 ∧ v = s ∧ rd = rdx ∧ δ = none ∧ (match s with | .nils | .sl _ _ _ | .ref _ _ _ _ _ => True | _ => False)) ∨
     (n = 0 ∧ rd = rdx ∧ (s = .nils ∨ ∃ sz, s = .sl true sz []) ∧ ∃ o, σ o = .virgin ∧ v = .ref o 0 0 0 esh ∧ δ = some (o, .arr 0 [])) ∨
     (match s with
      | .nils => 0 < n ∧ n * bytes ≤ 140737488355328 ∧ n ≤ 140737488355328 ∧ rd = rdx ∧ StNewSl false esh n cells σ v [] δ
      | .sl true sz xs => 0 < n ∧ sz = szOf esh ∧ (xs.length + n) * bytes ≤ 140737488355328 ∧ xs.length + n ≤ 140737488355328 ∧ rd = rdx ∧ StNewSl false esh (xs.length + n) (xs.flatMap AV.cells ++ cells) σ v [] δ
      | .ref o ver off m e => e = esh ∧ (m + n) * bytes ≤ 140737488355328 ∧ m + n ≤ 140737488355328 ∧ rd = o :: rdx ∧ ∃ cs, σ o = .arr ver cs ∧ v = .ref o (ver + 1) 0 (m + n) esh ∧
          δ = some (o, .arr (ver + 1) ((cs.drop off).take (m * szOf esh) ++ cells))
      | _ => False))

theorem StNewSl.len {ex esh n cs σ v rd δ} (h : StNewSl ex esh n cs σ v rd δ) : n * szOf esh ≤ cs.length := h.2.1

/-- A new array's cells, then zeroes. -/
theorem VL_grown {pm L σ} {cs : List AV} {us : List Value} (hl : us.length = cs.length) (hv : ∀ j (a : j < cs.length) (b : j < us.length), VR pm L σ (cs[j]) (us[j])) (zs : Array Value) :
    cs.length ≤ (us.toArray ++ zs).size ∧ ∀ j (a : j < cs.length) (b : j < (us.toArray ++ zs).size), VR pm L σ (cs[j]) ((us.toArray ++ zs)[j]) := by
  refine ⟨by simp; omega, fun j a b => ?_⟩
  have := hv j a (by omega)
  rw [Array.getElem_append_left (by simp; omega)]
  simpa using this

theorem VL_app {pm L σ} {cs cs' : List AV} {us us' : List Value} (hl : us.length = cs.length) (hv : ∀ j (a : j < cs.length) (b : j < us.length), VR pm L σ (cs[j]) (us[j]))
    (hl' : us'.length = cs'.length) (hv' : ∀ j (a : j < cs'.length) (b : j < us'.length), VR pm L σ (cs'[j]) (us'[j])) :
    (us ++ us').length = (cs ++ cs').length ∧ ∀ j (a : j < (cs ++ cs').length) (b : j < (us ++ us').length), VR pm L σ ((cs ++ cs')[j]) ((us ++ us')[j]) := by
  refine ⟨by simp [hl, hl'], fun j a b => ?_⟩
  by_cases h : j < cs.length
  · rw [List.getElem_append_left h, List.getElem_append_left (by omega)]; exact hv j h (by omega)
  · rw [List.getElem_append_right (by omega), List.getElem_append_right (by omega)]
    simp only [hl]
    exact hv' _ _ _

theorem goes_grow {P g σ w t tx ty elem esh base sLen sCap ux v n d} {cs : List AV} {olds us : List Value} {δ : Option (Nat × Ob)} {z : Value} {inf : TypeInfo} (hw : WRel g σ w)
    (ht : P.underlying t = some (.slice elem)) (htx : P.underlying tx = some d) (hd : (∃ e', d = .slice e') ∨ d = .string) (he : eshOf P elem = some esh) (hi : P.info? elem = some inf) (hz0 : inf.zero = some z) (hzl : z.cells.size = szOf esh)
    (hlen : (Builtin.lenOf ux).run P w = .ok n w) (hf : (Builtin.firstCells (szOf esh) n ux).run P w.drew = .ok us.toArray w.drew)
    (hfo : (Builtin.firstCells (szOf esh) sLen (.slice base sLen sCap)).run P w.drew = .ok olds.toArray w.drew)
    (hroom : sCap < sLen + n) (hbytes : (sLen + n) * inf.bytes ≤ 140737488355328) (h63 : sLen + n ≤ 140737488355328)
    (hl : (olds ++ us).length = cs.length) (hln : cs.length = (sLen + n) * szOf esh) (hv : ∀ j (a : j < cs.length) (b : j < (olds ++ us).length), VR g.pm g.L σ (cs[j]) ((olds ++ us)[j]))
    (K : ∀ (c : Array Value) (cap : Nat), sLen + n ≤ cap → cap * szOf esh ≤ c.size → cs.length ≤ c.size → (∀ j (a : j < cs.length) (b : j < c.size), VR g.pm g.L σ (cs[j]) (c[j])) →
      ∃ g', WRel g' (ap σ δ) (w.drew.alloc (.cells c elem)) ∧ g.le σ g' (ap σ δ) ∧ VR g'.pm g'.L (ap σ δ) v (.slice (some ⟨w.heap.size, 0, none⟩) (sLen + n) cap)) :
    Goes P g σ w (do pure (.value (← Builtin.append_ #[t, tx] ty #[.slice base sLen sCap, ux]))) v δ := by
  have hrun := run_append_grows (ty := ty) ht htx hd he hi hz0 hlen hf hfo hroom hbytes (by omega)
  have hcap := grownCap_ge w (sLen + n) sCap elem
  obtain ⟨k1, k2⟩ := VL_grown (pm := g.pm) (L := g.L) (σ := σ) hl hv (Builtin.zeroCells z.cells (grownCap w (sLen + n) sCap elem - (sLen + n)))
  obtain ⟨g', r1, r2, r3⟩ := K _ (grownCap w (sLen + n) sCap elem) hcap (by
    rw [Array.size_append, size_zeroCells, List.size_toArray, hl, hln, hzl, ← Nat.add_mul]
    exact Nat.mul_le_mul_right _ (by omega)) k1 k2
  exact Goes.val' hrun r1 r2 r3

/-- A list of an object's cells, from a place on, as values. -/
theorem ob_cells {g σ o ver cs} {w : World} (hw : WRel g σ w) (hσ : σ o = .arr ver cs) (off n : Nat) (h : off + n ≤ cs.length) :
    ∃ us : List Value, us.length = n ∧ (∀ j v, us[j]? = some v → w.cell? ((⟨(g.L o).b, (g.L o).off + off, none⟩ : Addr).add j) = some v) ∧
      ∀ j (a : j < ((cs.drop off).take n).length) (b : j < us.length), VR g.pm g.L σ (((cs.drop off).take n)[j]) (us[j]) := by
  have k := hw.ob o ver cs hσ
  have hch : ∀ j, ∃ v, j < cs.length → w.cell? ⟨(g.L o).b, (g.L o).off + j, none⟩ = some v ∧ ∀ hj : j < cs.length, VR g.pm g.L σ (cs[j]) v := fun j => by
    by_cases hj : j < cs.length
    · obtain ⟨v, a, b⟩ := k.there j (by have := k.len; omega); exact ⟨v, fun _ => ⟨a, b⟩⟩
    · exact ⟨undef, fun h => absurd h hj⟩
  have hus := fun j => Classical.choose_spec (hch j)
  refine ⟨(List.range n).map (fun j => Classical.choose (hch (off + j))), by simp, fun j v hj => ?_, fun j a b => ?_⟩
  · rw [List.getElem?_map] at hj
    simp only [Option.map_eq_some_iff] at hj
    obtain ⟨j', hj', rfl⟩ := hj
    obtain ⟨hlt, e2⟩ := List.getElem?_eq_some_iff.1 hj'
    simp at hlt e2
    subst e2
    have := (hus (off + j) (by omega)).1
    rw [Addr.add_lit, ← this]
    congr 2
    omega
  · simp at a b
    have := (hus (off + j) (by omega)).2 (by omega)
    simpa using this

theorem sound_app {P g σ w t tx ty elem esh s x us ux v rd δ d} {z : Value} {inf : TypeInfo} (hw : WRel g σ w)
    (ht : P.underlying t = some (.slice elem)) (htx : P.underlying tx = some d) (hd : (∃ e', d = .slice e') ∨ d = .string) (he : eshOf P elem = some esh) (hi : P.info? elem = some inf) (hz0 : inf.zero = some z) (hzl : z.cells.size = szOf esh)
    (hs : VR g.pm g.L σ s us) (hx : VR g.pm g.L σ x ux) (h : StApp esh inf.bytes s x σ v rd δ) :
    Goes P g σ w (do pure (.value (← Builtin.append_ #[t, tx] ty #[us, ux]))) v δ := by
  obtain ⟨n, cells, rdx, hsrc, hone, h⟩ := h
  obtain ⟨l1, l2, vs, l3, l4, l5⟩ := run_firstCells (P := P) hw hx hsrc
  obtain ⟨_, _, vd, d3, d4, d5⟩ := run_firstCells (P := P) hw.drew hx hsrc
  rcases h with ⟨rfl, rfl, _, rfl, hsl⟩ | ⟨rfl, _, hs1, o, ho, rfl, rfl⟩ | h
  · -- nothing is appended
    have hv0 : vs = [] := by
      have : vs.length = 0 := by omega
      exact List.eq_nil_of_length_eq_zero this
    subst hv0
    have key : ∀ base len cap, us = .slice base len cap → len ≤ cap → Goes P g σ w (do pure (.value (← Builtin.append_ #[t, tx] ty #[us, ux]))) v none := fun base len cap e hc => by
      subst e
      have := run_append_fits (ty := ty) (base := base) (sLen := len) (sCap := cap) (w' := w) ht htx hd he l1 l3 (by omega) (by cases base <;> simp [storeCells])
      exact Goes.val hw this hs
    split at hsl
    · cases hs; exact key _ _ _ rfl (Nat.le_refl _)
    · cases hs with
      | slnil => exact key _ _ _ rfl (Nat.le_refl _)
      | slz => exact key _ _ _ rfl (Nat.le_refl _)
      | sl _ hc => exact key _ _ _ rfl hc
    · cases hs with
      | ref hn => exact key _ _ _ rfl hn
      | refnil _ => exact key _ _ _ rfl (Nat.le_refl _)
    · exact hsl.elim
  · -- nothing is appended: an object without cells
    have hv0 : vs = [] := by
      have : vs.length = 0 := by omega
      exact List.eq_nil_of_length_eq_zero this
    subst hv0
    obtain ⟨w1, w2⟩ := hw.own (o := o) (l := ⟨g.B0, 0, 0⟩) (ver := 0) (cs := []) (by rw [ho]; exact trivial) (Nat.le_refl _) (by simp) (fun j hj => by simp at hj) (fun j hj => by simp at hj) (fun j hj => by simp at hj) (fun j hj => by simp at hj)
      (fun o' ver' cs' ho e hb j j' hj hj' => by simp at hj')
    have key : ∀ base, us = .slice base 0 0 → Goes P g σ w (do pure (.value (← Builtin.append_ #[t, tx] ty #[us, ux]))) (.ref o 0 0 0 esh) (some (o, .arr 0 [])) := fun base e => by
      subst e
      have := run_append_fits (ty := ty) (base := base) (sLen := 0) (sCap := 0) (w' := w) ht htx hd he l1 l3 (by omega) (by cases base <;> simp [storeCells])
      exact Goes.val' this w1 w2 (.refnil (by simp [VerOK, ap_some]))
    rcases hs1 with rfl | ⟨sz, rfl⟩
    · cases hs; exact key _ rfl
    · cases hs with
      | slnil => exact key _ rfl
      | slz => exact key _ rfl
      | sl us hc hex hz hp hv =>
        have := hex rfl
        simp at this
        subst this
        exact key _ rfl
  · split at h
    · obtain ⟨hn, hb, h63, _, hnew⟩ := h
      cases hs
      refine goes_grow (cs := cells) (olds := []) (us := vd) hw ht htx hd he hi hz0 hzl l1 d3 (by simp [Builtin.firstCells]) (by omega) (by simpa using hb) (by omega) (by simpa using d4) (by simpa using l2) (by simpa using d5) (fun c cap k1 k2 k3 k4 => ?_)
      have := goes_newSl (g := g) (t := elem) (ex := false) (n := 0 + n) (cap := cap) hw.drew k3 k4 k1 k2 (by simp) (by simpa using hnew)
      simpa using this
    · rename_i sz xs
      obtain ⟨hn, rfl, hb, h63, _, hnew⟩ := h
      have hsx : Src esh (.sl true (szOf esh) xs) σ xs.length (xs.flatMap AV.cells) [] := ⟨rfl, rfl, rfl, rfl⟩
      obtain ⟨_, o2, vo, o3, o4, o5⟩ := run_firstCells (P := P) hw.drew hs hsx
      have key : ∀ base, us = .slice base xs.length xs.length → Goes P g σ w (do pure (.value (← Builtin.append_ #[t, tx] ty #[us, ux]))) v δ := fun base e => by
        subst e
        obtain ⟨a1, a2⟩ := VL_app o4 o5 d4 d5
        refine goes_grow (cs := xs.flatMap AV.cells ++ cells) (olds := vo) (us := vd) hw ht htx hd he hi hz0 hzl l1 d3 o3 (by omega) hb h63 a1 (by rw [List.length_append, o2, l2, Nat.add_mul]) a2 (fun c cap k1 k2 k3 k4 => ?_)
        have := goes_newSl (g := g) (t := elem) (ex := false) (n := xs.length + n) (cap := cap) hw.drew k3 k4 k1 k2 (by simp) hnew
        simpa using this
      cases hs with
      | slnil => exact key none rfl
      | slz => exact key _ rfl
      | sl _ hc hex => have := hex rfl; subst this; exact key _ rfl
    · rename_i o ver off m e
      obtain ⟨rfl, hb, h63, _, cs, hσ, rfl, rfl⟩ := h
      have hs0 := hs
      cases hs with
      | @refnil _ _ _ _ a _ =>
        by_cases hn : 0 < n
        case neg =>
          have hn0 : n = 0 := by omega
          subst hn0
          have hv0 : vs = [] := by
            have : vs.length = 0 := by omega
            exact List.eq_nil_of_length_eq_zero this
          subst hv0
          have hc0 : cells = [] := List.eq_nil_of_length_eq_zero (by omega)
          subst hc0
          have hcells : (cs.drop off).take (0 * szOf e) ++ ([] : List AV) = [] := by simp
          rw [hcells]
          obtain ⟨w1, w2⟩ := hw.own (o := o) (l := ⟨g.B0, 0, 0⟩) (ver := ver + 1) (cs := []) (by rw [hσ]; exact .inl (Nat.lt_succ_self _)) (Nat.le_refl _) (by simp) (fun j hj => by simp at hj) (fun j hj => by simp at hj) (fun j hj => by simp at hj) (fun j hj => by simp at hj)
            (fun o' ver' cs' ho e hb j j' hj hj' => by simp at hj')
          have := run_append_fits (ty := ty) (base := a) (sLen := 0) (sCap := 0) (w' := w) ht htx hd he l1 l3 (by omega) (by cases a <;> simp [storeCells])
          exact Goes.val' this w1 w2 (.refnil (by simp [VerOK, ap_some]))
        obtain ⟨q1, q2⟩ := hw.drop hσ
        have hupd : ∀ x, upd (upd σ o (.dead ver)) o x = upd σ o x := fun x => by funext i; by_cases h : i = o <;> simp [upd, h]
        refine goes_grow (cs := cells) (olds := []) (us := vd) hw ht htx hd he hi hz0 hzl l1 d3 (by cases a <;> simp [Builtin.firstCells, loadCells, loadCellsFrom]) (by omega) (by simpa using hb) (by omega) (by simpa using d4) (by simpa using l2) (by simpa using d5) (fun c cap' k1 k2 k3 k4 => ?_)
        have q1' := q1.drew
        have hcells : (cs.drop off).take (0 * szOf e) ++ cells = cells := by simp
        rw [hcells]
        obtain ⟨w1, w2⟩ := q1'.alloc_ob (o := o) (ver := ver + 1) c elem cells (by simp [ObExt]) k3 (fun j a b => (k4 j a b).mono q2.ext)
        rw [hupd] at w1 w2
        refine ⟨_, w1, q2.trans w2, ?_⟩
        simp only [ap_some]
        have hb2 := l2
        refine .ref (by simpa using k1) rfl ?_
        simp only [RefOK, upd_same]
        exact ⟨Nat.le_refl _, fun _ => ⟨by simp, by simp; omega, by simpa using k1, by simpa using k2⟩⟩
      | ref hnc hsp hr =>
        rename_i a cap
        simp only [RefOK, hσ] at hr
        obtain ⟨_, rfl, r2, r3, r4⟩ : _ ∧ _ := ⟨trivial, hr.2 trivial⟩
        have k := hw.ob o ver cs hσ
        obtain ⟨q1, q2⟩ := hw.drop hσ
        have hvs : ∀ j (a : j < cells.length) (b : j < vs.length), VR g.pm g.L (upd σ o (.dead ver)) (cells[j]) (vs[j]) := fun j a b => (l5 j a b).mono q2.ext
        obtain ⟨uo, uo1, uo2, uo3⟩ := ob_cells hw hσ off (m * szOf e) r2
        have huo : ∀ j (a : j < ((cs.drop off).take (m * szOf e)).length) (b : j < uo.length), VR g.pm g.L (upd σ o (.dead ver)) (((cs.drop off).take (m * szOf e))[j]) (uo[j]) := fun j a b => (uo3 j a b).mono q2.ext
        have hcl : ((cs.drop off).take (m * szOf e)).length = m * szOf e := by simp; omega
        have hncs : (((cs.drop off).take (m * szOf e)) ++ cells).length = (m + n) * szOf e := by rw [List.length_append, hcl, l2, Nat.add_mul]
        have hupd : ∀ x, upd (upd σ o (.dead ver)) o x = upd σ o x := fun x => by funext i; by_cases h : i = o <;> simp [upd, h]
        by_cases hroom : m + n ≤ cap
        · -- room: the cells behind are written
          have hq : (m + n) * szOf e ≤ cap * szOf e := Nat.mul_le_mul_right _ hroom
          have hadd : (m + n) * szOf e = m * szOf e + n * szOf e := Nat.add_mul _ _ _
          have hthere : ∀ j, j < vs.length → (w.cell? ⟨(g.L o).b, (g.L o).off + off + m * szOf e + j, none⟩).isSome = true := fun j hj => by
            obtain ⟨v, hv, _⟩ := k.there (off + m * szOf e + j) (by omega)
            rw [show (g.L o).off + off + m * szOf e + j = (g.L o).off + (off + m * szOf e + j) by omega, hv]; rfl
          have hst := run_storeCells_cells (P := P) (g.L o).b ((g.L o).off + off + m * szOf e) vs 0 w (by simpa using hthere)
            (fun j hj => by
              have := k.free (off + m * szOf e + j) (by omega)
              rwa [show (g.L o).off + off + m * szOf e + 0 + j = (g.L o).off + (off + m * szOf e + j) by omega])
            (fun u hu => by
              obtain ⟨j, hj, rfl⟩ := List.getElem_of_mem hu
              exact (l5 j (by omega) hj).one (List.all_eq_true.1 hone _ (List.getElem_mem _)))
          simp only [Nat.add_zero] at hst
          have hrun := run_append_fits (ty := ty) (base := some ⟨(g.L o).b, (g.L o).off + off, none⟩) (sLen := m) (sCap := cap) ht htx hd he l1 l3 hroom (w' := w.setCells (g.L o).b ((g.L o).off + off + m * szOf e) vs) (by simpa [Addr.add_lit] using hst)
          have hfree := WRel.setCells_free (g := g) (b := (g.L o).b) vs ((g.L o).off + off + m * szOf e) q1 k.low (fun j hj => by
            have e1 : (g.L o).off + off + m * szOf e + j = (g.L o).off + (off + m * szOf e + j) := by omega
            rw [e1]
            refine ⟨k.pm _ (by omega), k.tm _ (by omega), ?_, fun o' ver' cs' e' j' hj' hh => ?_⟩
            · obtain ⟨v, hv, _⟩ := k.there (off + m * szOf e + j) (by omega); exact ⟨v, hv⟩
            · by_cases ho : o' = o
              · subst ho; simp at e'
              · rw [upd_ne _ _ ho] at e'
                exact hw.sep o' o _ _ _ _ e' hσ ho hh.1 j' (off + m * szOf e + j) hj' (by omega) hh.2)
          have hin := World.cell?_setCells_in (g.L o).b vs ((g.L o).off + off + m * szOf e) w hthere
          have hout := World.cell?_setCells_out (g.L o).b vs ((g.L o).off + off + m * szOf e) w
          obtain ⟨w1, w2⟩ := hfree.own (o := o) (l := ⟨(g.L o).b, (g.L o).off + off, (g.L o).cap - off⟩) (ver := ver + 1) (cs := (cs.drop off).take (m * szOf e) ++ cells)
            (by simp [ObExt]) k.low (by rw [hncs]; simp; omega) (fun j hj => by
              simp only at hj ⊢
              by_cases hj1 : j < m * szOf e
              · refine ⟨uo[j]'(by omega), ?_, fun hj2 => ?_⟩
                · rw [hout _ (fun _ _ => Or.inl (by simp; omega))]
                  have := uo2 j (uo[j]'(by omega)) (by simp)
                  rwa [Addr.add_lit] at this
                · rw [List.getElem_append_left (by omega)]
                  refine (huo j (by omega) (by omega)).mono ⟨fun _ _ _ h => h, fun i => ?_⟩
                  by_cases hi : i = o
                  · subst hi; simp [ObExt]
                  · simp [upd_ne _ _ hi]; exact ObExt.refl _ _
              · by_cases hj2 : j < (m + n) * szOf e
                · refine ⟨vs[j - m * szOf e]'(by omega), ?_, fun hj3 => ?_⟩
                  · have := hin (j - m * szOf e) (by omega)
                    rwa [show (g.L o).off + off + m * szOf e + (j - m * szOf e) = (g.L o).off + off + j by omega] at this
                  · rw [List.getElem_append_right (by omega)]
                    simp only [hcl]
                    refine (hvs (j - m * szOf e) (by omega) (by omega)).mono ⟨fun _ _ _ h => h, fun i => ?_⟩
                    by_cases hi : i = o
                    · subst hi; simp [ObExt]
                    · simp [upd_ne _ _ hi]; exact ObExt.refl _ _
                · obtain ⟨v, hv, _⟩ := k.there (off + j) (by omega)
                  refine ⟨v, ?_, fun hj3 => by omega⟩
                  rw [hout _ (fun _ _ => Or.inr (by simp; omega))]
                  rwa [show (g.L o).off + off + j = (g.L o).off + (off + j) by omega])
            (fun j hj => by
              simp only at hj ⊢
              rw [World.frozen?_setCells]
              have := k.free (off + j) (by omega)
              rwa [show (g.L o).off + off + j = (g.L o).off + (off + j) by omega])
            (fun j hj => by
              simp only at hj ⊢
              have := k.pm (off + j) (by omega)
              rwa [show (g.L o).off + off + j = (g.L o).off + (off + j) by omega])
            (fun j hj => by
              simp only at hj ⊢
              have := k.tm (off + j) (by omega)
              rwa [show (g.L o).off + off + j = (g.L o).off + (off + j) by omega])
            (fun o' ver' cs' ho e' hb j j' hj hj' => by
              rw [upd_ne _ _ ho] at e'
              simp only at hj' hb ⊢
              have := hw.sep o' o _ _ _ _ e' hσ ho hb j (off + j') hj (by omega)
              omega)
          rw [hupd] at w1 w2
          refine Goes.val' hrun w1 (q2.trans w2) ?_
          simp only [ap_some]
          refine .ref hroom rfl ?_
          simp only [RefOK, upd_same]
          exact ⟨Nat.le_refl _, fun _ => ⟨by simp, by rw [hncs]; omega, hroom, by simp; omega⟩⟩
        · -- no room: a new array
          have hso : Src e (.ref o ver off m e) σ m ((cs.drop off).take (m * szOf e)) [o] := ⟨rfl, rfl, rfl, cs, hσ, rfl⟩
          obtain ⟨_, _, vo, o3, o4, o5⟩ := run_firstCells (P := P) hw.drew hs0 hso
          obtain ⟨a1, a2⟩ := VL_app o4 o5 d4 d5
          refine goes_grow (cs := (cs.drop off).take (m * szOf e) ++ cells) (olds := vo) (us := vd) hw ht htx hd he hi hz0 hzl l1 d3 o3 (by omega) hb h63 a1 hncs a2 (fun c cap' k1 k2 k3 k4 => ?_)
          have q1' := q1.drew
          obtain ⟨w1, w2⟩ := q1'.alloc_ob (o := o) (ver := ver + 1) c elem ((cs.drop off).take (m * szOf e) ++ cells) (by simp [ObExt]) k3 (fun j a b => (k4 j a b).mono q2.ext)
          rw [hupd] at w1 w2
          refine ⟨_, w1, q2.trans w2, ?_⟩
          simp only [ap_some]
          refine .ref k1 rfl ?_
          simp only [RefOK, upd_same]
          exact ⟨Nat.le_refl _, fun _ => ⟨by simp, by rw [hncs]; omega, k1, by simpa using k2⟩⟩
    · exact h.elim
end Go.Ab
