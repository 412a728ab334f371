/- append: what it makes of abstract values. -/
import Derived.Test.YtjhhedpgfpcaiaaGreatDoorWlA8
import Derived.MapKept
import Derived.Maps.RangeRun
namespace Go.Ab
set_option linter.constructorNameAsVariable false
set_option linter.unusedSimpArgs false
set_option linter.unusedVariables false
open Go.RowKit
set_option linter.unusedVariables false
set_option linter.unusedSimpArgs false

def StApp (esh : Option Nat) (bytes : Nat) (s x : AV) (σ : Hp) (v : AV) (rd : List Nat) (δ : Option (Nat × Ob)) : Prop :=
  ∃ n cells rdx, Src esh x σ n cells rdx ∧ cells.all AV.one = true ∧
    ((n = 0 ∧ v = s ∧ rd = rdx ∧ δ = none ∧ (match s with | .nils | .sl _ _ _ | .ref _ _ _ _ _ => True | _ => False)) ∨
     (match s with
      | .nils => 0 < n ∧ n * bytes ≤ 140737488355328 ∧ n ≤ 140737488355328 ∧ rd = rdx ∧ StNewSl false esh n cells σ v [] δ
      | .sl true sz xs => 0 < n ∧ sz = szOf esh ∧ (xs.length + n) * bytes ≤ 140737488355328 ∧ xs.length + n ≤ 140737488355328 ∧ rd = rdx ∧ StNewSl false esh (xs.length + n) (xs.flatMap AV.cells ++ cells) σ v [] δ
      | .ref o ver off m e => 0 < n ∧ e = esh ∧ (m + n) * bytes ≤ 140737488355328 ∧ m + n ≤ 140737488355328 ∧ rd = o :: rdx ∧ ∃ cs, σ o = .arr ver cs ∧ v = .ref o (ver + 1) 0 (m + n) esh ∧
          δ = some (o, .arr (ver + 1) ((cs.drop off).take (m * szOf esh) ++ cells))
      | _ => False))

theorem StNewSl.len {ex esh n cs σ v rd δ} (h : StNewSl ex esh n cs σ v rd δ) : n * szOf esh ≤ cs.length := h.2.1

/-- A new array's cells, then zeroes. -/
theorem VL_grown {pm L σ} {cs : List AV} {us : List Value} (hl : us.length = cs.length) (hv : ∀ j (a : j < cs.length) (b : j < us.length), VR pm L σ (cs[j]) (us[j])) (zs : Array Value) :
    cs.length ≤ (us.toArray ++ zs).size ∧ ∀ j (a : j < cs.length) (b : j < (us.toArray ++ zs).size), VR pm L σ (cs[j]) ((us.toArray ++ zs)[j]) := by
  refine ⟨by simp; omega, fun j a b => ?_⟩
  have := hv j a (by omega)
  rw [Array.getElem_append_left (by simp; omega)]
  simpa using this

theorem VL_app {pm L σ} {cs cs' : List AV} {us us' : List Value} (hl : us.length = cs.length) (hv : ∀ j (a : j < cs.length) (b : j < us.length), VR pm L σ (cs[j]) (us[j]))
    (hl' : us'.length = cs'.length) (hv' : ∀ j (a : j < cs'.length) (b : j < us'.length), VR pm L σ (cs'[j]) (us'[j])) :
    (us ++ us').length = (cs ++ cs').length ∧ ∀ j (a : j < (cs ++ cs').length) (b : j < (us ++ us').length), VR pm L σ ((cs ++ cs')[j]) ((us ++ us')[j]) := by
  refine ⟨by simp [hl, hl'], fun j a b => ?_⟩
  by_cases h : j < cs.length
  · rw [List.getElem_append_left h, List.getElem_append_left (by omega)]; exact hv j h (by omega)
  · rw [List.getElem_append_right (by omega), List.getElem_append_right (by omega)]
    simp only [hl]
    exact hv' _ _ _

theorem goes_grow {P g σ w t tx ty elem esh base sLen sCap ux v n d} {cs : List AV} {olds us : List Value} {δ : Option (Nat × Ob)} {z : Value} {inf : TypeInfo} (hw : WRel g σ w)
    (ht : P.underlying t = some (.slice elem)) (htx : P.underlying tx = some d) (hd : (∃ e', d = .slice e') ∨ d = .string) (he : eshOf P elem = some esh) (hi : P.info? elem = some inf) (hz0 : inf.zero = some z) (hzl : z.cells.size = szOf esh)
    (hlen : (Builtin.lenOf ux).run P w = .ok n w) (hf : (Builtin.firstCells (szOf esh) n ux).run P w.drew = .ok us.toArray w.drew)
    (hfo : (Builtin.firstCells (szOf esh) sLen (.slice base sLen sCap)).run P w.drew = .ok olds.toArray w.drew)
    (hroom : sCap < sLen + n) (hbytes : (sLen + n) * inf.bytes ≤ 140737488355328) (h63 : sLen + n ≤ 140737488355328)
    (hl : (olds ++ us).length = cs.length) (hln : cs.length = (sLen + n) * szOf esh) (hv : ∀ j (a : j < cs.length) (b : j < (olds ++ us).length), VR g.pm g.L σ (cs[j]) ((olds ++ us)[j]))
    (K : ∀ (c : Array Value) (cap : Nat), sLen + n ≤ cap → cap * szOf esh ≤ c.size → cs.length ≤ c.size → (∀ j (a : j < cs.length) (b : j < c.size), VR g.pm g.L σ (cs[j]) (c[j])) →
      ∃ g', WRel g' (ap σ δ) (w.drew.alloc (.cells c elem)) ∧ g.le σ g' (ap σ δ) ∧ VR g'.pm g'.L (ap σ δ) v (.slice (some ⟨w.heap.size, 0, none⟩) (sLen + n) cap)) :
    Goes P g σ w (do pure (.value (← Builtin.append_ #[t, tx] ty #[.slice base sLen sCap, ux]))) v δ := by
  have hrun := run_append_grows (ty := ty) ht htx hd he hi hz0 hlen hf hfo hroom hbytes (by omega)
  have hcap := grownCap_ge w (sLen + n) sCap elem
  obtain ⟨k1, k2⟩ := VL_grown (pm := g.pm) (L := g.L) (σ := σ) hl hv (Builtin.zeroCells z.cells (grownCap w (sLen + n) sCap elem - (sLen + n)))
  obtain ⟨g', r1, r2, r3⟩ := K _ (grownCap w (sLen + n) sCap elem) hcap (by
    rw [Array.size_append, size_zeroCells, List.size_toArray, hl, hln, hzl, ← Nat.add_mul]
    exact Nat.mul_le_mul_right _ (by omega)) k1 k2
  exact Goes.val' hrun r1 r2 r3

/-- A list of an object's cells, from a place on, as values. -/
theorem ob_cells {g σ o ver cs} {w : World} (hw : WRel g σ w) (hσ : σ o = .arr ver cs) (off n : Nat) (h : off + n ≤ cs.length) :
    ∃ us : List Value, us.length = n ∧ (∀ j v, us[j]? = some v → w.cell? ((⟨(g.L o).b, (g.L o).off + off, none⟩ : Addr).add j) = some v) ∧
      ∀ j (a : j < ((cs.drop off).take n).length) (b : j < us.length), VR g.pm g.L σ (((cs.drop off).take n)[j]) (us[j]) := by
  have k := hw.ob o ver cs hσ
  have hch : ∀ j, ∃ v, j < cs.length → w.cell? ⟨(g.L o).b, (g.L o).off + j, none⟩ = some v ∧ ∀ hj : j < cs.length, VR g.pm g.L σ (cs[j]) v := fun j => by
    by_cases hj : j < cs.length
    · obtain ⟨v, a, b⟩ := k.there j (by have := k.len; omega); exact ⟨v, fun _ => ⟨a, b⟩⟩
    · exact ⟨undef, fun h => absurd h hj⟩
  have hus := fun j => Classical.choose_spec (hch j)
  refine ⟨(List.range n).map (fun j => Classical.choose (hch (off + j))), by simp, fun j v hj => ?_, fun j a b => ?_⟩
  · rw [List.getElem?_map] at hj
    simp only [Option.map_eq_some_iff] at hj
    obtain ⟨j', hj', rfl⟩ := hj
    obtain ⟨hlt, e2⟩ := List.getElem?_eq_some_iff.1 hj'
    simp at hlt e2
    subst e2
    have := (hus (off + j) (by omega)).1
    rw [Addr.add_lit, ← this]
    congr 2
    omega
  · simp at a b
    have := (hus (off + j) (by omega)).2 (by omega)
    simpa using this

theorem sound_app {P g σ w t tx ty elem esh s x us ux v rd δ d} {z : Value} {inf : TypeInfo} (hw : WRel g σ w)
    (ht : P.underlying t = some (.slice elem)) (htx : P.underlying tx = some d) (hd : (∃ e', d = .slice e') ∨ d = .string) (he : eshOf P elem = some esh) (hi : P.info? elem = some inf) (hz0 : inf.zero = some z) (hzl : z.cells.size = szOf esh)
    (hs : VR g.pm g.L σ s us) (hx : VR g.pm g.L σ x ux) (h : StApp esh inf.bytes s x σ v rd δ) :
    Goes P g σ w (do pure (.value (← Builtin.append_ #[t, tx] ty #[us, ux]))) v δ := by
  obtain ⟨n, cells, rdx, hsrc, hone, h⟩ := h
  obtain ⟨l1, l2, vs, l3, l4, l5⟩ := run_firstCells (P := P) hw hx hsrc
  obtain ⟨_, _, vd, d3, d4, d5⟩ := run_firstCells (P := P) hw.drew hx hsrc
  rcases h with ⟨rfl, rfl, _, rfl, hsl⟩ | h
  · -- nothing is appended
    have hv0 : vs = [] := by
      have : vs.length = 0 := by omega
      exact List.eq_nil_of_length_eq_zero this
    subst hv0
    have key : ∀ base len cap, us = .slice base len cap → len ≤ cap → Goes P g σ w (do pure (.value (← Builtin.append_ #[t, tx] ty #[us, ux]))) v none := fun base len cap e hc => by
      subst e
      have := run_append_fits (ty := ty) (base := base) (sLen := len) (sCap := cap) (w' := w) ht htx hd he l1 l3 (by omega) (by cases base <;> simp [storeCells])
      exact Goes.val hw this hs
    split at hsl
    · cases hs; exact key _ _ _ rfl (Nat.le_refl _)
    · cases hs with
      | slnil => exact key _ _ _ rfl (Nat.le_refl _)
      | slz => exact key _ _ _ rfl (Nat.le_refl _)
      | sl _ hc => exact key _ _ _ rfl hc
    · cases hs with
      | ref hn => exact key _ _ _ rfl hn
      | refz _ _ => exact key _ _ _ rfl (Nat.le_refl _)
    · exact hsl.elim
  · split at h
    · obtain ⟨hn, hb, h63, _, hnew⟩ := h
      cases hs
      refine goes_grow (cs := cells) (olds := []) (us := vd) hw ht htx hd he hi hz0 hzl l1 d3 (by simp [Builtin.firstCells]) (by omega) (by simpa using hb) (by omega) (by simpa using d4) (by simpa using l2) (by simpa using d5) (fun c cap k1 k2 k3 k4 => ?_)
      have := goes_newSl (g := g) (t := elem) (ex := false) (n := 0 + n) (cap := cap) hw.drew k3 k4 k1 k2 (by simp) (by simpa using hnew)
      simpa using this
    · rename_i sz xs
      obtain ⟨hn, rfl, hb, h63, _, hnew⟩ := h
      have hsx : Src esh (.sl true (szOf esh) xs) σ xs.length (xs.flatMap AV.cells) [] := ⟨rfl, rfl, rfl, rfl⟩
      obtain ⟨_, o2, vo, o3, o4, o5⟩ := run_firstCells (P := P) hw.drew hs hsx
      have key : ∀ base, us = .slice base xs.length xs.length → Goes P g σ w (do pure (.value (← Builtin.append_ #[t, tx] ty #[us, ux]))) v δ := fun base e => by
        subst e
        obtain ⟨a1, a2⟩ := VL_app o4 o5 d4 d5
        refine goes_grow (cs := xs.flatMap AV.cells ++ cells) (olds := vo) (us := vd) hw ht htx hd he hi hz0 hzl l1 d3 o3 (by omega) hb h63 a1 (by rw [List.length_append, o2, l2, Nat.add_mul]) a2 (fun c cap k1 k2 k3 k4 => ?_)
        have := goes_newSl (g := g) (t := elem) (ex := false) (n := xs.length + n) (cap := cap) hw.drew k3 k4 k1 k2 (by simp) hnew
        simpa using this
      cases hs with
      | slnil => exact key none rfl
      | slz => exact key _ rfl
      | sl _ hc hex => have := hex rfl; subst this; exact key _ rfl
    · rename_i o ver off m e
      obtain ⟨hn0, rfl, hb, h63, _, cs, hσ, rfl, rfl⟩ := h
      have hs0 := hs
      cases hs with
      | refz hsp hvo =>
        obtain ⟨q1, q2⟩ := hw.drop hσ
        have hupd : ∀ x, upd (upd σ o (.dead ver)) o x = upd σ o x := fun x => by funext i; by_cases h : i = o <;> simp [upd, h]
        have hcl : ((cs.drop off).take (0 * szOf e)).length = 0 := by simp
        have hncs : (((cs.drop off).take (0 * szOf e)) ++ cells).length = (0 + n) * szOf e := by rw [List.length_append, hcl, l2, Nat.zero_add, Nat.zero_add]
        have hso : Src e (.ref o ver off 0 e) σ 0 ((cs.drop off).take (0 * szOf e)) [o] := ⟨rfl, rfl, rfl, cs, hσ, rfl⟩
        obtain ⟨_, _, vo, o3, o4, o5⟩ := run_firstCells (P := P) hw.drew hs0 hso
        obtain ⟨a1, a2⟩ := VL_app o4 o5 d4 d5
        refine goes_grow (cs := (cs.drop off).take (0 * szOf e) ++ cells) (olds := vo) (us := vd) hw ht htx hd he hi hz0 hzl l1 d3 o3 (by omega) hb h63 a1 hncs a2 (fun c cap' k1 k2 k3 k4 => ?_)
        have q1' := q1.drew
        obtain ⟨w1, w2⟩ := q1'.alloc_ob (o := o) (ver := ver + 1) c elem ((cs.drop off).take (0 * szOf e) ++ cells) (by simp [ObExt]) k3 (fun j a b => (k4 j a b).mono q2.ext)
        rw [hupd] at w1 w2
        refine ⟨_, w1, q2.trans w2, ?_⟩
        simp only [ap_some]
        refine .ref k1 rfl ?_
        simp only [RefOK, upd_same]
        exact ⟨Nat.le_refl _, fun _ => ⟨by simp, by rw [hncs]; omega, k1, by simpa using k2⟩⟩
      | ref hnc hsp hr =>
        rename_i a cap
        simp only [RefOK, hσ] at hr
        obtain ⟨_, rfl, r2, r3, r4⟩ : _ ∧ _ := ⟨trivial, hr.2 trivial⟩
        have k := hw.ob o ver cs hσ
        obtain ⟨q1, q2⟩ := hw.drop hσ
        have hvs : ∀ j (a : j < cells.length) (b : j < vs.length), VR g.pm g.L (upd σ o (.dead ver)) (cells[j]) (vs[j]) := fun j a b => (l5 j a b).mono q2.ext
        obtain ⟨uo, uo1, uo2, uo3⟩ := ob_cells hw hσ off (m * szOf e) r2
        have huo : ∀ j (a : j < ((cs.drop off).take (m * szOf e)).length) (b : j < uo.length), VR g.pm g.L (upd σ o (.dead ver)) (((cs.drop off).take (m * szOf e))[j]) (uo[j]) := fun j a b => (uo3 j a b).mono q2.ext
        have hcl : ((cs.drop off).take (m * szOf e)).length = m * szOf e := by simp; omega
        have hncs : (((cs.drop off).take (m * szOf e)) ++ cells).length = (m + n) * szOf e := by rw [List.length_append, hcl, l2, Nat.add_mul]
        have hupd : ∀ x, upd (upd σ o (.dead ver)) o x = upd σ o x := fun x => by funext i; by_cases h : i = o <;> simp [upd, h]
        by_cases hroom : m + n ≤ cap
        · -- room: the cells behind are written
          have hq : (m + n) * szOf e ≤ cap * szOf e := Nat.mul_le_mul_right _ hroom
          have hadd : (m + n) * szOf e = m * szOf e + n * szOf e := Nat.add_mul _ _ _
          have hthere : ∀ j, j < vs.length → (w.cell? ⟨(g.L o).b, (g.L o).off + off + m * szOf e + j, none⟩).isSome = true := fun j hj => by
            obtain ⟨v, hv, _⟩ := k.there (off + m * szOf e + j) (by omega)
            rw [show (g.L o).off + off + m * szOf e + j = (g.L o).off + (off + m * szOf e + j) by omega, hv]; rfl
          have hst := run_storeCells_cells (P := P) (g.L o).b ((g.L o).off + off + m * szOf e) vs 0 w (by simpa using hthere)
            (fun j hj => by
              have := k.free (off + m * szOf e + j) (by omega)
              rwa [show (g.L o).off + off + m * szOf e + 0 + j = (g.L o).off + (off + m * szOf e + j) by omega])
            (fun u hu => by
              obtain ⟨j, hj, rfl⟩ := List.getElem_of_mem hu
              exact (l5 j (by omega) hj).one (List.all_eq_true.1 hone _ (List.getElem_mem _)))
          simp only [Nat.add_zero] at hst
          have hrun := run_append_fits (ty := ty) (base := some ⟨(g.L o).b, (g.L o).off + off, none⟩) (sLen := m) (sCap := cap) ht htx hd he l1 l3 hroom (w' := w.setCells (g.L o).b ((g.L o).off + off + m * szOf e) vs) (by simpa [Addr.add_lit] using hst)
          have hfree := WRel.setCells_free (g := g) (b := (g.L o).b) vs ((g.L o).off + off + m * szOf e) q1 (fun hv => k.low (by omega)) (fun j hj => by
            have e1 : (g.L o).off + off + m * szOf e + j = (g.L o).off + (off + m * szOf e + j) := by omega
            rw [e1]
            refine ⟨k.pm _ (by omega), k.tm _ (by omega), ?_, fun o' ver' cs' e' j' hj' hh => ?_⟩
            · obtain ⟨v, hv, _⟩ := k.there (off + m * szOf e + j) (by omega); exact ⟨v, hv⟩
            · by_cases ho : o' = o
              · subst ho; simp at e'
              · rw [upd_ne _ _ ho] at e'
                exact hw.sep o' o _ _ _ _ e' hσ ho hh.1 j' (off + m * szOf e + j) hj' (by omega) hh.2)
          have hin := World.cell?_setCells_in (g.L o).b vs ((g.L o).off + off + m * szOf e) w hthere
          have hout := World.cell?_setCells_out (g.L o).b vs ((g.L o).off + off + m * szOf e) w
          obtain ⟨w1, w2⟩ := hfree.own (o := o) (l := ⟨(g.L o).b, (g.L o).off + off, (g.L o).cap - off⟩) (ver := ver + 1) (cs := (cs.drop off).take (m * szOf e) ++ cells)
            (by simp [ObExt]) (fun hc => k.low (by simp at hc; omega)) (by rw [hncs]; simp; omega) (fun j hj => by
              simp only at hj ⊢
              by_cases hj1 : j < m * szOf e
              · refine ⟨uo[j]'(by omega), ?_, fun hj2 => ?_⟩
                · rw [hout _ (fun _ _ => Or.inl (by simp; omega))]
                  have := uo2 j (uo[j]'(by omega)) (by simp)
                  rwa [Addr.add_lit] at this
                · rw [List.getElem_append_left (by omega)]
                  refine (huo j (by omega) (by omega)).mono ⟨fun _ _ _ h => h, fun i => ?_⟩
                  by_cases hi : i = o
                  · subst hi; simp [ObExt]
                  · simp [upd_ne _ _ hi]; exact ObExt.refl _ _
              · by_cases hj2 : j < (m + n) * szOf e
                · refine ⟨vs[j - m * szOf e]'(by omega), ?_, fun hj3 => ?_⟩
                  · have := hin (j - m * szOf e) (by omega)
                    rwa [show (g.L o).off + off + m * szOf e + (j - m * szOf e) = (g.L o).off + off + j by omega] at this
                  · rw [List.getElem_append_right (by omega)]
                    simp only [hcl]
                    refine (hvs (j - m * szOf e) (by omega) (by omega)).mono ⟨fun _ _ _ h => h, fun i => ?_⟩
                    by_cases hi : i = o
                    · subst hi; simp [ObExt]
                    · simp [upd_ne _ _ hi]; exact ObExt.refl _ _
                · obtain ⟨v, hv, _⟩ := k.there (off + j) (by omega)
                  refine ⟨v, ?_, fun hj3 => by omega⟩
                  rw [hout _ (fun _ _ => Or.inr (by simp; omega))]
                  rwa [show (g.L o).off + off + j = (g.L o).off + (off + j) by omega])
            (fun j hj => by
              simp only at hj ⊢
              rw [World.frozen?_setCells]
              have := k.free (off + j) (by omega)
              rwa [show (g.L o).off + off + j = (g.L o).off + (off + j) by omega])
            (fun j hj => by
              simp only at hj ⊢
              have := k.pm (off + j) (by omega)
              rwa [show (g.L o).off + off + j = (g.L o).off + (off + j) by omega])
            (fun j hj => by
              simp only at hj ⊢
              have := k.tm (off + j) (by omega)
              rwa [show (g.L o).off + off + j = (g.L o).off + (off + j) by omega])
            (fun o' ver' cs' ho e' hb j j' hj hj' => by
              rw [upd_ne _ _ ho] at e'
              simp only at hj' hb ⊢
              have := hw.sep o' o _ _ _ _ e' hσ ho hb j (off + j') hj (by omega)
              omega)
          rw [hupd] at w1 w2
          refine Goes.val' hrun w1 (q2.trans w2) ?_
          simp only [ap_some]
          refine .ref hroom rfl ?_
          simp only [RefOK, upd_same]
          exact ⟨Nat.le_refl _, fun _ => ⟨by simp, by rw [hncs]; omega, hroom, by simp; omega⟩⟩
        · -- no room: a new array
          have hso : Src e (.ref o ver off m e) σ m ((cs.drop off).take (m * szOf e)) [o] := ⟨rfl, rfl, rfl, cs, hσ, rfl⟩
          obtain ⟨_, _, vo, o3, o4, o5⟩ := run_firstCells (P := P) hw.drew hs0 hso
          obtain ⟨a1, a2⟩ := VL_app o4 o5 d4 d5
          refine goes_grow (cs := (cs.drop off).take (m * szOf e) ++ cells) (olds := vo) (us := vd) hw ht htx hd he hi hz0 hzl l1 d3 o3 (by omega) hb h63 a1 hncs a2 (fun c cap' k1 k2 k3 k4 => ?_)
          have q1' := q1.drew
          obtain ⟨w1, w2⟩ := q1'.alloc_ob (o := o) (ver := ver + 1) c elem ((cs.drop off).take (m * szOf e) ++ cells) (by simp [ObExt]) k3 (fun j a b => (k4 j a b).mono q2.ext)
          rw [hupd] at w1 w2
          refine ⟨_, w1, q2.trans w2, ?_⟩
          simp only [ap_some]
          refine .ref k1 rfl ?_
          simp only [RefOK, upd_same]
          exact ⟨Nat.le_refl _, fun _ => ⟨by simp, by rw [hncs]; omega, k1, by simpa using k2⟩⟩
    · exact h.elim
end Go.Ab
/- copy, bytes and strings, equality of structs, the least and the greatest. -/
namespace Go.Ab
set_option linter.constructorNameAsVariable false
set_option linter.unusedSimpArgs false
set_option linter.unusedVariables false
open Go.RowKit
set_option linter.unusedVariables false
set_option linter.unusedSimpArgs false

/-! ### copy -/
def StCpy (esh : Option Nat) (s x : AV) (σ : Hp) (v : AV) (rd : List Nat) (δ : Option (Nat × Ob)) : Prop :=
  ∃ n cells rdx, Src esh x σ n cells rdx ∧ cells.all AV.one = true ∧
    match s with
    | .ref o ver off m e => e = esh ∧ n ≤ m ∧ v = .int .i64 n ∧ rd = rdx ∧ ∃ cs, σ o = .arr ver cs ∧ δ = some (o, .arr ver (splice cs off cells))
    | .nils => n = 0 ∧ v = .int .i64 0 ∧ rd = rdx ∧ δ = none
    | _ => False

theorem sound_cpy {P g σ w t tx ty elem esh s x us ux v rd δ} (hw : WRel g σ w)
    (ht : P.underlying t = some (.slice elem)) (he : eshOf P elem = some esh)
    (hs : VR g.pm g.L σ s us) (hx : VR g.pm g.L σ x ux) (h : StCpy esh s x σ v rd δ) :
    Goes P g σ w (do pure (.value (← Builtin.copy_ #[t, tx] ty #[us, ux]))) v δ := by
  obtain ⟨n, cells, rdx, hsrc, hone, h⟩ := h
  obtain ⟨l1, l2, vs, l3, l4, l5⟩ := run_firstCells (P := P) hw hx hsrc
  obtain ⟨inf, hi, hsz⟩ := eshOf_info he
  have h3 := run_sizeOf (P := P) hi w
  rw [hsz] at h3
  split at h
  · rename_i o ver off m e
    obtain ⟨rfl, hnm, rfl, _, cs, hσ, rfl⟩ := h
    cases hs with
    | refz hsp hvo =>
      have hn0 : n = 0 := by omega
      subst hn0
      have hvs : vs = [] := List.eq_nil_of_length_eq_zero (by omega)
      have hce : cells = [] := List.eq_nil_of_length_eq_zero (by omega)
      subst hvs
      subst hce
      have hup : upd σ o (.arr ver (splice cs off [])) = σ := by funext i; by_cases h : i = o <;> simp [upd, h, hσ, splice]
      refine Goes.val' (u := .int .i64 0) (w' := w) (g' := g) ?_ (by simp only [ap_some, hup]; exact hw) (by simp only [ap_some, hup]; exact Gh.le.refl _ _) .int
      have hmin : Nat.min 0 0 = 0 := rfl
      simp [Builtin.copy_, run_underlying ht, l1, hmin, h3, l3, goInt, storeCells]
    | ref hnc hsp hr =>
      rename_i a cap
      simp only [RefOK, hσ] at hr
      obtain ⟨_, rfl, r2, r3, r4⟩ : _ ∧ _ := ⟨trivial, hr.2 trivial⟩
      have k := hw.ob o ver cs hσ
      have hle : n * szOf e ≤ m * szOf e := Nat.mul_le_mul_right _ hnm
      have hst := WRel.stores cells vs hw hσ off (by have := k.len; omega) l4 l5
      have hrun := run_storeCells_cells (P := P) (g.L o).b ((g.L o).off + off) vs 0 w (fun j hj => by
          obtain ⟨v, hv, _⟩ := k.there (off + j) (by have := k.len; omega)
          rw [show (g.L o).off + off + 0 + j = (g.L o).off + (off + j) by omega, hv]; rfl) (fun j hj => by
          have := k.free (off + j) (by have := k.len; omega)
          rwa [show (g.L o).off + off + 0 + j = (g.L o).off + (off + j) by omega]) (fun u hu => by
              obtain ⟨j, hj, rfl⟩ := List.getElem_of_mem hu
              exact (l5 j (by omega) hj).one (List.all_eq_true.1 hone _ (List.getElem_mem _)))
      simp only [Nat.add_zero] at hrun
      refine Goes.val' (u := .int .i64 n) ?_ hst.1 hst.2 .int
      have hmin : Nat.min n m = n := Nat.min_eq_left hnm
      simp [Builtin.copy_, run_underlying ht, l1, hmin, h3, l3, hrun, goInt]
  · obtain ⟨rfl, rfl, _, rfl⟩ := h
    cases hs
    refine Goes.val hw (u := .int .i64 0) ?_ .int
    have : vs = [] := by
      have : vs.length = 0 := by omega
      exact List.eq_nil_of_length_eq_zero this
    subst this
    have hmin : Nat.min 0 0 = 0 := rfl
    simp [Builtin.copy_, run_underlying ht, l1, h3, goInt, l3]
  · exact h.elim

/-! ### bytes and strings -/
theorem foldl_push : ∀ (l : List UInt8) (s : ByteArray), (l.map (fun b => (b.toNat : Int))).foldl (fun r n => r.push (UInt8.ofNat n.toNat)) s = ⟨s.data ++ l.toArray⟩
  | [], s => by cases s; simp
  | b :: l, s => by
    simp only [List.map_cons, List.foldl_cons]
    rw [foldl_push l]
    cases s
    simp [ByteArray.push, UInt8.ofNat_toNat]

def StB2s (x : AV) (σ : Hp) (v : AV) (rd : List Nat) : Prop :=
  ∃ n s, Src none x σ n (strCells s) rd ∧ (match x with | .str _ => False | _ => True) ∧ v = .str s

theorem strCells_length (s : ByteArray) : (strCells s).length = s.size := by simp [strCells]

theorem sound_b2s {P g σ w src dst e x u v rd} (hw : WRel g σ w) (hs : P.underlying src = some (.slice e)) (he : P.underlying e = some (.int .u8)) (hd : P.underlying dst = some .string)
    (hx : VR g.pm g.L σ x u) (h : StB2s x σ v rd) : Goes P g σ w (do pure (.value (← convert src dst u))) v none := by
  obtain ⟨n, s, hsrc, hns, rfl⟩ := h
  obtain ⟨l1, l2, vs, l3, l4, l5⟩ := run_firstCells (P := P) hw hx hsrc
  simp only [szOf, Option.getD_none, Nat.mul_one] at l2 l3
  rw [strCells_length] at l2 l4
  have hvs : vs = (s.data.toList.map (fun b => (b.toNat : Int))).map (Value.int .u8) := by
    apply List.ext_getElem
    · simp [l4]
    · intro j h1 h2
      have := l5 j (by rw [strCells_length]; omega) h1
      simp only [strCells, List.getElem_map] at this
      simp only [List.getElem_map]
      generalize vs[j] = q at this
      cases this
      rfl
  have hfold : (s.data.toList.map (fun b => (b.toNat : Int))).foldl (fun r n => r.push (UInt8.ofNat n.toNat)) ByteArray.empty = s := by
    rw [foldl_push]
    cases s
    simp [ByteArray.empty, ByteArray.emptyWithCapacity]
    rfl
  have key : ∀ a len cap, u = .slice a len cap → Goes P g σ w (do pure (.value (← convert src dst u))) (.str s) none := fun a len cap e1 => by
    subst e1
    refine Goes.val hw (u := .string s) ?_ .str
    rw [run_convert_bytes_string w src dst e a len cap hs he hd]
    simp [Builtin.lenOf] at l1
    subst l1
    cases a with
    | none =>
      have : s = ByteArray.empty := by
        simp [Builtin.firstCells] at l3
        subst l3
        simp at l4
        have h0 : s.data.toList = [] := by
          apply List.eq_nil_of_length_eq_zero
          simpa using l4.symm
        rw [h0] at hfold
        exact hfold.symm
      subst this
      simp [Conv.bytesToString]
    | some a =>
      have := run_bytesToString (P := P) w a len cap (s.data.toList.map (fun b => (b.toNat : Int))) (by rw [← hvs]; simpa [Builtin.firstCells] using l3)
      rw [this, hfold]
  unfold Src at hsrc
  split at hsrc
  · cases hx; exact key _ _ _ rfl
  · cases hx <;> exact key _ _ _ rfl
  · cases hx <;> exact key _ _ _ rfl
  · cases hx <;> exact key _ _ _ rfl
  · exact hns.elim
  · exact hsrc.elim

/-- A byte slice that a string's bytes were laid into: told for good. -/
def StS2b (x v : AV) : Prop :=
  match x with
  | .str s => v = .sl false 1 (strCells s)
  | _ => False

theorem strCells_one (s : ByteArray) : (strCells s).all AV.one = true := by
  rw [List.all_eq_true]
  intro x hx
  simp only [strCells, List.mem_map] at hx
  obtain ⟨_, _, rfl⟩ := hx
  rfl

theorem sound_s2b {P g σ w src dst e x u v} (hw : WRel g σ w) (hs : P.underlying src = some .string) (he : P.underlying e = some (.int .u8)) (hd : P.underlying dst = some (.slice e))
    (hx : VR g.pm g.L σ x u) (h : StS2b x v) : Goes P g σ w (do pure (.value (← convert src dst u))) v none := by
  unfold StS2b at h
  split at h
  · rename_i s
    subst h
    cases hx
    have hcap : s.size ≤ grownCap w s.size 0 e := grownCap_ge w s.size 0 e
    have hcs : (bytesRow s (grownCap w s.size 0 e)).size = grownCap w s.size 0 e := by simp [bytesRow]; omega
    obtain ⟨g', h1, h2, h3⟩ := hw.drew.alloc_tell (bytesRow s (grownCap w s.size 0 e)) e ((bytesRow s (grownCap w s.size 0 e)).size, (bytesRow s (grownCap w s.size 0 e)).size + 1)
    refine Goes.val' (run_bytes_of_string w src dst e s hs hd he) h1 h2 ?_
    have hpm : ∀ j, j < s.size → g'.pm w.heap.size (0 + j) = some (.int .u8 (s.data.getD j 0).toNat) := fun j hj => by
      have := h3 j (by omega)
      rw [Nat.zero_add]
      have hj' : j < s.data.size := by simpa using hj
      have e2 : g'.pm w.heap.size j = some ((bytesRow s (grownCap w s.size 0 e))[j]'(by omega)) := this
      rw [e2]
      simp only [bytesRow]
      rw [Array.getElem_append_left (by simpa using hj')]
      simp only [Array.getElem_map, Array.getD_eq_getD_getElem?, Array.getElem?_eq_getElem hj', Option.getD_some]
    have := VR.told (pm := g'.pm) (L := g'.L) (σ := ap σ none) (esh := none) (k := s.size) (cap := grownCap w s.size 0 e) (cs := strCells s) (b := w.heap.size) (o := 0) (us := fun j => .int .u8 (s.data.getD j 0).toNat) (ex := false)
      (by simp [szOf, strCells_length]) (strCells_one s) (fun j hj => hpm j (by simpa [szOf] using hj)) (fun j hj _ => by
        have hj' : j < s.data.size := by simpa [strCells] using hj
        simp only [strCells, List.getElem_map, Array.getElem_toList, Array.getD_eq_getD_getElem?, Array.getElem?_eq_getElem hj', Option.getD_some]
        exact .int) hcap (by simp)
    simpa [elemsOf, szOf, ← strCells_length] using this
  · exact h.elim

/-! ### the least and the greatest -/
def StMin (mx : Bool) (x y v : AV) : Prop :=
  match x, y with
  | .int k a, .int _ b => v = .int k (if mx then (if b > a then b else a) else (if b < a then b else a))
  | _, _ => False

theorem sound_min {P g σ w ts ty x y ux uy v} (hw : WRel g σ w) (hx : VR g.pm g.L σ x ux) (hy : VR g.pm g.L σ y uy) (h : StMin false x y v) :
    Goes P g σ w (do pure (.value (← Builtin.min_ ts ty #[ux, uy]))) v none := by
  unfold StMin at h
  split at h
  · cases hx; cases hy; subst h
    exact Goes.val hw (run_min_int2 w ts ty _ _ _ _) .int
  · exact h.elim

theorem sound_max {P g σ w ts ty x y ux uy v} (hw : WRel g σ w) (hx : VR g.pm g.L σ x ux) (hy : VR g.pm g.L σ y uy) (h : StMin true x y v) :
    Goes P g σ w (do pure (.value (← Builtin.max_ ts ty #[ux, uy]))) v none := by
  unfold StMin at h
  split at h
  · cases hx; cases hy; subst h
    exact Goes.val hw (run_max_int2 w ts ty _ _ _ _) .int
  · exact h.elim

/-! ### equality of flat structs -/
inductive FK where
  | int | bool | str
  deriving DecidableEq

def fkOf (P : Program) (t : TypeId) : Option FK :=
  match P.underlying t with
  | some (.int _) => some .int
  | some .bool => some .bool
  | some .string => some .str
  | _ => none

def flatFields (P : Program) : Nat → List Field → List FK → Bool
  | _, [], [] => true
  | i, f :: r, k :: ks => f.offset == i && f.name != "_" && fkOf P f.type == some k && eshOf P f.type == some none && flatFields P (i + 1) r ks
  | _, _, _ => false

/-- Of these kinds in every cell. -/
def alike : List FK → List AV → List AV → Bool
  | [], [], [] => true
  | .int :: ks, .int k _ :: xs, .int k' _ :: ys => k == k' && alike ks xs ys
  | .bool :: ks, .bool _ :: xs, .bool _ :: ys => alike ks xs ys
  | .str :: ks, .str _ :: xs, .str _ :: ys => alike ks xs ys
  | _, _, _ => false

theorem run_eqFields {P : Program} {pm L σ} {us vs : Array Value} (w : World) (d : Nat) : ∀ (fs : List Field) (ks : List FK) (xs ys : List AV) (i : Nat),
    (us.size = i + xs.length ∧ ∀ j (h : j < xs.length) (h' : i + j < us.size), VR pm L σ (xs[j]) (us[i + j])) →
    (vs.size = i + ys.length ∧ ∀ j (h : j < ys.length) (h' : i + j < vs.size), VR pm L σ (ys[j]) (vs[i + j])) →
    flatFields P i fs ks = true → alike ks xs ys = true → (Op.eqFields (d + 1) us vs fs).run P w = .ok (sameAll xs ys) w
  | [], ks, xs, ys, i, hx, hy, hf, ha => by
    cases ks <;> simp [flatFields] at hf
    cases xs <;> cases ys <;> simp [alike] at ha
    simp [Op.eqFields, sameAll]
  | f :: fs, ks, xs, ys, i, hx, hy, hf, ha => by
    cases ks with
    | nil => simp [flatFields] at hf
    | cons k ks =>
      simp only [flatFields, Bool.and_eq_true, beq_iff_eq, bne_iff_ne] at hf
      obtain ⟨⟨⟨⟨rfl, hname⟩, hty⟩, hesh⟩, hr⟩ := hf
      cases xs with
      | nil => cases k <;> simp [alike] at ha
      | cons a xs =>
        cases ys with
        | nil => cases k <;> cases a <;> simp [alike] at ha
        | cons b ys =>
          obtain ⟨hx1, hx2⟩ := hx
          obtain ⟨hy1, hy2⟩ := hy
          simp at hx1 hy1
          have hlu : f.offset < us.size := by omega
          have hlv : f.offset < vs.size := by omega
          have hru := hx2 0 (by simp) (by omega)
          have hrv := hy2 0 (by simp) (by omega)
          simp at hru hrv
          have hal : alike ks xs ys = true := by
            cases k <;> cases a <;> first | (simp only [alike, Bool.false_eq_true] at ha; done) | (cases b <;> first | (simp only [alike, Bool.false_eq_true] at ha; done) | (simp only [alike, Bool.and_eq_true] at ha; exact ha.2) | (simp only [alike] at ha; exact ha))
          have ih := run_eqFields (P := P) (us := us) (vs := vs) w d fs ks xs ys (f.offset + 1) ⟨by omega, fun j h h' => by
              have := hx2 (j + 1) (by simpa using h) (by omega)
              simpa [Nat.add_assoc, Nat.add_comm 1] using this⟩ ⟨by omega, fun j h h' => by
              have := hy2 (j + 1) (by simpa using h) (by omega)
              simpa [Nat.add_assoc, Nat.add_comm 1] using this⟩ hr hal
          have hu : (part f.type us f.offset).run P w = .ok us[f.offset] w := by simp [part, run_isAgg hesh, hlu]
          have hv : (part f.type vs f.offset).run P w = .ok vs[f.offset] w := by simp [part, run_isAgg hesh, hlv]
          generalize us[f.offset] = u at hru hu
          generalize vs[f.offset] = v at hrv hv
          have heq : (Op.equalIn (d + 1) f.type u v).run P w = .ok (a.same b) w := by
            unfold fkOf at hty
            cases k
            · cases a <;> cases b <;> simp [alike] at ha
              obtain ⟨rfl, _⟩ := ha
              cases hru; cases hrv
              split at hty <;> first | (cases hty; done) | skip
              rename_i hut
              simp only [AV.same, beq_self_eq_true, Bool.true_and]
              exact run_equalIn_int (P := P) w d f.type _ _ _ _ hut
            · cases a <;> cases b <;> simp [alike] at ha
              cases hru; cases hrv
              split at hty <;> first | (cases hty; done) | skip
              rename_i hut
              exact run_equalIn_bool w d f.type _ _ hut
            · cases a <;> cases b <;> simp [alike] at ha
              cases hru; cases hrv
              split at hty <;> first | (cases hty; done) | skip
              rename_i hut
              exact run_equalIn_string w d f.type _ _ hut
          simp only [Op.eqFields, ne_eq, hname, not_false_eq_true, if_true, Sem.run_bind, hu, hv, Result.andThen_ok, heq, sameAll]
          cases hab : a.same b
          · simp
          · simpa using ih

def StEqs (ks : List FK) (op : BinOp) (x y v : AV) : Prop :=
  match x, y with
  | .agg xs, .agg ys => alike ks xs ys = true ∧ eqOf op (sameAll xs ys) = some v
  | _, _ => False

theorem sound_eqs {P g σ w ks op xt x y ux uy v} {ox oy : Operand} {fields : Array Field} (hw : WRel g σ w) (ht : P.underlying xt = some (.struct fields)) (hk : flatFields P 0 fields.toList ks = true) (hs : P.stoodInHeld xt = false) (hg : P.eqGuardType P.depth xt = false)
    (hx : VR g.pm g.L σ x ux) (hy : VR g.pm g.L σ y uy) (h : StEqs ks op x y v) :
    Goes P g σ w (do pure (.value (← (do eqGuard op xt ox oy ux uy; binOp op xt ux uy)))) v none := by
  unfold StEqs at h
  split at h
  · obtain ⟨ha, h⟩ := h
    cases hx with
    | agg hlx hvx =>
      cases hy with
      | agg hly hvy =>
        have hfo : P.fieldsOf xt = fields := by simp [Program.fieldsOf, ht]
        rename_i us vs
        have hq := run_equalIn_struct (P := P) w 9999 xt us vs (by rw [hfo]; exact ht) hs
        have hr := run_eqFields (P := P) w 9998 fields.toList ks _ _ 0 ⟨by rw [hlx]; omega, fun j h h' => by simpa using hvx j h (by omega)⟩ ⟨by rw [hly]; omega, fun j h h' => by simpa using hvy j h (by omega)⟩ hk ha
        obtain ⟨h1, h2⟩ := run_eqOf (P := P) (t := xt) (x := .agg _) (y := .agg _) w h trivial (by rw [Op.equal]; exact (by rw [hfo] at hq; exact hq.trans hr))
        exact Goes.val hw (u := v.val1) (by simp [run_eqGuard_agg w op xt ox oy _ _ hg, h1]) (VR.val1 h2)
  · exact h.elim
end Go.Ab
/- More operations: an interface's value taken as what it is, a slice of an array behind a pointer, cells made zero. -/
namespace Go.Ab
set_option linter.constructorNameAsVariable false
set_option linter.unusedSimpArgs false
set_option linter.unusedVariables false
open Go.RowKit
set_option linter.unusedVariables false
set_option linter.unusedSimpArgs false

def StTas (t : TypeId) (x v : AV) : Prop := match x with | .iface t' v0 => t' = t ∧ v = v0 | _ => False

theorem sound_tas {P : Program} {g σ} {w : World} {xt t d x u v} (hw : WRel g σ w) (hd : P.underlying t = some d) (hni : ∀ ms, d ≠ .interface ms) (hx : VR g.pm g.L σ x u) (h : StTas t x v) :
    Goes P g σ w (do pure (.value (← Instr.typeAssert u xt t false))) v none := by
  unfold StTas at h
  split at h
  · obtain ⟨rfl, rfl⟩ := h
    cases hx with
    | iface hv =>
      rename_i u
      refine Goes.val hw (u := u) ?_ hv
      have hi := hni
      cases d <;> first
        | exact (hi _ rfl).elim
        | simp [Instr.typeAssert, run_underlying hd]
  · exact h.elim

def StSlp (n : Nat) (esh : Option Nat) (x : AV) (lo hi : Option AV) (σ : Hp) (v : AV) (rd : List Nat) : Prop :=
  match x with
  | .ptr o ver off => rd = [o] ∧ ∃ cs l h, σ o = .arr ver cs ∧ loN lo = some l ∧ hiN n hi = some h ∧ l ≤ h ∧ h ≤ n ∧ (l = 0 ∨ l < n) ∧ off + n * szOf esh ≤ cs.length ∧ v = .ref o ver (off + l * szOf esh) (h - l) esh
  | _ => False

theorem sound_slp {P : Program} {g σ} {w : World} {t elem n esh x ux lo hi lo' hi' v rd} (hw : WRel g σ w) (ht : P.underlying t = some (.array n elem)) (he : eshOf P elem = some esh)
    (hx : VR g.pm g.L σ x ux) (hlo : OVR g σ lo lo') (hhi : OVR g σ hi hi') (h : StSlp n esh x lo hi σ v rd) :
    Goes P g σ w (do pure (.value (← Instr.sliceAt t ux lo' hi' none))) v none := by
  obtain ⟨inf, hinf, hsz⟩ := eshOf_info he
  unfold StSlp at h
  split at h
  · rename_i o ver off
    obtain ⟨_, cs, l, h, hσ, e1, e2, h1, h2, h3, h4, rfl⟩ := h
    cases hx with
    | ptr hp =>
      rename_i a
      simp only [PtrOK, hσ] at hp
      have ea := hp.2 trivial
      subst ea
      have hb := run_bounds (P := P) false hlo hhi e1 e2 h1 h2 (Nat.le_refl n) w
      have hadd : (if n = l then (⟨(g.L o).b, (g.L o).off + off, none⟩ : Addr) else Addr.add ⟨(g.L o).b, (g.L o).off + off, none⟩ (l * szOf esh)) = ⟨(g.L o).b, (g.L o).off + (off + l * szOf esh), none⟩ := by
        split
        · have : l = 0 := by omega
          subst this; simp
        · rw [Addr.add_lit]; congr 1; omega
      refine Goes.val hw (u := .slice (some ⟨(g.L o).b, (g.L o).off + (off + l * szOf esh), none⟩) (h - l) (n - l)) ?_ ?_
      · rw [← hadd]
        simp [Instr.sliceAt, run_underlying ht, hb, run_sizeOf hinf, hsz, Instr.sureAddr, asAddr]
      · refine .ref (by omega) rfl ?_
        simp only [RefOK, hσ]
        have k := (hw.ob o ver cs hσ).len
        have q1 : l * szOf esh + (h - l) * szOf esh ≤ n * szOf esh := by rw [← Nat.add_mul]; exact Nat.mul_le_mul_right _ (by omega)
        have q2 : l * szOf esh + (n - l) * szOf esh = n * szOf esh := by rw [← Nat.add_mul]; congr 1; omega
        exact ⟨Nat.le_refl _, fun _ => ⟨trivial, by omega, by omega, by omega⟩⟩
  · exact h.elim

def StClr (esh : Option Nat) (z : List AV) (x : AV) (σ : Hp) (v : AV) (rd : List Nat) (δ : Option (Nat × Ob)) : Prop :=
  rd = [] ∧ v = .tup [] ∧
  match x with
  | .nils => δ = none
  | .ref o ver off n e => e = esh ∧ z.all AV.one = true ∧ ∃ cs, σ o = .arr ver cs ∧ δ = some (o, .arr ver (splice cs off (repl n z)))
  | _ => False

theorem sound_clr {P : Program} {g σ} {w : World} {t elem esh ty x ux v rd δ} {z : Value} {inf : TypeInfo} {zc : List AV} (hw : WRel g σ w) (ht : P.underlying t = some (.slice elem)) (he : eshOf P elem = some esh) (hi : P.info? elem = some inf) (hz : inf.zero = some z) (hzc : ofLits z.cells.toList = some zc)
    (hzl : zc.length = szOf esh) (hx : VR g.pm g.L σ x ux) (h : StClr esh zc x σ v rd δ) :
    Goes P g σ w (do pure (.value (← Builtin.clear_ #[t] ty #[ux]))) v δ := by
  obtain ⟨_, rfl, h⟩ := h
  have hzr : (zeroValue elem).run P w = .ok z w := by simp [zeroValue, typeInfo, hi, hz]
  split at h
  · subst h
    cases hx
    exact Goes.val hw (u := .tuple #[]) (by simp [Builtin.clear_, run_underlying ht]) (.tup rfl (by simp))
  · rename_i o ver off n e
    obtain ⟨rfl, hone, cs, hσ, rfl⟩ := h
    cases hx with
    | refz hsp hvo =>
      have hup : upd σ o (.arr ver (splice cs off (repl 0 zc))) = σ := by funext i; by_cases h : i = o <;> simp [upd, h, hσ, repl, splice]
      refine Goes.val' (u := .tuple #[]) (w' := w) (g' := g) ?_ (by simp only [ap_some, hup]; exact hw) (by simp only [ap_some, hup]; exact Gh.le.refl _ _) (.tup rfl (by simp))
      simp [Builtin.clear_, run_underlying ht]
    | ref hnc hsp hr =>
      rename_i a cap
      simp only [RefOK, hσ] at hr
      obtain ⟨_, rfl, r2, r3, r4⟩ : _ ∧ _ := ⟨trivial, hr.2 trivial⟩
      have k := hw.ob o ver cs hσ
      have hvl := VL_made (pm := g.pm) (L := g.L) (σ := σ) hzc n
      have hzs : z.cells.size = zc.length := by have := (ofLits_VR (pm := g.pm) (L := g.L) (σ := σ) hzc).1; simpa using this
      have hlen : (repl n zc).length = n * szOf e := by rw [repl_length, hzl]
      have hvs : ((Array.range (n * zc.length)).map (z.cells[· % z.cells.size]!)).toList.length = (repl n zc).length := by simp [repl_length]
      have hrone : ∀ j (h : j < (repl n zc).length), (repl n zc)[j].one = true := fun j hj => by
        have hm : j % zc.length < zc.length := Nat.mod_lt _ (by rcases Nat.eq_zero_or_pos zc.length with h | h; · rw [repl_length, h] at hj; simp at hj
                                                                · exact h)
        rw [repl_get n zc j hj hm]
        exact List.all_eq_true.1 hone _ (List.getElem_mem _)
      have hvv : ∀ j (h1 : j < (repl n zc).length) (h2 : j < ((Array.range (n * zc.length)).map (z.cells[· % z.cells.size]!)).toList.length), VR g.pm g.L σ ((repl n zc)[j]) (((Array.range (n * zc.length)).map (z.cells[· % z.cells.size]!)).toList[j]) := fun j h1 h2 => by
        have := hvl.2 j h1 (by simpa using h2)
        simpa using this
      have hst := WRel.stores (repl n zc) ((Array.range (n * zc.length)).map (z.cells[· % z.cells.size]!)).toList hw hσ off (by have := k.len; omega) hvs hvv
      have hrun := run_storeCells_cells (P := P) (g.L o).b ((g.L o).off + off) ((Array.range (n * zc.length)).map (z.cells[· % z.cells.size]!)).toList 0 w (fun j hj => by
          obtain ⟨v, hv, _⟩ := k.there (off + j) (by have := k.len; omega)
          rw [show (g.L o).off + off + 0 + j = (g.L o).off + (off + j) by omega, hv]; rfl) (fun j hj => by
          have := k.free (off + j) (by have := k.len; omega)
          rwa [show (g.L o).off + off + 0 + j = (g.L o).off + (off + j) by omega]) (fun u hu => by
              obtain ⟨j, hj, rfl⟩ := List.getElem_of_mem hu
              exact (hvv j (by omega) hj).one (hrone j (by omega)))
      simp only [Nat.add_zero] at hrun
      refine Goes.val' (u := .tuple #[]) ?_ hst.1 hst.2 (.tup rfl (by simp))
      cases n with
      | zero =>
        have hw0 : w.setCells (g.L o).b ((g.L o).off + off) ((Array.range (0 * zc.length)).map (z.cells[· % z.cells.size]!)).toList = w := by simp [World.setCells]
        rw [hw0]
        simp [Builtin.clear_, run_underlying ht]
      | succ n =>
        have hz2 : Builtin.zeroCells z.cells (n + 1) = (Array.range ((n + 1) * zc.length)).map (z.cells[· % z.cells.size]!) := by
          simp only [Builtin.zeroCells, hzs]
        have hrun' : (storeCells ⟨(g.L o).b, (g.L o).off + off, none⟩ (Builtin.zeroCells z.cells (n + 1)).toList).run P w = .ok () (w.setCells (g.L o).b ((g.L o).off + off) ((Array.range ((n + 1) * zc.length)).map (z.cells[· % z.cells.size]!)).toList) := by
          rw [hz2]; exact hrun
        simp only [Builtin.clear_]
        simp [run_underlying ht, hzr, hrun']
  · exact h.elim

/-- copy, of a longer slice into a shorter one. -/
def StCpyT (esh : Option Nat) (s x : AV) (σ : Hp) (v : AV) (rd : List Nat) (δ : Option (Nat × Ob)) : Prop :=
  ∃ o ver off m o' ver' off' k cells, s = .ref o ver off m esh ∧ x = .ref o' ver' off' k esh ∧ m ≤ k ∧ Src esh (.ref o' ver' off' m esh) σ m cells rd ∧ cells.all AV.one = true ∧ v = .int .i64 m ∧
    ∃ cs, σ o = .arr ver cs ∧ δ = some (o, .arr ver (splice cs off cells))

theorem VR.refcut {pm L σ o ver off n m esh a cap} (h : VR pm L σ (.ref o ver off n esh) (.slice (some a) n cap)) (hm : m ≤ n) : VR pm L σ (.ref o ver off m esh) (.slice (some a) m cap) := by
  cases h with
  | refz hs hr =>
    obtain rfl : m = 0 := by omega
    exact .refz hs hr
  | ref hn hs hr =>
    refine .ref (by omega) hs ?_
    unfold RefOK at hr ⊢
    split at hr
    · exact hr.elim
    · exact hr
    · have := Nat.mul_le_mul_right (szOf esh) hm
      exact ⟨hr.1, fun e => by obtain ⟨h1, h2, h3, h4⟩ := hr.2 e; exact ⟨h1, by omega, by omega, h4⟩⟩
    · exact hr.elim
    · trivial

theorem sound_cpyT {P : Program} {g σ} {w : World} {t tx ty elem esh s x us ux v rd δ} (hw : WRel g σ w)
    (ht : P.underlying t = some (.slice elem)) (he : eshOf P elem = some esh)
    (hs : VR g.pm g.L σ s us) (hx : VR g.pm g.L σ x ux) (h : StCpyT esh s x σ v rd δ) :
    Goes P g σ w (do pure (.value (← Builtin.copy_ #[t, tx] ty #[us, ux]))) v δ := by
  obtain ⟨o, ver, off, m, o', ver', off', k, cells, rfl, rfl, hmk, hsrc, hone, rfl, cs, hσ, rfl⟩ := h
  obtain ⟨inf, hi, hsz⟩ := eshOf_info he
  have h3 := run_sizeOf (P := P) hi w
  rw [hsz] at h3
  have hx0 := hx
  cases hx with
  | refz hs2 hr2 =>
    have hm0 : m = 0 := by omega
    subst hm0
    have hx' := hx0.refcut (m := 0) hmk
    obtain ⟨l1, l2, vs, l3, l4, l5⟩ := run_firstCells (P := P) hw hx' hsrc
    have hce : cells = [] := List.eq_nil_of_length_eq_zero (by omega)
    subst hce
    have hvs : vs = [] := List.eq_nil_of_length_eq_zero (by omega)
    subst hvs
    have hup : upd σ o (.arr ver (splice cs off [])) = σ := by funext i; by_cases h : i = o <;> simp [upd, h, hσ, splice]
    have hmin : Nat.min 0 0 = 0 := rfl
    cases hs with
    | refz hsp hvo =>
      refine Goes.val' (u := .int .i64 0) (w' := w) (g' := g) ?_ (by simp only [ap_some, hup]; exact hw) (by simp only [ap_some, hup]; exact Gh.le.refl _ _) .int
      simp [Builtin.copy_, run_underlying ht, l1, hmin, h3, l3, goInt, storeCells]
    | ref hnc hsp hr =>
      refine Goes.val' (u := .int .i64 0) (w' := w) (g' := g) ?_ (by simp only [ap_some, hup]; exact hw) (by simp only [ap_some, hup]; exact Gh.le.refl _ _) .int
      simp [Builtin.copy_, run_underlying ht, l1, hmin, h3, l3, goInt, storeCells]
  | ref hn2 hs2 hr2 =>
    rename_i a2 cap2
    have hx' := hx0.refcut hmk
    obtain ⟨l1, l2, vs, l3, l4, l5⟩ := run_firstCells (P := P) hw hx' hsrc
    cases hs with
    | refz hsp hvo =>
      have hce : cells = [] := List.eq_nil_of_length_eq_zero (by omega)
      subst hce
      have hvs : vs = [] := List.eq_nil_of_length_eq_zero (by omega)
      subst hvs
      have hup : upd σ o (.arr ver (splice cs off [])) = σ := by funext i; by_cases h : i = o <;> simp [upd, h, hσ, splice]
      refine Goes.val' (u := .int .i64 0) (w' := w) (g' := g) ?_ (by simp only [ap_some, hup]; exact hw) (by simp only [ap_some, hup]; exact Gh.le.refl _ _) .int
      simp [Builtin.copy_, Builtin.lenOf, Builtin.firstCells, loadCells, loadCellsFrom, run_underlying ht, h3, goInt, storeCells]
    | ref hnc hsp hr =>
      rename_i a cap
      simp only [RefOK, hσ] at hr
      obtain ⟨_, rfl, r2, r3, r4⟩ : _ ∧ _ := ⟨trivial, hr.2 trivial⟩
      have kk := hw.ob o ver cs hσ
      have hst := WRel.stores cells vs hw hσ off (by have := kk.len; omega) l4 l5
      have hrun := run_storeCells_cells (P := P) (g.L o).b ((g.L o).off + off) vs 0 w (fun j hj => by
          obtain ⟨v, hv, _⟩ := kk.there (off + j) (by have := kk.len; omega)
          rw [show (g.L o).off + off + 0 + j = (g.L o).off + (off + j) by omega, hv]; rfl) (fun j hj => by
          have := kk.free (off + j) (by have := kk.len; omega)
          rwa [show (g.L o).off + off + 0 + j = (g.L o).off + (off + j) by omega]) (fun u hu => by
              obtain ⟨j, hj, rfl⟩ := List.getElem_of_mem hu
              exact (l5 j (by omega) hj).one (List.all_eq_true.1 hone _ (List.getElem_mem _)))
      simp only [Nat.add_zero] at hrun
      refine Goes.val' (u := .int .i64 m) ?_ hst.1 hst.2 .int
      have hmin : Nat.min k m = m := Nat.min_eq_right hmk
      have l3' : (Builtin.firstCells (szOf esh) m (.slice (some a2) k cap2)).run P w = .ok vs.toArray w := l3
      have l1' : (Builtin.lenOf (.slice (some a2) k cap2)).run P w = .ok k w := by simp [Builtin.lenOf]
      simp [Builtin.copy_, run_underlying ht, l1', hmin, h3, l3', hrun, goInt]
end Go.Ab
/- Maps whose keys are numbers: made, looked up, written. -/
namespace Go.Ab
set_option linter.constructorNameAsVariable false
set_option linter.unusedSimpArgs false
set_option linter.unusedVariables false
open Go.RowKit
set_option linter.unusedVariables false
set_option linter.unusedSimpArgs false

/-- What lies under a key; 'none': it can't be told. -/
def mFind (k : IntKind) (n : Int) : List ((IntKind × Int) × AV) → Option (Option AV)
  | [] => some none
  | e :: es => if e.1.1 = k then (if n = e.1.2 then some (some e.2) else mFind k n es) else none
/-- The map with a thing laid under a key. -/
def mPut (k : IntKind) (n : Int) (v : AV) : List ((IntKind × Int) × AV) → Option (List ((IntKind × Int) × AV))
  | [] => some [((k, n), v)]
  | e :: es => if e.1.1 = k then (if n = e.1.2 then some (((k, n), v) :: es) else (mPut k n v es).map (e :: ·)) else none

theorem mfind_ok {pm L σ} {k : IntKind} {n : Int} : ∀ {es : List ((IntKind × Int) × AV)} {ms : List MapEntry} {i : Nat} {r : Option AV}, EnR pm L σ i es ms → mFind k n es = some r →
    ∃ q, Instr.findNow (.int k) (.int k n) ms i = some q ∧ (match r with | none => q = none | some y => ∃ j u, q = some (j, u) ∧ VR pm L σ y u)
  | [], [], i, r, _, h => by cases h; exact ⟨none, rfl, rfl⟩
  | [], _ :: _, _, _, h, _ => h.elim
  | _ :: _, [], _, _, h, _ => h.elim
  | e :: es, m :: ms, i, r, ⟨h1, h2, h3, h4⟩, h => by
    unfold mFind at h
    split at h
    · rename_i hk
      have hs : Instr.sameNow (.int k) (.int k n) m.key = some (n == e.1.2) := by rw [h1, hk]; simp [Instr.sameNow]
      split at h
      · rename_i hn
        cases h
        refine ⟨some (i, m.val), ?_, _, _, rfl, h2⟩
        have : (n == e.1.2) = true := by simpa using hn
        rw [this] at hs
        simp [Instr.findNow, hs]
      · rename_i hn
        obtain ⟨q, a, b⟩ := mfind_ok h4 h
        refine ⟨q, ?_, b⟩
        have : (n == e.1.2) = false := by simpa using hn
        rw [this] at hs
        simp [Instr.findNow, hs, a]
    · cases h

theorem mput_ok {pm L σ} {k : IntKind} {n : Int} {v : AV} {u : Value} (hv : VR pm L σ v u) : ∀ {es es' : List ((IntKind × Int) × AV)} {ms : List MapEntry} {i : Nat}, EnR pm L σ i es ms → mPut k n v es = some es' →
    (Instr.findNow (.int k) (.int k n) ms i = some none ∧ es'.length = es.length + 1 ∧ EnR pm L σ i es' (ms ++ [{ key := .int k n, val := u, born := i + es.length }])) ∨
    (∃ j u0, Instr.findNow (.int k) (.int k n) ms i = some (some (i + j, u0)) ∧ j < ms.length ∧ (∀ h : j < ms.length, (ms[j]).key = .int k n) ∧ es'.length = es.length ∧ EnR pm L σ i es' (ms.modify j fun e => { e with key := .int k n, val := u }))
  | [], es', [], i, _, h => by cases h; exact .inl ⟨rfl, rfl, rfl, hv, rfl, trivial⟩
  | [], _, _ :: _, _, h, _ => h.elim
  | _ :: _, _, [], _, h, _ => h.elim
  | e :: es, es', m :: ms, i, ⟨h1, h2, h3, h4⟩, h => by
    unfold mPut at h
    split at h
    · rename_i hk
      have hs : Instr.sameNow (.int k) (.int k n) m.key = some (n == e.1.2) := by rw [h1, hk]; simp [Instr.sameNow]
      split at h
      · rename_i hn
        cases h
        have : (n == e.1.2) = true := by simpa using hn
        rw [this] at hs
        refine .inr ⟨0, m.val, by simp [Instr.findNow, hs], by simp, fun _ => ?_, rfl, rfl, hv, h3, h4⟩
        show m.key = _
        rw [h1, hk, hn]
      · rename_i hn
        obtain ⟨es1, a, rfl⟩ := Option.map_eq_some_iff.1 h
        have : (n == e.1.2) = false := by simpa using hn
        rw [this] at hs
        rcases mput_ok hv h4 a with ⟨b1, b2, b3⟩ | ⟨j, u0, b1, b2, b3, b4, b5⟩
        · refine .inl ⟨by simp [Instr.findNow, hs, b1], by simp [b2], h1, h2, h3, ?_⟩
          have e1 : i + 1 + es.length = i + (e :: es).length := by simp; omega
          rw [e1] at b3
          exact b3
        · refine .inr ⟨j + 1, u0, ?_, by simpa using b2, fun h => ?_, by simp [b4], ?_⟩
          · simp only [Instr.findNow, hs]
            rw [b1]
            congr 3
            omega
          · simpa using b3 (by simpa using h)
          · rw [List.modify_succ_cons]
            exact ⟨h1, h2, h3, b5⟩
    · cases h

/-! ### the world -/
theorem cell_setBk {w : World} {b : Nat} {x x' : Go.Obj} (hb : w.heap[b]? = some x) (hx : BkOb x) (hx' : BkOb x') (a : Addr) : ({ w with heap := w.heap.setIfInBounds b x' } : World).cell? a = w.cell? a := by
  obtain ⟨h1, h2⟩ := MapKept.heap_set (o' := x') hb
  by_cases e : a.block = b
  · subst e
    cases x <;> simp [BkOb] at hx <;> cases x' <;> simp [BkOb] at hx' <;> simp [World.cell?, h1, hb]
  · simp only [World.cell?]
    rw [h2 _ e]
theorem frozen_setBk {w : World} {b : Nat} {x x' : Go.Obj} (hb : w.heap[b]? = some x) (hx : BkOb x) (hx' : BkOb x') (a : Addr) : ({ w with heap := w.heap.setIfInBounds b x' } : World).frozen? a = w.frozen? a := by
  obtain ⟨h1, h2⟩ := MapKept.heap_set (o' := x') hb
  by_cases e : a.block = b
  · subst e
    cases x <;> simp [BkOb] at hx <;> cases x' <;> simp [BkOb] at hx' <;> simp [World.frozen?, h1, hb]
  · simp only [World.frozen?]
    rw [h2 _ e]
theorem bk_setBk {w : World} {b : Nat} {x x' : Go.Obj} (hb : w.heap[b]? = some x) (hx : BkOb x) : BkOK w { w with heap := w.heap.setIfInBounds b x' } := fun b' c t fz e => by
  obtain ⟨h1, h2⟩ := MapKept.heap_set (o' := x') hb
  by_cases q : b' = b
  · subst q; rw [hb] at e; cases e; exact hx.elim
  · exact ⟨c, by simp only [h2 _ q]; exact e, rfl⟩
/-- What a map's object is told anew, in a world that differs in one block that holds no cells, or has one more. -/
theorem WRel.remap {g σ} {w w' : World} (h : WRel g σ w) {o : Nat} {es es' : List ((IntKind × Int) × AV)} {it it' : Option (List Nat)} {l : Loc} (e : σ o = .mpo es it) (hl : l.b = (g.L o).b) (hit : it.isSome = true → l.off = (g.L o).off ∧ it'.isSome = true)
    (hbk : BkOK w w') (hc : ∀ a u, w.cell? a = some u → w'.cell? a = some u) (hf : ∀ a u, w.cell? a = some u → w'.frozen? a = w.frozen? a) (hlow : Below g.B0 w w') (hB : g.B0 ≤ w'.heap.size)
    (hoth : ∀ i es2 it2, i ≠ o → σ i = .mpo es2 it2 → w'.heap[(g.L i).b]? = w.heap[(g.L i).b]? ∧ (it2.isSome = true → w'.heap[(g.L i).off]? = w.heap[(g.L i).off]? ∧ (it'.isSome = true → (g.L i).off ≠ l.off)))
    (hmo : MoOK { g with L := upd g.L o l } (upd σ o (.mpo es' it')) o es' it' w') :
    WRel { g with L := upd g.L o l } (upd σ o (.mpo es' it')) w' ∧ g.le σ { g with L := upd g.L o l } (upd σ o (.mpo es' it')) := by
  have hext : Ext g.pm g.L σ g.pm (upd g.L o l) (upd σ o (.mpo es' it')) := ⟨fun _ _ _ e => e, fun i => by
    by_cases hi : i = o
    · subst hi; simp only [e, upd_same, ObExt]; exact ⟨hl, hit⟩
    · simp only [upd_ne _ _ hi]; exact ObExt.refl _ _⟩
  refine ⟨⟨fun b x v e => hc _ _ (h.pm b x v e), fun b x v e => hc _ _ (h.tm b x v e), fun b x v e => by rw [hf _ _ (h.tm b x v e)]; exact h.tmf b x v e, h.disj, h.low.trans hlow, hB, h.tab, h.bk.trans hbk, fun i ver cs e' => ?_, fun i i' v1 v2 c1 c2 e1 e2 hne => ?_, fun i es2 it2 e' => ?_, fun i i' s1 s2 t1 t2 e1 e2 hne => ?_⟩, ⟨hext, rfl, rfl, rfl⟩⟩
  · have hi : i ≠ o := fun h => by subst h; simp at e'
    rw [upd_ne _ _ hi] at e'
    have k := h.ob i ver cs e'
    refine ⟨by simpa [upd_ne _ _ hi] using k.low, by simpa [upd_ne _ _ hi] using k.len, ?_, ?_, by simpa [upd_ne _ _ hi] using k.pm, by simpa [upd_ne _ _ hi] using k.tm⟩
    · intro j hj
      simp only [upd_ne _ _ hi] at hj ⊢
      obtain ⟨v, hv, hr⟩ := k.there j hj
      exact ⟨v, hc _ _ hv, fun hj' => (hr hj').mono hext⟩
    · intro j hj
      simp only [upd_ne _ _ hi] at hj ⊢
      obtain ⟨v, hv, hr⟩ := k.there j hj
      rw [hf _ _ hv]; exact k.free j hj
  · have hi : i ≠ o := fun h => by subst h; simp at e1
    have hi' : i' ≠ o := fun h => by subst h; simp at e2
    rw [upd_ne _ _ hi] at e1
    rw [upd_ne _ _ hi'] at e2
    simp only [upd_ne _ _ hi, upd_ne _ _ hi']
    exact h.sep i i' _ _ _ _ e1 e2 hne
  · by_cases hi : i = o
    · subst hi
      simp at e'
      obtain ⟨rfl, rfl⟩ := e'
      exact hmo
    · rw [upd_ne _ _ hi] at e'
      obtain ⟨a, b⟩ := hoth i _ _ hi e'
      exact (h.mo i es2 it2 e').keep2 hext rfl (upd_ne _ _ hi) a (fun hs => (b hs).1)
  · by_cases hi : i = o
    · subst hi
      have hi' : i' ≠ i := fun h => hne h.symm
      rw [upd_ne _ _ hi'] at e2
      simp at e1
      obtain ⟨rfl, rfl⟩ := e1
      simp only [upd_same, upd_ne _ _ hi', hl]
      obtain ⟨a, b⟩ := hoth i' _ _ hi' e2
      exact ⟨(h.ms i i' _ _ _ _ e e2 hne).1, fun p q r => (b q).2 p r.symm⟩
    · rw [upd_ne _ _ hi] at e1
      by_cases hi' : i' = o
      · subst hi'
        simp at e2
        obtain ⟨rfl, rfl⟩ := e2
        simp only [upd_same, upd_ne _ _ hi, hl]
        obtain ⟨a, b⟩ := hoth i _ _ hi e1
        exact ⟨(h.ms i i' _ _ _ _ e1 e hne).1, fun p q => (b p).2 q⟩
      · rw [upd_ne _ _ hi'] at e2
        simp only [upd_ne _ _ hi, upd_ne _ _ hi']
        exact h.ms i i' _ _ _ _ e1 e2 hne
theorem WRel.mapPut {g σ} {w : World} (h : WRel g σ w) {o : Nat} {es es' : List ((IntKind × Int) × AV)} (e : σ o = .mpo es none) {ms' : Array MapEntry} (hr : EnR g.pm g.L σ 0 es' ms'.toList) :
    WRel g (upd σ o (.mpo es' none)) { w with heap := w.heap.setIfInBounds (g.L o).b (.map ms' es'.length) } ∧ g.le σ g (upd σ o (.mpo es' none)) := by
  obtain ⟨k1, ⟨ms, k2, k3⟩, _⟩ := h.mo o es none e
  obtain ⟨q1, q2⟩ := MapKept.heap_set (o' := .map ms' es'.length) k2
  have hL : upd g.L o (g.L o) = g.L := by funext i; by_cases hi : i = o; · subst hi; simp
                                          · simp [upd_ne _ _ hi]
  have key := h.remap (w' := { w with heap := w.heap.setIfInBounds (g.L o).b (.map ms' es'.length) }) (es' := es') (it' := none) (l := g.L o) e rfl nofun (bk_setBk k2 trivial) (fun a u hu => by rw [cell_setBk (x' := .map ms' es'.length) k2 trivial trivial]; exact hu) (fun a u _ => frozen_setBk (x' := .map ms' es'.length) k2 trivial trivial a)
    ⟨rfl, rfl, rfl, by simp, fun k hk => q2 k (by omega)⟩ (by simpa using h.B0) (fun i es2 it2 hi e2 => ⟨q2 _ (h.ms i o _ _ _ _ e2 e hi).1, fun hs => ⟨q2 _ (fun hh => ?_), nofun⟩⟩) ⟨by simpa using k1, ⟨ms', by simpa using q1, ?_⟩, nofun⟩
  · rw [hL] at key; exact key
  · cases it2 with
    | none => cases hs
    | some sn =>
      obtain ⟨_, _, k⟩ := h.mo i _ _ e2
      obtain ⟨_, _, this, _⟩ := k sn rfl
      rw [hh, k2] at this
      cases this
  · refine hr.mono ⟨fun _ _ _ e => e, fun i => ?_⟩
    simp only [hL]
    by_cases hi : i = o
    · subst hi; simp [e, ObExt]
    · simp [upd_ne _ _ hi]; exact ObExt.refl _ _
theorem WRel.alloc_mp {g σ} {w : World} (h : WRel g σ w) {o : Nat} (ho : σ o = .virgin) :
    WRel { g with L := upd g.L o ⟨w.heap.size, 0, 0⟩ } (upd σ o (.mpo [] none)) (w.alloc (.map #[] 0)) ∧ g.le σ { g with L := upd g.L o ⟨w.heap.size, 0, 0⟩ } (upd σ o (.mpo [] none)) := by
  have hext : Ext g.pm g.L σ g.pm (upd g.L o ⟨w.heap.size, 0, 0⟩) (upd σ o (.mpo [] none)) := ⟨fun _ _ _ e => e, fun i => by
    by_cases hi : i = o
    · subst hi; simp [ho, ObExt]
    · simp [upd_ne _ _ hi]; exact ObExt.refl _ _⟩
  have h0 := h.alloc_none (.map #[] 0)
  refine ⟨⟨h0.pm, h0.tm, h0.tmf, h0.disj, h0.low, h0.B0, h0.tab, h0.bk, fun i ver cs e' => ?_, fun i i' v1 v2 c1 c2 e1 e2 hne => ?_, fun i es2 it2 e' => ?_, fun i i' s1 s2 t1 t2 e1 e2 hne => ?_⟩, ⟨hext, rfl, rfl, rfl⟩⟩
  · have hi : i ≠ o := fun h => by subst h; simp at e'
    rw [upd_ne _ _ hi] at e'
    have k := h0.ob i ver cs e'
    refine ⟨by simpa [upd_ne _ _ hi] using k.low, by simpa [upd_ne _ _ hi] using k.len, ?_, by simpa [upd_ne _ _ hi] using k.free, by simpa [upd_ne _ _ hi] using k.pm, by simpa [upd_ne _ _ hi] using k.tm⟩
    intro j hj
    simp only [upd_ne _ _ hi] at hj ⊢
    obtain ⟨v, hv, hr⟩ := k.there j hj
    exact ⟨v, hv, fun hj' => (hr hj').mono hext⟩
  · have hi : i ≠ o := fun h => by subst h; simp at e1
    have hi' : i' ≠ o := fun h => by subst h; simp at e2
    rw [upd_ne _ _ hi] at e1
    rw [upd_ne _ _ hi'] at e2
    simp only [upd_ne _ _ hi, upd_ne _ _ hi']
    exact h.sep i i' _ _ _ _ e1 e2 hne
  · by_cases hi : i = o
    · subst hi
      simp at e'
      obtain ⟨rfl, rfl⟩ := e'
      refine ⟨by simpa using h.B0, ⟨#[], ?_, trivial⟩, nofun⟩
      simp only [upd_same]
      exact (MapKept.heap_alloc w _).1
    · rw [upd_ne _ _ hi] at e'
      exact (h0.mo i es2 it2 e').keep hext rfl (upd_ne _ _ hi) (fun _ _ e _ => e)
  · by_cases hi : i = o
    · subst hi
      have hi' : i' ≠ i := fun h => hne h.symm
      rw [upd_ne _ _ hi'] at e2
      simp at e1
      obtain ⟨rfl, rfl⟩ := e1
      simp only [upd_same, upd_ne _ _ hi']
      have := (h.mo i' _ _ e2).lt
      exact ⟨by omega, nofun⟩
    · rw [upd_ne _ _ hi] at e1
      by_cases hi' : i' = o
      · subst hi'
        simp at e2
        obtain ⟨rfl, rfl⟩ := e2
        simp only [upd_same, upd_ne _ _ hi]
        have := (h.mo i _ _ e1).lt
        exact ⟨by omega, fun _ => nofun⟩
      · rw [upd_ne _ _ hi'] at e2
        simp only [upd_ne _ _ hi, upd_ne _ _ hi']
        exact h.ms i i' _ _ _ _ e1 e2 hne

/-! ### operations -/
def StMkm (σ : Hp) (v : AV) (rd : List Nat) (δ : Option (Nat × Ob)) : Prop := rd = [] ∧ ∃ o, σ o = .virgin ∧ v = .mp o 0 ∧ δ = some (o, .mpo [] none)
def StLkp (k : IntKind) (z : AV) (ok : Bool) (x i : AV) (σ : Hp) (v : AV) (rd : List Nat) : Prop :=
  match x, i with
  | .mp o _, .int k' n => k' = k ∧ rd = [o] ∧ ∃ es it r, σ o = .mpo es it ∧ mFind k n es = some r ∧ v = (if ok = true then .tup [r.getD z, .bool r.isSome] else r.getD z)
  | _, _ => False
def StMpu (k : IntKind) (x i y : AV) (σ : Hp) (v : AV) (rd : List Nat) (δ : Option (Nat × Ob)) : Prop :=
  match x, i with
  | .mp o _, .int k' n => k' = k ∧ rd = [o] ∧ v = .tup [] ∧ ∃ es es', σ o = .mpo es none ∧ mPut k n y es = some es' ∧ δ = some (o, .mpo es' none)
  | _, _ => False

theorem sound_mkm {P : Program} {g σ} {w : World} {t v rd δ} (hw : WRel g σ w) (h : StMkm σ v rd δ) :
    Goes P g σ w (do pure (.value (← Instr.makeMap t none))) v δ := by
  obtain ⟨_, o, ho, rfl, rfl⟩ := h
  obtain ⟨h1, h2⟩ := hw.alloc_mp ho
  refine Goes.val' (u := .map (some w.heap.size)) (by simp [Instr.makeMap, Result.andThen]) h1 h2 (.mp ?_)
  unfold MpOK
  rw [ap_some, upd_same]
  show w.heap.size = (upd g.L o _ o).b
  rw [upd_same]
theorem sound_lkp {P : Program} {g σ} {w : World} {t kt et : TypeId} {k : IntKind} {inf : TypeInfo} {zv : Value} {z : AV} {ok x i ux ui v rd} (hw : WRel g σ w) (ht : P.underlying t = some (.map kt et)) (hk : P.underlying kt = some (.int k))
    (hi : P.info? et = some inf) (hz : inf.zero = some zv) (hzv : ofLit zv = some z) (hx : VR g.pm g.L σ x ux) (hn : VR g.pm g.L σ i ui) (h : StLkp k z ok x i σ v rd) :
    Goes P g σ w (do pure (.value (← Instr.lookup t ux ui ok))) v none := by
  unfold StLkp at h
  split at h
  · rename_i o ver k' n
    obtain ⟨rfl, _, es, it, r, hσ, hf, rfl⟩ := h
    cases hx with
    | mp hm =>
      rename_i b
      cases hn
      unfold MpOK at hm
      rw [hσ] at hm
      subst hm
      obtain ⟨_, ⟨ms, h2, h3⟩, _⟩ := hw.mo o es it hσ
      obtain ⟨q, h4, h5⟩ := mfind_ok h3 hf
      have hfk := MapKept.run_findKey (P := P) (w := w) (kt := kt) (d := .int k') (k := .int k' n) hk h4
      have hck := MapKept.run_checkKey (P := P) (w := w) (kt := kt) (d := .int k') (k := .int k' n) hk rfl ms.isEmpty 9999
      have hzz : (zeroValue et).run P w = .ok zv w := by simp [zeroValue, typeInfo, hi, hz, Result.andThen]
      have hgo := MapKept.run_getObj_map (P := P) h2
      cases r with
      | none =>
        subst h5
        refine Goes.val hw (u := if ok = true then .tuple #[zv, .bool false] else zv) ?_ ?_
        · simp [Instr.lookup, run_underlying ht, hgo, hck, hfk, hzz, Result.andThen]
        · have := ofLit_VR (pm := g.pm) (L := g.L) (σ := σ) hzv
          cases ok
          · exact this
          · exact .tup rfl (fun j h1 h2 => by
              match j, h1 with
              | 0, _ => exact this
              | 1, _ => exact .bool)
      | some y =>
        obtain ⟨j, u, rfl, hu⟩ := h5
        refine Goes.val hw (u := if ok = true then .tuple #[u, .bool true] else u) ?_ ?_
        · simp [Instr.lookup, run_underlying ht, hgo, hck, hfk, Result.andThen]
        · cases ok
          · exact hu
          · exact .tup rfl (fun j h1 h2 => by
              match j, h1 with
              | 0, _ => exact hu
              | 1, _ => exact .bool)
  · exact h.elim
theorem sound_mpu {P : Program} {g σ} {w : World} {t kt et : TypeId} {k : IntKind} {x i y ux ui uy v rd δ} (hw : WRel g σ w) (ht : P.underlying t = some (.map kt et)) (hk : P.underlying kt = some (.int k))
    (hx : VR g.pm g.L σ x ux) (hn : VR g.pm g.L σ i ui) (hy : VR g.pm g.L σ y uy) (h : StMpu k x i y σ v rd δ) :
    Goes P g σ w (do Instr.mapUpdate t ux ui uy; pure .skip) v δ := by
  unfold StMpu at h
  split at h
  · rename_i o ver k' n
    obtain ⟨rfl, _, rfl, es, es', hσ, hp, rfl⟩ := h
    cases hx with
    | mp hm =>
      rename_i b
      cases hn
      unfold MpOK at hm
      rw [hσ] at hm
      subst hm
      obtain ⟨_, ⟨ms, h2, h3⟩, _⟩ := hw.mo o es none hσ
      have hck := MapKept.run_checkKey (P := P) (w := w) (kt := kt) (d := .int k') (k := .int k' n) hk rfl false 9999
      have hgo := MapKept.run_getObj_map (P := P) h2
      rcases mput_ok hy h3 hp with ⟨b1, b2, b3⟩ | ⟨j, u0, b1, b2, b3, b4, b5⟩
      · have hfk := MapKept.run_findKey (P := P) (w := w) (kt := kt) (d := .int k') (k := .int k' n) hk b1
        rw [Nat.zero_add] at b3
        have hso := MapKept.run_setObj_map (P := P) (.map (ms.push { key := .int k' n, val := uy, born := es.length }) (es.length + 1)) h2
        obtain ⟨a1, a2⟩ := hw.mapPut hσ (es' := es') (ms' := ms.push { key := .int k' n, val := uy, born := es.length }) (by rw [Array.toList_push]; exact b3)
        rw [b2] at a1
        exact ⟨.skip, undef, _, g, by simp [Instr.mapUpdate, run_underlying ht, hgo, hck, hfk, hso, Result.andThen], .inr ⟨rfl, rfl⟩, a1, a2, .tup rfl (by simp)⟩
      · have hfk := MapKept.run_findKey (P := P) (w := w) (kt := kt) (d := .int k') (k := .int k' n) hk b1
        rw [Nat.zero_add] at hfk
        have hj : j < ms.size := by simpa using b2
        have hkey : (ms[j]).key = .int k' n := by have := b3 b2; simpa using this
        have hts := MapKept.run_keyThatStays (P := P) (w := w) (d := .int k') (k := .int k' n) rfl
        have hso := MapKept.run_setObj_map (P := P) (.map (ms.modify j fun e => { e with key := .int k' n, val := uy }) es.length) h2
        obtain ⟨a1, a2⟩ := hw.mapPut hσ (es' := es') (ms' := ms.modify j fun e => { e with key := .int k' n, val := uy }) (by rw [Array.toList_modify]; exact b5)
        rw [b4] at a1
        refine ⟨.skip, undef, _, g, ?_, .inr ⟨rfl, rfl⟩, a1, a2, .tup rfl (by simp)⟩
        simp [Instr.mapUpdate, run_underlying ht, hgo, hck, hfk, hj, hkey, hts, hso, Result.andThen]
  · exact h.elim
end Go.Ab
/- Going over a map whose keys are numbers: begun, one step, what lies there. -/
namespace Go.Ab
set_option linter.constructorNameAsVariable false
set_option linter.unusedSimpArgs false
set_option linter.unusedVariables false
open Go.RowKit
set_option linter.unusedVariables false
set_option linter.unusedSimpArgs false
theorem EnR.get {pm L σ} : ∀ {es : List ((IntKind × Int) × AV)} {ms : List MapEntry} {i : Nat}, EnR pm L σ i es ms → ∀ (j : Nat) (m : MapEntry), ms[j]? = some m → ∃ e, es[j]? = some e ∧ m.key = .int e.1.1 e.1.2 ∧ VR pm L σ e.2 m.val ∧ m.born = i + j
  | [], [], i, _, j, m, h => by simp at h
  | [], _ :: _, _, h, _, _, _ => h.elim
  | _ :: _, [], _, h, _, _, _ => h.elim
  | e :: es, m :: ms, i, ⟨h1, h2, h3, h4⟩, 0, m', h => by simp at h; subst h; exact ⟨e, rfl, h1, h2, h3⟩
  | e :: es, m :: ms, i, ⟨h1, h2, h3, h4⟩, j + 1, m', h => by
    obtain ⟨e', a, b, c, d⟩ := EnR.get h4 j m' (by simpa using h)
    exact ⟨e', by simpa using a, b, c, by omega⟩
theorem EnR.find {pm L σ} : ∀ {es : List ((IntKind × Int) × AV)} {ms : List MapEntry} {i : Nat}, EnR pm L σ i es ms → ∀ j, ms.find? (fun m => m.born == i + j) = ms[j]?
  | [], [], i, _, j => by simp
  | [], _ :: _, _, h, _ => h.elim
  | _ :: _, [], _, h, _ => h.elim
  | e :: es, m :: ms, i, ⟨h1, h2, h3, h4⟩, 0 => by simp [h3]
  | e :: es, m :: ms, i, ⟨h1, h2, h3, h4⟩, j + 1 => by
    have := EnR.find h4 j
    rw [show i + 1 + j = i + (j + 1) by omega] at this
    have hne : (m.born == i + (j + 1)) = false := by simp [h3]
    simp [List.find?_cons, hne, this]
def StRgm (x : AV) (σ : Hp) (v : AV) (rd : List Nat) (δ : Option (Nat × Ob)) : Prop :=
  match x with
  | .mp o _ => rd = [o] ∧ ∃ es, σ o = .mpo es none ∧ v = .itr o ∧ δ = some (o, .mpo es (some []))
  | _ => False
def StEnt (x : AV) (σ : Hp) (v : AV) (rd : List Nat) : Prop :=
  match x with
  | .itr o => rd = [o] ∧ ∃ es sn i e, σ o = .mpo es (some (sn ++ [i])) ∧ es.length ∉ sn ++ [i] ∧ es[i]? = some e ∧ v = .tup [.int e.1.1 e.1.2, e.2]
  | _ => False
theorem sound_rgm {P : Program} {g σ} {w : World} {t kt et : TypeId} {x ux v rd δ} (hw : WRel g σ w) (ht : P.underlying t = some (.map kt et)) (hx : VR g.pm g.L σ x ux) (h : StRgm x σ v rd δ) :
    Goes P g σ w (do pure (.value (← Instr.range t ux))) v δ := by
  unfold StRgm at h
  split at h
  · rename_i o ver
    obtain ⟨_, es, hσ, rfl, rfl⟩ := h
    cases hx with
    | mp hm =>
      rename_i b
      unfold MpOK at hm
      rw [hσ] at hm
      subst hm
      obtain ⟨k1, ⟨ms, h2, h3⟩, _⟩ := hw.mo o es none hσ
      have hgo := MapKept.run_getObj_map (P := P) h2
      have hx : Go.Obj := .mapIter (some (g.L o).b) es.length #[] es.length
      obtain ⟨a1, a2⟩ := hw.remap (w' := w.alloc (.mapIter (some (g.L o).b) es.length #[] es.length)) (es' := es) (it' := some []) (l := ⟨(g.L o).b, w.heap.size, (g.L o).cap⟩) hσ rfl nofun ((BkOK.refl w).same (fun b x e => by rw [heap_alloc_lt (get_lt e)]; exact e))
        (fun a u hu => by rw [World.cell?_alloc_lt (h := lt_of_cell hu)]; exact hu) (fun a u hu => by rw [World.frozen?_alloc_old (h := by have := lt_of_cell hu; simp at this ⊢; omega)]) ((Below.refl g.B0 w).alloc hw.B0 _) (by have := hw.B0; simp; omega)
        (fun i es2 it2 hi e2 => by
          have k := hw.mo i _ _ e2
          refine ⟨heap_alloc_lt k.lt, fun hs => ?_⟩
          cases it2 with
          | none => cases hs
          | some sn => have := k.lt2; exact ⟨heap_alloc_lt this, fun _ => by show (g.L i).off ≠ w.heap.size; omega⟩)
        (by
          have hext : Ext g.pm g.L σ g.pm (upd g.L o ⟨(g.L o).b, w.heap.size, (g.L o).cap⟩) (upd σ o (.mpo es (some []))) := ⟨fun _ _ _ e => e, fun i => by
            by_cases hi : i = o
            · subst hi; simp only [hσ, upd_same, ObExt]; exact ⟨trivial, nofun⟩
            · simp only [upd_ne _ _ hi]; exact ObExt.refl _ _⟩
          refine ⟨by simpa using k1, ⟨ms, ?_, h3.mono hext⟩, fun sn hs => ?_⟩
          · simp only [upd_same]
            rw [heap_alloc_lt (get_lt h2)]; exact h2
          · cases hs
            simp only [upd_same]
            exact ⟨hw.B0, #[], (MapKept.heap_alloc w _).1, fun _ => rfl⟩)
      refine Goes.val' (u := .pointer (some ⟨w.heap.size, 0, none⟩)) (by simp [Instr.range, run_underlying ht, hgo, Result.andThen]) a1 a2 (.itr ?_)
      unfold ItOK
      rw [ap_some, upd_same]
      show w.heap.size = (upd g.L o _ o).off
      rw [upd_same]
  · exact h.elim
theorem run_getObj_it {P : Program} {w : World} {r : Nat} {m : Option Nat} {s : Nat} {sn : Array Nat} {l : Nat} (hb : w.heap[r]? = some (.mapIter m s sn l)) : (getObj r).run P w = .ok (.mapIter m s sn l) w := by
  simp [getObj, Sem.run, hb]
theorem run_setObj_it {P : Program} {w : World} {r : Nat} {m : Option Nat} {s : Nat} {sn : Array Nat} {l : Nat} (o : Go.Obj) (hb : w.heap[r]? = some (.mapIter m s sn l)) : (setObj r o).run P w = .ok () { w with heap := w.heap.setIfInBounds r o } := by
  simp [setObj, Sem.run, hb]
theorem sound_ent {P : Program} {g σ} {w : World} {x ux v rd} (hw : WRel g σ w) (hx : VR g.pm g.L σ x ux) (h : StEnt x σ v rd) :
    Goes P g σ w (do pure (.value (← Instr.entry ux))) v none := by
  unfold StEnt at h
  split at h
  · rename_i o
    obtain ⟨_, es, sn, i, e, hσ, hns, he, rfl⟩ := h
    cases hx with
    | itr hm =>
      rename_i b
      unfold ItOK at hm
      rw [hσ] at hm
      simp only at hm
      subst hm
      obtain ⟨k1, ⟨ms, h2, h3⟩, h4⟩ := hw.mo o es _ hσ
      obtain ⟨d1, seen, d2, d3⟩ := h4 _ rfl
      have hlen := h3.len
      have hi : i < es.length := (List.getElem?_eq_some_iff.1 he).1
      obtain rfl := d3 hns
      obtain ⟨m, hm⟩ : ∃ m, ms.toList[i]? = some m := ⟨_, List.getElem?_eq_getElem (by omega)⟩
      obtain ⟨e', q1, q2, q3, q4⟩ := h3.get i m hm
      rw [he] at q1; cases q1
      have hf := h3.find i
      rw [hm, Nat.zero_add] at hf
      have hf' : ms.find? (fun m => m.born == i) = some m := by rw [← Array.find?_toList]; exact hf
      have hgo := MapKept.run_getObj_map (P := P) h2
      have hgi := run_getObj_it (P := P) d2
      refine Goes.val hw (u := .tuple #[m.key, m.val]) ?_ ?_
      · simp [Instr.entry, hgi, hgo, hf', Result.andThen]
      · rw [q2]
        exact .tup rfl (fun j h1 h2 => by
          match j, h1 with
          | 0, _ => exact .int
          | 1, _ => exact q3)
  · exact h.elim
/-- One step over a map: all was seen, or something that was not. -/
theorem run_next {P : Program} {g σ} {w : World} {o : Nat} {es : List ((IntKind × Int) × AV)} {sn : List Nat} {u : Value} {ty : TypeId} (hw : WRel g σ w) (hσ : σ o = .mpo es (some sn)) (hns : es.length ∉ sn) (hu : VR g.pm g.L σ (.itr o) u) :
    (∃ w', (Instr.next u false ty).run P w = .ok (.tuple #[.bool false]) w' ∧ WRel g σ w' ∧ ∀ i, i < es.length → i ∈ sn) ∨
    (∃ i e w' key val, (Instr.next u false ty).run P w = .ok (.tuple #[.bool true, key, val]) w' ∧ es[i]? = some e ∧ i ∉ sn ∧ key = .int e.1.1 e.1.2 ∧ WRel g (upd σ o (.mpo es (some (sn ++ [i])))) w' ∧ g.le σ g (upd σ o (.mpo es (some (sn ++ [i])))) ∧ VR g.pm g.L (upd σ o (.mpo es (some (sn ++ [i])))) e.2 val) := by
  cases hu with
  | itr hm =>
    rename_i b
    unfold ItOK at hm
    rw [hσ] at hm
    simp only at hm
    subst hm
    obtain ⟨k1, ⟨ms, h2, h3⟩, h4⟩ := hw.mo o es _ hσ
    obtain ⟨d1, seen, d2, d3⟩ := h4 _ rfl
    obtain rfl := d3 hns
    have hlen := h3.len
    have hgo := MapKept.run_getObj_map (P := P) h2
    have hgi := run_getObj_it (P := P) d2
    have hborn : ∀ m ∈ ms, m.born < es.length := fun m hm => by
      obtain ⟨j, hj⟩ := List.getElem?_of_mem (Array.mem_toList_iff.2 hm)
      obtain ⟨e, q1, _, _, q4⟩ := h3.get j m hj
      have := (List.getElem?_eq_some_iff.1 q1).1
      omega
    have hleft : ∀ m, m ∈ (leftOf ms sn.toArray).toList ↔ m ∈ ms ∧ m.born ∉ sn := fun m => by
      unfold leftOf
      rw [Array.mem_toList_iff, Array.mem_filter]
      simp
    rcases run_next_at (P := P) w ty (g.L o).off (g.L o).b es.length es.length sn.toArray ms es.length d2 h2 (fun x hx => hborn x (Array.mem_toList_iff.1 hx)) (Nat.le_refl _) with ⟨h0, hrun⟩ | ⟨m, hm, w1, hw1, hrun⟩
    · refine .inl ⟨w, hrun, hw, fun i hi => ?_⟩
      obtain ⟨m, hm⟩ : ∃ m, ms.toList[i]? = some m := ⟨_, List.getElem?_eq_getElem (by omega)⟩
      obtain ⟨e, q1, q2, q3, q4⟩ := h3.get i m hm
      rw [Nat.zero_add] at q4
      by_cases hin : m.born ∈ sn
      · rw [q4] at hin; exact hin
      · have h5 := (hleft m).2 ⟨Array.mem_toList_iff.1 (List.mem_of_getElem? hm), hin⟩
        rw [Array.eq_empty_of_size_eq_zero h0] at h5
        simp at h5
    · obtain ⟨m1, m2⟩ := (hleft _).1 hm
      obtain ⟨j, hj⟩ := List.getElem?_of_mem (Array.mem_toList_iff.2 m1)
      obtain ⟨e, q1, q2, q3, q4⟩ := h3.get j _ hj
      rw [Nat.zero_add] at q4
      rw [q4] at m2
      have hjl := (List.getElem?_eq_some_iff.1 q1).1
      have hw1' : WRel g σ w1 := by
        rcases hw1 with rfl | rfl
        · exact hw
        · exact hw.drew
      have hd2 : w1.heap[(g.L o).off]? = some (.mapIter (some (g.L o).b) es.length sn.toArray es.length) := by
        rcases hw1 with rfl | rfl
        · exact d2
        · exact d2
      obtain ⟨p1, p2⟩ := MapKept.heap_set (o' := .mapIter (some (g.L o).b) es.length (sn.toArray.push j) es.length) hd2
      have hL : upd g.L o (g.L o) = g.L := by
        funext i
        by_cases hi : i = o
        · subst hi; simp
        · simp [upd_ne _ _ hi]
      obtain ⟨k1', ⟨ms', h2', h3'⟩, _⟩ := hw1'.mo o es _ hσ
      obtain ⟨a1, a2⟩ := hw1'.remap (w' := { w1 with heap := w1.heap.setIfInBounds (g.L o).off (.mapIter (some (g.L o).b) es.length (sn.toArray.push j) es.length) }) (es' := es) (it' := some (sn ++ [j])) (l := g.L o) hσ rfl (fun _ => ⟨rfl, rfl⟩) (bk_setBk hd2 trivial)
        (fun a u hu => by rw [cell_setBk (x' := .mapIter (some (g.L o).b) es.length (sn.toArray.push j) es.length) hd2 trivial trivial]; exact hu) (fun a u _ => frozen_setBk (x' := .mapIter (some (g.L o).b) es.length (sn.toArray.push j) es.length) hd2 trivial trivial a)
        ⟨rfl, rfl, rfl, by simp, fun k hk => p2 k (by omega)⟩ (by simpa using hw1'.B0)
        (fun i es2 it2 hi e2 => by
          obtain ⟨_, ⟨ms2, r2, _⟩, _⟩ := hw1'.mo i _ _ e2
          refine ⟨p2 _ (fun hh => by rw [hh, hd2] at r2; cases r2), fun hs => ?_⟩
          have := (hw1'.ms i o _ _ _ _ e2 hσ hi).2 hs rfl
          exact ⟨p2 _ this, fun _ => this⟩)
        (by
          rw [hL]
          refine ⟨k1', ⟨ms', ?_, ?_⟩, fun s hs => ?_⟩
          · rw [p2 _ (fun hh => by rw [hh, hd2] at h2'; cases h2')]; exact h2'
          · refine h3'.mono ⟨fun _ _ _ e => e, fun i => ?_⟩
            by_cases hi : i = o
            · subst hi; simp only [hσ, upd_same, ObExt]; exact ⟨trivial, fun _ => ⟨trivial, rfl⟩⟩
            · simp only [upd_ne _ _ hi]; exact ObExt.refl _ _
          · cases hs
            exact ⟨d1, _, p1, fun _ => by simp⟩)
      rw [hL] at a1 a2
      refine .inr ⟨j, e, _, m.key, m.val, ?_, q1, m2, q2, a1, a2, q3.mono a2.ext⟩
      rw [hrun, q4]
      rfl
end Go.Ab
/- Operations with their types resolved, what each does, and that the model's operation does it. -/
namespace Go.Ab
set_option linter.constructorNameAsVariable false
set_option linter.unusedSimpArgs false
set_option linter.unusedVariables false
open Go.RowKit
set_option linter.unusedVariables false
set_option linter.unusedSimpArgs false

inductive ROp where
  | mv (x : Opd)
  | pick (c a b : Opd)
  | new (cs : List AV)
  | box (x : Opd)
  | build (z : List AV) (ps : List (Nat × Nat × Opd))
  | bsl (esh : Option Nat) (z : List AV) (len : Nat) (ps : List (Nat × Nat × Opd))
  | load (sh : Option Nat) (a : Opd)
  | store (n : Nat) (a x : Opd)
  | nchk (x : Opd)
  | bin (c : EqC) (op : BinOp) (x y : Opd)
  | eqs (ks : List FK) (op : BinOp) (x y : Opd)
  | un (op : UnOp) (x : Opd)
  | cint (k : IntKind) (x : Opd)
  | cstr (x : Opd)
  | b2s (x : Opd)
  | s2b (x : Opd)
  | mki (t : TypeId) (x : Opd)
  | mkf (f : Fn) (first caps : List Opd)
  | mksl (esh : Option Nat) (bytes : Nat) (z : List AV) (l c : Opd)
  | slc (esh : Option Nat) (x : Opd) (lo hi mx : Option Opd)
  | sls (x : Opd) (lo hi : Option Opd)
  | fad (off : Nat) (x : Opd)
  | iad (arr : Option Nat) (esh : Option Nat) (x i : Opd)
  | idxs (x i : Opd)
  | idxa (len : Nat) (sh : Option Nat) (x i : Opd)
  | ext (i : Nat) (x : Opd)
  | fld (off : Nat) (sh : Option Nat) (x : Opd)
  | len (c : LenC) (x : Opd)
  | app (esh : Option Nat) (bytes : Nat) (s x : Opd)
  | cpy (esh : Option Nat) (s x : Opd)
  | mn (mx : Bool) (x y : Opd)
  | tas (t : TypeId) (x : Opd)
  | slp (n : Nat) (esh : Option Nat) (x : Opd) (lo hi : Option Opd)
  | clr (esh : Option Nat) (z : List AV) (x : Opd)
  | mkm
  | lkp (k : IntKind) (z : AV) (ok : Bool) (x i : Opd)
  | mpu (k : IntKind) (x i y : Opd)
  | rgm (x : Opd)
  | ent (x : Opd)

def evP (fr : Fm) : List (Nat × Nat × Opd) → List (Nat × Nat × AV)
  | [] => []
  | (a, b, x) :: r => (a, b, ev fr x) :: evP fr r

def evO (fr : Fm) : Option Opd → Option AV
  | none => none
  | some x => some (ev fr x)

def evL (fr : Fm) : List Opd → List AV
  | [] => []
  | x :: r => ev fr x :: evL fr r

def StPick (c a b v : AV) : Prop := match c with | .bool t => v = (if t then a else b) | _ => False
def StBox (x : AV) (σ : Hp) (v : AV) (rd : List Nat) (δ : Option (Nat × Ob)) : Prop := x.nj = true ∧ StNew x.cells σ v rd δ
def StCint (k : IntKind) (x v : AV) : Prop := match x with | .int _ n => v = .int k (k.wrap n) | _ => False
def StCstr (x v : AV) : Prop := match x with | .str s => v = .str s | _ => False
def StFld (off : Nat) (sh : Option Nat) (x v : AV) : Prop := match x with | .agg cs => partOf sh cs off v | _ => False

def St (r : ROp) (fr : Fm) (σ : Hp) (v : AV) (rd : List Nat) (δ : Option (Nat × Ob)) : Prop :=
  match r with
  | .mv x => v = ev fr x ∧ rd = [] ∧ δ = none
  | .pick c a b => StPick (ev fr c) (ev fr a) (ev fr b) v ∧ rd = [] ∧ δ = none
  | .new cs => StNew cs σ v rd δ
  | .box x => StBox (ev fr x) σ v rd δ
  | .build z ps => (∃ cs, fillA z (evP fr ps) = some cs ∧ v = .agg cs) ∧ rd = [] ∧ δ = none
  | .bsl esh z len ps => ∃ cs, fillA (repl len z) (evP fr ps) = some cs ∧ StNewSl true esh len cs σ v rd δ
  | .load sh a => StLoad sh (ev fr a) σ v rd ∧ δ = none
  | .store n a x => StStore n (ev fr a) (ev fr x) σ v rd δ
  | .nchk x => StNchk (ev fr x) v ∧ rd = [] ∧ δ = none
  | .bin c op x y => StBin c op (ev fr x) (ev fr y) v ∧ rd = [] ∧ δ = none
  | .eqs ks op x y => StEqs ks op (ev fr x) (ev fr y) v ∧ rd = [] ∧ δ = none
  | .un op x => StUn op (ev fr x) v ∧ rd = [] ∧ δ = none
  | .cint k x => StCint k (ev fr x) v ∧ rd = [] ∧ δ = none
  | .cstr x => StCstr (ev fr x) v ∧ rd = [] ∧ δ = none
  | .b2s x => StB2s (ev fr x) σ v rd ∧ δ = none
  | .s2b x => StS2b (ev fr x) v ∧ rd = [] ∧ δ = none
  | .mki t x => v = .iface t (ev fr x) ∧ rd = [] ∧ δ = none
  | .mkf f a b => v = .fn f (evL fr a) (evL fr b) ∧ rd = [] ∧ δ = none
  | .mksl esh bytes z l c => StMksl esh bytes z (ev fr l) (ev fr c) σ v rd δ
  | .slc esh x lo hi mx => StSlc esh (ev fr x) (evO fr lo) (evO fr hi) (evO fr mx) v ∧ rd = [] ∧ δ = none
  | .sls x lo hi => StSls (evO fr lo) (evO fr hi) (ev fr x) v ∧ rd = [] ∧ δ = none
  | .fad off x => StFad off (ev fr x) v ∧ rd = [] ∧ δ = none
  | .iad arr esh x i => StIad arr esh (ev fr x) (ev fr i) v ∧ rd = [] ∧ δ = none
  | .idxs x i => StIdxS (ev fr x) (ev fr i) v ∧ rd = [] ∧ δ = none
  | .idxa len sh x i => StIdxA len sh (ev fr x) (ev fr i) v ∧ rd = [] ∧ δ = none
  | .ext i x => StExt i (ev fr x) v ∧ rd = [] ∧ δ = none
  | .fld off sh x => StFld off sh (ev fr x) v ∧ rd = [] ∧ δ = none
  | .len c x => StLen c (ev fr x) v ∧ rd = [] ∧ δ = none
  | .app esh bytes s x => StApp esh bytes (ev fr s) (ev fr x) σ v rd δ
  | .cpy esh s x => StCpy esh (ev fr s) (ev fr x) σ v rd δ ∨ StCpyT esh (ev fr s) (ev fr x) σ v rd δ
  | .mn mx x y => StMin mx (ev fr x) (ev fr y) v ∧ rd = [] ∧ δ = none
  | .tas t x => StTas t (ev fr x) v ∧ rd = [] ∧ δ = none
  | .slp n esh x lo hi => StSlp n esh (ev fr x) (evO fr lo) (evO fr hi) σ v rd ∧ δ = none
  | .clr esh z x => StClr esh z (ev fr x) σ v rd δ
  | .mkm => StMkm σ v rd δ
  | .lkp k z ok x i => StLkp k z ok (ev fr x) (ev fr i) σ v rd ∧ δ = none
  | .mpu k x i y => StMpu k (ev fr x) (ev fr i) (ev fr y) σ v rd δ
  | .rgm x => StRgm (ev fr x) σ v rd δ
  | .ent x => StEnt (ev fr x) σ v rd ∧ δ = none

/-! ### resolving -/
def rParts (place : Nat → Option (Nat × Nat)) : List (Nat × Operand) → Option (List (Nat × Nat × Opd))
  | [] => some []
  | (i, x) :: r => match place i, rOpd x, rParts place r with
    | some (a, b), some y, some ys => some ((a, b, y) :: ys)
    | _, _, _ => none

def rOpds : List Operand → Option (List Opd)
  | [] => some []
  | x :: r => match rOpd x, rOpds r with
    | some y, some ys => some (y :: ys)
    | _, _ => none

def rOpt : Option Operand → Option (Option Opd)
  | none => some none
  | some x => (rOpd x).map some

def zeroCellsOf (P : Program) (t : TypeId) : Option (List AV) :=
  match P.info? t with
  | some i => match i.zero with
    | some z => ofLits z.cells.toList
    | none => none
  | none => none

def placesOf (P : Program) (t : TypeId) : Option (Nat → Option (Nat × Nat)) :=
  match P.underlying t with
  | some (.array _ e) => match P.info? e with
    | some ie => some fun i => some (i * ie.size, ie.size)
    | none => none
  | some (.struct fields) => match fields.toList.mapM (fun f => (P.info? f.type).map fun i => (f.offset, i.size)) with
    | some places => some (places.toArray[·]?)
    | none => none
  | _ => none

def fksOf (P : Program) : List Field → Option (List FK)
  | [] => some []
  | f :: r => match fkOf P f.type, fksOf P r with
    | some k, some ks => some (k :: ks)
    | _, _ => none

def ifC : Opd → EqC
  | .v .nili => .ifn
  | _ => .iface
def resBin (P : Program) (op : BinOp) (t : TypeId) (x y : Opd) : Option ROp :=
  match P.underlying t with
  | some .bool => some (.bin .bool op x y)
  | some (.pointer _) => some (.bin .ptr op x y)
  | some (.interface _) => some (.bin (ifC y) op x y)
  | some (.slice _) => some (.bin .flat op x y)
  | some (.struct fields) => match fksOf P fields.toList with
    | some ks => if flatFields P 0 fields.toList ks && !P.stoodInHeld t && !P.eqGuardType P.depth t then some (.eqs ks op x y) else none
    | none => none
  | _ => some (.bin .none op x y)

def resConv (P : Program) (src dst : TypeId) (x : Opd) : Option ROp :=
  match P.underlying dst, P.underlying src with
  | some (.int k), some _ => some (.cint k x)
  | some .string, some .string => some (.cstr x)
  | some .string, some (.slice e) => match P.underlying e with
    | some (.int .u8) => some (.b2s x)
    | _ => none
  | some (.slice e), some .string => match P.underlying e with
    | some (.int .u8) => some (.s2b x)
    | _ => none
  | _, _ => none

def resLen (P : Program) (t : TypeId) : Option LenC :=
  match P.underlying t with
  | some .string => some .str
  | some (.slice _) => some .sl
  | some (.array n _) => some (.arr n)
  | some (.pointer a) => match P.underlying a with
    | some (.array n _) => some (.arr n)
    | _ => none
  | _ => none

/-- The element's shape, of a slice's type. -/
def resElem (P : Program) (t : TypeId) : Option (TypeId × Option Nat) :=
  match P.underlying t with
  | some (.slice e) => (eshOf P e).map (e, ·)
  | _ => none

/-- Its zero cells and bytes too. -/
def resElemZ (P : Program) (t : TypeId) : Option (Option Nat × Nat × List AV) :=
  match resElem P t with
  | some (e, esh) => match P.info? e, zeroCellsOf P e with
    | some inf, some zc => if zc.length = szOf esh then some (esh, inf.bytes, zc) else none
    | _, _ => none
  | none => none

/-- What a map's type says: the keys' kind, what lies under no key. -/
def resMap (P : Program) (t : TypeId) : Option (IntKind × AV) :=
  match P.underlying t with
  | some (.map kt et) => match P.underlying kt, P.info? et with
    | some (.int k), some inf => match inf.zero with
      | some zv => (ofLit zv).map fun z => (k, z)
      | none => none
    | _, _ => none
  | _ => none

def resOp (P : Program) (o : Op) : Option ROp :=
  match o with
  | .makeMap _ none => some .mkm
  | .lookup t x i ok => match resMap P t, rOpd x, rOpd i with
    | some (k, z), some x, some i => some (.lkp k z ok x i)
    | _, _, _ => none
  | .mapUpdate t x i y | .insert t x i y => match resMap P t, rOpd x, rOpd i, rOpd y with
    | some (k, _), some x, some i, some y => some (.mpu k x i y)
    | _, _, _, _ => none
  | .range t x => match P.underlying t, rOpd x with
    | some (.map _ _), some x => some (.rgm x)
    | _, _ => none
  | .entry x => (rOpd x).map .ent
  | .move x | .assign x => (rOpd x).map .mv
  | .pick c a b => match rOpd c, rOpd a, rOpd b with
    | some c, some a, some b => some (.pick c a b)
    | _, _, _ => none
  | .alloc t => (zeroCellsOf P t).map .new
  | .box _ x => (rOpd x).map .box
  | .build t ps => match zeroCellsOf P t, placesOf P t with
    | some zc, some place => (rParts place ps.toList).map (.build zc)
    | _, _ => none
  | .buildSlice t len ps => match resElemZ P t with
    | some (esh, _, zc) => if len * szOf esh ≤ 16777216 then (rParts (fun i => some (i * szOf esh, szOf esh)) ps.toList).map (.bsl esh zc len) else none
    | none => none
  | .load t a => match eshOf P t, rOpd a with
    | some sh, some a => some (.load sh a)
    | _, _ => none
  | .store t a x => match P.info? t, rOpd a, rOpd x with
    | some i, some a, some x => some (.store i.size a x)
    | _, _, _ => none
  | .nilCheck x => (rOpd x).map .nchk
  | .binOp op t x y _ => match rOpd x, rOpd y with
    | some x, some y => resBin P op t x y
    | _, _ => none
  | .unOp op _ x => (rOpd x).map (.un op)
  | .convert src dst x => (rOpd x).bind (resConv P src dst)
  | .makeInterface t x => if P.concrete t then (rOpd x).map (.mki t) else none
  | .makeFunc f a b => match rOpds a.toList, rOpds b.toList with
    | some a, some b => some (.mkf f a b)
    | _, _ => none
  | .makeSlice t l c => match resElemZ P t, rOpd l, rOpd c with
    | some (esh, bytes, zc), some l, some c => some (.mksl esh bytes zc l c)
    | _, _, _ => none
  | .slice t x lo hi mx => match rOpd x, rOpt lo, rOpt hi, rOpt mx with
    | some x, some lo, some hi, some mx => match P.underlying t with
      | some .string => match mx with
        | none => some (.sls x lo hi)
        | some _ => none
      | some (.array n e) => match mx with
        | none => (eshOf P e).map fun sh => .slp n sh x lo hi
        | some _ => none
      | _ => (resElem P t).map fun e => .slc e.2 x lo hi mx
    | _, _, _, _ => none
  | .fieldAddr t x fi => match P.underlying t with
    | some (.struct fields) => match fields[fi]? with
      | some f => match P.info? f.type with
        | some i => if i.size = 0 then none else (rOpd x).map (.fad f.offset)
        | none => none
      | none => none
    | _ => none
  | .field t x fi => match P.underlying t with
    | some (.struct fields) => match fields[fi]? with
      | some f => match eshOf P f.type with
        | some sh => (rOpd x).map (.fld f.offset sh)
        | none => none
      | none => none
    | _ => none
  | .indexAddr t x i => match rOpd x, rOpd i with
    | some x, some i => match P.underlying t with
      | some (.slice e) => (eshOf P e).map fun sh => .iad none sh x i
      | some (.array n e) => (eshOf P e).map fun sh => .iad (some n) sh x i
      | _ => none
    | _, _ => none
  | .index t x i => match rOpd x, rOpd i with
    | some x, some i => match P.underlying t with
      | some .string => some (.idxs x i)
      | some (.array n e) => (eshOf P e).map fun sh => .idxa n sh x i
      | _ => none
    | _, _ => none
  | .extract x i => (rOpd x).map (.ext i)
  | .typeAssert x _ t ok => if ok then none else match P.underlying t with
    | some (.interface _) => none
    | some _ => (rOpd x).map (.tas t)
    | none => none
  | .call c => match c.callee with
    | .builtin b => match b, c.args.toList, c.argTypes.toList with
      | .len, [x], [t] => match resLen P t, rOpd x with
        | some k, some x => some (.len k x)
        | _, _ => none
      | .append, [s, x], [t, tx] => match resElemZ P t, rOpd s, rOpd x with
        | some (esh, bytes, _), some s, some x => match P.underlying tx with
          | some (.slice _) | some .string => some (.app esh bytes s x)
          | _ => none
        | _, _, _ => none
      | .copy, [s, x], [t, _] => match resElem P t, rOpd s, rOpd x with
        | some (_, esh), some s, some x => some (.cpy esh s x)
        | _, _, _ => none
      | .clear, [x], [t] => match resElemZ P t, rOpd x with
        | some (esh, _, zc), some x => some (.clr esh zc x)
        | _, _ => none
      | .min, [x, y], _ => match rOpd x, rOpd y with
        | some x, some y => some (.mn false x y)
        | _, _ => none
      | .max, [x, y], _ => match rOpd x, rOpd y with
        | some x, some y => some (.mn true x y)
        | _, _ => none
      | _, _, _ => none
    | _ => none
  | _ => none

/-! ### soundness -/
theorem rParts_VR {g σ n fr} {a : Act} (hf : FRel g σ n fr a) {place : Nat → Option (Nat × Nat)} : ∀ {ps : List (Nat × Operand)} {qs : List (Nat × Nat × Opd)}, rParts place ps = some qs →
    (evP fr qs).length = ps.length ∧ ∀ j (h : j < (evP fr qs).length) (h' : j < ps.length), place (ps[j]).1 = some (((evP fr qs)[j]).1, ((evP fr qs)[j]).2.1) ∧ VR g.pm g.L σ ((evP fr qs)[j]).2.2 (a.eval (ps[j]).2)
  | [], qs, h => by simp [rParts] at h; subst h; simp [evP]
  | (i, x) :: r, qs, h => by
    simp only [rParts] at h
    split at h
    · rename_i p q y ys h1 h2 h3
      cases h
      obtain ⟨i1, i2⟩ := rParts_VR hf h3
      refine ⟨by simp [evP, i1], fun j hj hj' => ?_⟩
      cases j with
      | zero => exact ⟨h1, rOpd_VR hf h2⟩
      | succ j => exact i2 j (by simpa [evP] using hj) (by simpa using hj')
    · cases h

theorem rOpds_VR {g σ n fr} {a : Act} (hf : FRel g σ n fr a) : ∀ {ps : List Operand} {qs : List Opd}, rOpds ps = some qs →
    (evL fr qs).length = ps.length ∧ ∀ j (h : j < (evL fr qs).length) (h' : j < ps.length), VR g.pm g.L σ ((evL fr qs)[j]) (a.eval (ps[j]))
  | [], qs, h => by simp [rOpds] at h; subst h; simp [evL]
  | x :: r, qs, h => by
    simp only [rOpds] at h
    split at h
    · rename_i y ys h2 h3
      cases h
      obtain ⟨i1, i2⟩ := rOpds_VR hf h3
      refine ⟨by simp [evL, i1], fun j hj hj' => ?_⟩
      cases j with
      | zero => exact rOpd_VR hf h2
      | succ j => exact i2 j (by simpa [evL] using hj) (by simpa using hj')
    · cases h

theorem rOpt_OVR {g σ n fr} {a : Act} (hf : FRel g σ n fr a) {x : Option Operand} {y : Option Opd} (h : rOpt x = some y) : OVR g σ (evO fr y) (x.map a.eval) := by
  cases x with
  | none => simp [rOpt] at h; subst h; exact .none
  | some x =>
    simp only [rOpt, Option.map_eq_some_iff] at h
    obtain ⟨z, h1, rfl⟩ := h
    exact .some (rOpd_VR hf h1)

theorem zeroCellsOf_eq {P : Program} {t : TypeId} {zc} (h : zeroCellsOf P t = some zc) : ∃ i z, P.info? t = some i ∧ i.zero = some z ∧ ofLits z.cells.toList = some zc := by
  unfold zeroCellsOf at h
  split at h
  · rename_i i hi
    split at h
    · rename_i z hz; exact ⟨i, z, hi, hz, h⟩
    · cases h
  · cases h

theorem run_built {P : Program} {t : TypeId} {place : Nat → Option (Nat × Nat)} {parts : Array (Nat × Value)} {cells : Array Value} {i : TypeInfo} {z : Value} (hp : placesOf P t = some place) (hi : P.info? t = some i) (hz : i.zero = some z)
    (h : Instr.fill place z.cells parts.toList = some cells) (w : World) : (Instr.build t parts).run P w = .ok (.agg cells) w := by
  refine run_build w t parts cells ?_
  unfold placesOf at hp
  unfold Program.built
  rw [hi]
  split at hp
  · rename_i e hu
    rw [hu]
    split at hp
    · rename_i ie hie
      cases hp
      simp only [hz, hie]
      exact h
    · cases hp
  · rename_i fields hu
    rw [hu]
    split at hp
    · rename_i places hpl
      cases hp
      simp only [hz, hpl]
      exact h
    · cases hp
  · cases hp

theorem resElem_eq {P : Program} {t e esh} (h : resElem P t = some (e, esh)) : P.underlying t = some (.slice e) ∧ eshOf P e = some esh := by
  unfold resElem at h
  split at h
  · rename_i hu
    simp only [Option.map_eq_some_iff, Prod.mk.injEq] at h
    obtain ⟨_, h1, rfl, rfl⟩ := h
    exact ⟨hu, h1⟩
  · cases h

theorem resElemZ_eq {P : Program} {t esh bytes zc} (h : resElemZ P t = some (esh, bytes, zc)) :
    ∃ e inf z, P.underlying t = some (.slice e) ∧ eshOf P e = some esh ∧ P.info? e = some inf ∧ inf.zero = some z ∧ ofLits z.cells.toList = some zc ∧ zc.length = szOf esh ∧ inf.bytes = bytes := by
  unfold resElemZ at h
  split at h
  · rename_i e esh' he
    obtain ⟨h1, h2⟩ := resElem_eq he
    split at h
    · rename_i inf zc' hi hz
      split at h
      · rename_i hl
        cases h
        obtain ⟨i, z, a, b, c⟩ := zeroCellsOf_eq hz
        rw [hi] at a; cases a
        exact ⟨e, inf, z, h1, h2, hi, b, c, hl, rfl⟩
      · cases h
    · cases h
  · cases h
end Go.Ab
/- Each resolved operation does what it says. -/
namespace Go.Ab
set_option linter.constructorNameAsVariable false
set_option linter.unusedSimpArgs false
set_option linter.unusedVariables false
open Go.RowKit
set_option linter.unusedVariables false
set_option linter.unusedSimpArgs false

theorem Goes.pureV {P g σ w v u} (hw : WRel g σ w) (hv : VR g.pm g.L σ v u) : Goes P g σ w (pure (.value u)) v none :=
  ⟨.value u, u, w, g, rfl, .inl rfl, hw, Gh.le.refl _ _, hv⟩

theorem Goes.of_run {P g σ w s s' v δ} (h : Goes P g σ w s v δ) (e : s'.run P w = s.run P w) : Goes P g σ w s' v δ := by
  obtain ⟨res, u, w', g', e1, e2⟩ := h
  exact ⟨res, u, w', g', e.trans e1, e2⟩

theorem ifC_const {oy : Operand} {y : Opd} (h : rOpd oy = some y) : ifC y = .ifn → ∃ u, oy = .const u := by
  intro e
  cases oy with
  | tmp t => cases h; simp [ifC] at e
  | const u => exact ⟨u, rfl⟩
  | func f => cases h; simp [ifC] at e
  | global g => simp [rOpd] at h
theorem ifC_fits {P : Program} {t : TypeId} {y : Opd} (h : ∃ ms, P.underlying t = some (.interface ms)) : EqC.fits P t (ifC y) := by
  unfold ifC
  split <;> exact h
theorem array_one {α : Type} {a : Array α} {x : α} (h : a.toList = [x]) : a = #[x] := by
  cases a; simp at h; subst h; rfl
theorem array_two {α : Type} {a : Array α} {x y : α} (h : a.toList = [x, y]) : a = #[x, y] := by
  cases a; simp at h; subst h; rfl

theorem getElem_map_toList {α β : Type} (f : α → β) (a : Array α) (j : Nat) (h : j < (a.map f).size) : (a.map f)[j] = f (a.toList[j]'(by simpa using h)) := by simp

def evParts (a : Act) (ps : Array (Nat × Operand)) : Array (Nat × Value) := ps.map fun (i, x) => (i, a.eval x)
theorem evParts_size (a : Act) (ps) : (evParts a ps).size = ps.size := by simp [evParts]
theorem evParts_get (a : Act) (ps : Array (Nat × Operand)) (j : Nat) (h : j < (evParts a ps).size) : (evParts a ps)[j] = ((ps[j]'(by simpa [evParts] using h)).1, a.eval (ps[j]'(by simpa [evParts] using h)).2) := by simp [evParts]

theorem res_bsl {P : Program} {t len esh bytes zc} {ps : Array (Nat × Operand)} {qs} (h1 : resElemZ P t = some (esh, bytes, zc)) (hbig : len * szOf esh ≤ 16777216)
    (h3 : rParts (fun i => some (i * szOf esh, szOf esh)) ps.toList = some qs) {g σ n fr} {a : Act} {w v rd δ} (hw : WRel g σ w) (hf : FRel g σ n fr a) (hst : St (.bsl esh zc len qs) fr σ v rd δ) :
    Goes P g σ w (do pure (.value (← Instr.buildSlice t len (evParts a ps)))) v δ := by
  obtain ⟨e, inf, z, hu, he, hi, hz, hzc, hzl, _⟩ := resElemZ_eq h1
  obtain ⟨p1, p2⟩ := rParts_VR hf h3
  have hl : (evP fr qs).length = (evParts a ps).size := by simpa [evParts_size] using p1
  have hp : ∀ j (b : j < (evP fr qs).length) (c : j < (evParts a ps).size), ((evP fr qs)[j]).1 = ((evParts a ps)[j]).1 * szOf esh ∧ ((evP fr qs)[j]).2.1 = szOf esh ∧
      VR g.pm g.L σ ((evP fr qs)[j]).2.2 ((evParts a ps)[j]).2 := fun j b c => by
    have c' : j < ps.size := by simpa [evParts_size] using c
    obtain ⟨q1, q2⟩ := p2 j b (by simpa using c')
    rw [Array.getElem_toList] at q1 q2
    simp only [Option.some.injEq, Prod.mk.injEq] at q1
    rw [evParts_get]
    exact ⟨q1.1.symm, q1.2.symm, q2⟩
  exact sound_bsl hw hu he hi hz hzc hzl hbig hl hp hst

set_option maxHeartbeats 1000000 in
theorem res_sound {P : Program} {o : Oper} {r : ROp} (h : resOp P o.op = some r) {g σ n fr} {a : Act} {w v rd δ} (hw : WRel g σ w) (hf : FRel g σ n fr a) (hst : St r fr σ v rd δ) :
    Goes P g σ w (execOp a.eval o) v δ := by
  obtain ⟨dst, op, ty, pos, after, guard⟩ := o
  have hmap : ∀ {t : TypeId} {k : IntKind} {z : AV}, resMap P t = some (k, z) → ∃ kt et inf zv, P.underlying t = some (.map kt et) ∧ P.underlying kt = some (.int k) ∧ P.info? et = some inf ∧ inf.zero = some zv ∧ ofLit zv = some z := fun {t k z} e => by
    unfold resMap at e
    split at e
    · split at e
      · split at e
        · simp only [Option.map_eq_some_iff] at e
          obtain ⟨z', e1, e2⟩ := e
          cases e2
          exact ⟨_, _, _, _, by assumption, by assumption, by assumption, by assumption, e1⟩
        · cases e
      · cases e
    · cases e
  cases op
  case makeMap t r =>
    cases r with
    | some r => simp [resOp] at h
    | none =>
      simp only [resOp, Option.some.injEq] at h
      subst h
      exact sound_mkm hw hst
  all_goals simp only [resOp] at h
  all_goals try (cases h; done)
  case lookup t x i ok =>
    split at h
    · rename_i k z x' i' h1 h2 h3
      cases h
      obtain ⟨kt, et, inf, zv, e1, e2, e3, e4, e5⟩ := hmap h1
      obtain ⟨hst, rfl⟩ := hst
      exact sound_lkp hw e1 e2 e3 e4 e5 (rOpd_VR hf h2) (rOpd_VR hf h3) hst
    · cases h
  case mapUpdate t x i y =>
    split at h
    · rename_i k z x' i' y' h1 h2 h3 h4
      cases h
      obtain ⟨kt, et, inf, zv, e1, e2, e3, e4, e5⟩ := hmap h1
      exact sound_mpu hw e1 e2 (rOpd_VR hf h2) (rOpd_VR hf h3) (rOpd_VR hf h4) hst
    · cases h
  case insert t x i y =>
    split at h
    · rename_i k z x' i' y' h1 h2 h3 h4
      cases h
      obtain ⟨kt, et, inf, zv, e1, e2, e3, e4, e5⟩ := hmap h1
      exact sound_mpu hw e1 e2 (rOpd_VR hf h2) (rOpd_VR hf h3) (rOpd_VR hf h4) hst
    · cases h
  case range t x =>
    split at h
    · rename_i kt et x' h1 h2
      cases h
      exact sound_rgm hw h1 (rOpd_VR hf h2) hst
    · cases h
  case entry x =>
    simp only [Option.map_eq_some_iff] at h
    obtain ⟨x', h1, rfl⟩ := h
    obtain ⟨hst, rfl⟩ := hst
    exact sound_ent hw (rOpd_VR hf h1) hst
  case move x =>
    simp only [Option.map_eq_some_iff] at h; obtain ⟨y, h1, rfl⟩ := h
    obtain ⟨rfl, _, rfl⟩ := hst
    exact Goes.pureV hw (rOpd_VR hf h1)
  case assign x =>
    simp only [Option.map_eq_some_iff] at h; obtain ⟨y, h1, rfl⟩ := h
    obtain ⟨rfl, _, rfl⟩ := hst
    exact Goes.pureV hw (rOpd_VR hf h1)
  case pick c x y =>
    split at h
    · rename_i c' x' y' h1 h2 h3
      cases h
      obtain ⟨hp, _, rfl⟩ := hst
      unfold StPick at hp
      split at hp
      · rename_i t ht
        have hc := rOpd_VR hf h1
        rw [ht] at hc
        generalize hcv : a.eval c = cv at hc
        cases hc
        subst hp
        refine ⟨.value (if t then a.eval x else a.eval y), _, w, g, ?_, .inl rfl, hw, Gh.le.refl _ _, ?_⟩
        · show (do pure (Next.value (if ← asBool (a.eval c) then a.eval x else a.eval y))).run P w = _
          rw [hcv]; cases t <;> rfl
        · cases t
          · exact rOpd_VR hf h3
          · exact rOpd_VR hf h2
      · exact hp.elim
    · cases h
  case alloc t =>
    simp only [Option.map_eq_some_iff] at h; obtain ⟨zc, h1, rfl⟩ := h
    obtain ⟨i, z, hi, hz, hzc⟩ := zeroCellsOf_eq h1
    obtain ⟨z1, z2⟩ := ofLits_VR (pm := g.pm) (L := g.L) (σ := σ) hzc
    have := sound_new (P := P) (t := t) (c := z.cells) hw (by simpa using z1) (fun j a b => by have := z2 j a (by simpa using b); rwa [Array.getElem_toList] at this) hst
    obtain ⟨res, u, w', g', e1, e2⟩ := this
    refine ⟨res, u, w', g', ?_, e2⟩
    rw [← e1]
    have hzr : (zeroValue t).run P w = .ok z w := by simp [zeroValue, typeInfo, hi, hz]
    simp [execOp, Instr.alloc, hzr, newVar]
  case box t x =>
    simp only [Option.map_eq_some_iff] at h; obtain ⟨y, h1, rfl⟩ := h
    obtain ⟨hnj, hst⟩ := hst
    obtain ⟨c1, c2⟩ := (rOpd_VR hf h1).cells (by rintro e; rw [e] at hnj; simp [AV.nj] at hnj)
    have := sound_new (P := P) (t := t) (c := (a.eval x).cells) hw c1 c2 hst
    obtain ⟨res, u, w', g', e1, e2⟩ := this
    refine ⟨res, u, w', g', ?_, e2⟩
    rw [← e1]
    simp [execOp, Instr.box, newVar]
  case build t ps =>
    split at h
    · rename_i zc place h1 h2
      simp only [Option.map_eq_some_iff] at h; obtain ⟨qs, h3, rfl⟩ := h
      obtain ⟨⟨cs, hfill, rfl⟩, _, rfl⟩ := hst
      obtain ⟨i, z, hi, hz, hzc⟩ := zeroCellsOf_eq h1
      obtain ⟨z1, z2⟩ := ofLits_VR (pm := g.pm) (L := g.L) (σ := σ) hzc
      obtain ⟨p1, p2⟩ := rParts_VR hf h3
      have hvl : VL g.pm g.L σ zc z.cells := ⟨by simpa using z1, fun j a b => by have := z2 j a (by simpa using b); rwa [Array.getElem_toList] at this⟩
      obtain ⟨vs', e1, e2⟩ := run_fill place (evP fr qs) (ps.map fun (i, x) => (i, a.eval x)).toList hvl (by simpa using p1) (fun j a b => by
        have b' : j < ps.size := by simpa using b
        have := p2 j a (by simpa using b')
        rw [Array.getElem_toList] at this
        simpa using this) hfill
      exact Goes.val hw (run_built h2 hi hz e1 w) (.agg e2.1 e2.2)
    · cases h
  case buildSlice t len ps =>
    split at h
    · rename_i esh bytes zc h1
      split at h
      · rename_i hbig
        simp only [Option.map_eq_some_iff] at h; obtain ⟨qs, h3, rfl⟩ := h
        exact res_bsl h1 hbig h3 hw hf hst
      · cases h
    · cases h
  case load t x =>
    split at h
    · rename_i sh y h1 h2
      cases h
      obtain ⟨hst, rfl⟩ := hst
      exact sound_load hw h1 (rOpd_VR hf h2) hst
    · cases h
  case store t x y =>
    split at h
    · rename_i i x' y' h1 h2 h3
      cases h
      exact sound_store hw h1 rfl (rOpd_VR hf h2) (rOpd_VR hf h3) hst
    · cases h
  case nilCheck x =>
    simp only [Option.map_eq_some_iff] at h; obtain ⟨y, h1, rfl⟩ := h
    obtain ⟨hst, _, rfl⟩ := hst
    have hx := rOpd_VR hf h1
    have key : ∀ u, a.eval x = u → (match u with | .pointer (some _) | .iface _ _ | .func (.func _) _ _ => True | _ => False) → v = ev fr y → Goes P g σ w (execOp a.eval ⟨dst, .nilCheck x, ty, pos, after, guard⟩) v none := fun u e hu hv => by
      subst hv
      refine ⟨.value (a.eval x), a.eval x, w, g, ?_, .inl rfl, hw, Gh.le.refl _ _, hx⟩
      simp only [execOp]
      rw [e]
      cases u <;> first
        | exact hu.elim
        | rfl
        | (rename_i p; cases p <;> first | exact hu.elim | rfl)
        | (rename_i f _ _; cases f <;> first | exact hu.elim | rfl)
    unfold StNchk at hst
    generalize hq : ev fr y = q at hst hx
    generalize hev : a.eval x = u at hx
    split at hst
    · cases hx; exact key _ hev trivial (hst.trans hq.symm)
    · cases hx; exact key _ hev trivial (hst.trans hq.symm)
    · cases hx; exact key _ hev trivial (hst.trans hq.symm)
    · cases hx; exact key _ hev trivial (hst.trans hq.symm)
    · exact hst.elim
  case binOp op t x y t2 =>
    split at h
    · rename_i x' y' h1 h2
      have hx := rOpd_VR hf h1
      have hy := rOpd_VR hf h2
      unfold resBin at h
      split at h
      · rename_i hu; cases h; obtain ⟨hst, _, rfl⟩ := hst; exact sound_bin (c := .bool) (fun e => by cases e) hw hu hx hy hst
      · rename_i hu; cases h; obtain ⟨hst, _, rfl⟩ := hst; exact sound_bin (c := .ptr) (fun e => by cases e) hw ⟨_, hu⟩ hx hy hst
      · rename_i hu; cases h; obtain ⟨hst, _, rfl⟩ := hst; exact sound_bin (c := ifC y') (ifC_const h2) hw (ifC_fits ⟨_, hu⟩) hx hy hst
      · rename_i hu; cases h; obtain ⟨hst, _, rfl⟩ := hst; exact sound_bin (c := .flat) (fun e => by cases e) hw ⟨_, hu⟩ hx hy hst
      · rename_i fields hu
        split at h
        · rename_i ks hk
          split at h
          · rename_i hc
            cases h
            obtain ⟨hst, _, rfl⟩ := hst
            simp only [Bool.and_eq_true, Bool.not_eq_true'] at hc
            exact sound_eqs hw hu hc.1.1 hc.1.2 hc.2 hx hy hst
          · cases h
        · cases h
      · cases h; obtain ⟨hst, _, rfl⟩ := hst; exact sound_bin (c := .none) (fun e => by cases e) hw trivial hx hy hst
    · cases h
  case unOp op t x =>
    simp only [Option.map_eq_some_iff] at h; obtain ⟨y, h1, rfl⟩ := h
    obtain ⟨hst, _, rfl⟩ := hst
    exact sound_un hw (rOpd_VR hf h1) hst
  case convert src d x =>
    simp only [Option.bind_eq_some_iff] at h; obtain ⟨y, h1, h⟩ := h
    have hx := rOpd_VR hf h1
    unfold resConv at h
    split at h
    · rename_i hd hs
      cases h; obtain ⟨hst, _, rfl⟩ := hst
      exact sound_convInt hw ⟨_, hs⟩ hd hx hst
    · rename_i hd hs
      cases h; obtain ⟨hst, _, rfl⟩ := hst
      exact sound_convStr hw hs hd hx hst
    · rename_i e hd hs
      split at h
      · rename_i he
        cases h; obtain ⟨hst, rfl⟩ := hst
        exact sound_b2s hw hs he hd hx hst
      · cases h
    · rename_i e hd hs
      split at h
      · rename_i he
        cases h; obtain ⟨hst, _, rfl⟩ := hst
        exact sound_s2b hw hs he hd hx hst
      · cases h
    · cases h
  case makeInterface t x =>
    split at h
    · rename_i hc
      simp only [Option.map_eq_some_iff] at h; obtain ⟨y, h1, rfl⟩ := h
      obtain ⟨hst, _, rfl⟩ := hst
      exact sound_mki hw hc (rOpd_VR hf h1) hst
    · cases h
  case makeFunc f x y =>
    split at h
    · rename_i x' y' h1 h2
      cases h; obtain ⟨rfl, _, rfl⟩ := hst
      obtain ⟨a1, a2⟩ := rOpds_VR hf h1
      obtain ⟨b1, b2⟩ := rOpds_VR hf h2
      refine Goes.val hw (u := .func f (x.map a.eval) (y.map a.eval)) rfl (.fn (by simpa using a1.symm) (by simpa using b1.symm) (fun j p q => ?_) (fun j p q => ?_))
      · rw [getElem_map_toList]; exact a2 j p _
      · rw [getElem_map_toList]; exact b2 j p _
    · cases h
  case makeSlice t l c =>
    split at h
    · rename_i esh bytes zc l' c' h1 h2 h3
      cases h
      obtain ⟨e, inf, z, hu, he, hi, hz, hzc, hzl, rfl⟩ := resElemZ_eq h1
      exact sound_mksl hw hu he hi hz hzc hzl (rOpd_VR hf h2) (rOpd_VR hf h3) hst
    · cases h
  case slice t x lo hi mx =>
    split at h
    · rename_i x' lo' hi' mx' h1 h2 h3 h4
      split at h
      · rename_i hu
        split at h
        · rename_i e1
          cases h; obtain ⟨hst, _, rfl⟩ := hst
          have hm : mx.map a.eval = none := by
            cases mx with
            | none => rfl
            | some z => simp [rOpt] at h4
          have := sound_sls (P := P) hw hu (rOpd_VR hf h1) (rOpt_OVR hf h2) (rOpt_OVR hf h3) hst
          rw [← hm] at this
          exact this
        · cases h
      · rename_i n e hu
        split at h
        · rename_i e1
          simp only [Option.map_eq_some_iff] at h; obtain ⟨sh, hs, rfl⟩ := h
          obtain ⟨hst, rfl⟩ := hst
          have hm : mx.map a.eval = none := by
            cases mx with
            | none => rfl
            | some z => simp [rOpt] at h4
          have := sound_slp (P := P) hw hu hs (rOpd_VR hf h1) (rOpt_OVR hf h2) (rOpt_OVR hf h3) hst
          rw [← hm] at this
          exact this
        · cases h
      · simp only [Option.map_eq_some_iff] at h; obtain ⟨⟨e, esh⟩, h5, rfl⟩ := h
        obtain ⟨hst, _, rfl⟩ := hst
        obtain ⟨hu, he⟩ := resElem_eq h5
        exact sound_slc hw he hu (rOpd_VR hf h1) (rOpt_OVR hf h2) (rOpt_OVR hf h3) (rOpt_OVR hf h4) hst
    · cases h
  case fieldAddr t x fi =>
    split at h
    · rename_i fields hu
      split at h
      · rename_i f hfi
        split at h
        · rename_i i hi
          split at h
          · cases h
          · rename_i hz
            simp only [Option.map_eq_some_iff] at h; obtain ⟨y, h1, rfl⟩ := h
            obtain ⟨hst, _, rfl⟩ := hst
            exact sound_fad hw hu hfi ⟨i, hi, hz⟩ (rOpd_VR hf h1) hst
        · cases h
      · cases h
    · cases h
  case field t x fi =>
    split at h
    · rename_i fields hu
      split at h
      · rename_i f hfi
        split at h
        · rename_i sh hs
          simp only [Option.map_eq_some_iff] at h; obtain ⟨y, h1, rfl⟩ := h
          obtain ⟨hst, _, rfl⟩ := hst
          exact sound_fld hw hu hfi hs (rOpd_VR hf h1) hst
        · cases h
      · cases h
    · cases h
  case indexAddr t x i =>
    split at h
    · rename_i x' i' h1 h2
      split at h
      · rename_i e hu
        simp only [Option.map_eq_some_iff] at h; obtain ⟨sh, hs, rfl⟩ := h
        obtain ⟨hst, _, rfl⟩ := hst
        exact sound_iad (arr := none) hw hs hu (rOpd_VR hf h1) (rOpd_VR hf h2) hst
      · rename_i k e hu
        simp only [Option.map_eq_some_iff] at h; obtain ⟨sh, hs, rfl⟩ := h
        obtain ⟨hst, _, rfl⟩ := hst
        exact sound_iad (arr := some k) hw hs hu (rOpd_VR hf h1) (rOpd_VR hf h2) hst
      · cases h
    · cases h
  case index t x i =>
    split at h
    · rename_i x' i' h1 h2
      split at h
      · rename_i hu
        cases h
        obtain ⟨hst, _, rfl⟩ := hst
        exact sound_idx_str hw hu (rOpd_VR hf h1) (rOpd_VR hf h2) hst
      · rename_i k e hu
        simp only [Option.map_eq_some_iff] at h; obtain ⟨sh, hs, rfl⟩ := h
        obtain ⟨hst, _, rfl⟩ := hst
        exact sound_idx_arr hw hu hs (rOpd_VR hf h1) (rOpd_VR hf h2) hst
      · cases h
    · cases h
  case extract x i =>
    simp only [Option.map_eq_some_iff] at h; obtain ⟨y, h1, rfl⟩ := h
    obtain ⟨hst, _, rfl⟩ := hst
    exact sound_ext hw (rOpd_VR hf h1) hst
  case typeAssert x xt t ok =>
    split at h
    · cases h
    · rename_i hok
      have : ok = false := by simpa using hok
      subst this
      split at h
      · cases h
      · rename_i d hni hd
        simp only [Option.map_eq_some_iff] at h; obtain ⟨y, h1, rfl⟩ := h
        obtain ⟨hst, _, rfl⟩ := hst
        exact sound_tas hw hd (fun ms e => hni ms (by rw [e])) (rOpd_VR hf h1) hst
      · cases h
  case call c =>
    obtain ⟨callee, args, argTypes⟩ := c
    simp only at h
    split at h
    · rename_i b
      split at h
      · rename_i x t ha ht
        split at h
        · rename_i k x' h1 h2
          cases h; obtain ⟨hst, _, rfl⟩ := hst
          obtain rfl := array_one ha
          obtain rfl := array_one ht
          have hfit : LenC.fits P t k := by
            unfold resLen at h1
            split at h1 <;> (try cases h1)
            · rename_i hu; exact hu
            · rename_i hu; exact ⟨_, hu⟩
            · rename_i hu; exact .inl ⟨_, hu⟩
            · rename_i hu
              split at h1
              · rename_i hu2; cases h1; exact .inr ⟨_, _, hu, hu2⟩
              · cases h1
          exact (sound_len (ty := ty) hw hfit (rOpd_VR hf h2) hst).of_run (by simp [execOp, resolve, invoke, builtin])
        · cases h
      · rename_i s x t tx ha ht
        split at h
        · rename_i esh bytes zc s' x' h1 h2 h3
          obtain rfl := array_two ha
          obtain rfl := array_two ht
          obtain ⟨e, inf, z, hu, he, hi, hz, hzc, hzl, rfl⟩ := resElemZ_eq h1
          have hzs : z.cells.size = szOf esh := by
            have := (ofLits_VR (pm := g.pm) (L := g.L) (σ := σ) hzc).1
            rw [← hzl, ← this]; simp
          split at h
          · rename_i e' hux
            cases h
            exact (sound_app (ty := ty) hw hu hux (.inl ⟨e', rfl⟩) he hi hz hzs (rOpd_VR hf h2) (rOpd_VR hf h3) hst).of_run (by simp [execOp, resolve, invoke, builtin])
          · rename_i hux
            cases h
            exact (sound_app (ty := ty) hw hu hux (.inr rfl) he hi hz hzs (rOpd_VR hf h2) (rOpd_VR hf h3) hst).of_run (by simp [execOp, resolve, invoke, builtin])
          · cases h
        · cases h
      · rename_i s x t tx ha ht
        split at h
        · rename_i e esh s' x' h1 h2 h3
          cases h
          obtain rfl := array_two ha
          obtain rfl := array_two ht
          obtain ⟨hu, he⟩ := resElem_eq h1
          rcases hst with hst | hst
          · exact (sound_cpy (ty := ty) (tx := tx) hw hu he (rOpd_VR hf h2) (rOpd_VR hf h3) hst).of_run (by simp [execOp, resolve, invoke, builtin])
          · exact (sound_cpyT (ty := ty) (tx := tx) hw hu he (rOpd_VR hf h2) (rOpd_VR hf h3) hst).of_run (by simp [execOp, resolve, invoke, builtin])
        · cases h
      · rename_i x t ha ht
        split at h
        · rename_i esh bytes zc x' h1 h2
          cases h
          obtain rfl := array_one ha
          obtain rfl := array_one ht
          obtain ⟨e, inf, z, hu, he, hi, hz, hzc, hzl, rfl⟩ := resElemZ_eq h1
          exact (sound_clr (ty := ty) hw hu he hi hz hzc hzl (rOpd_VR hf h2) hst).of_run (by simp [execOp, resolve, invoke, builtin])
        · cases h
      · rename_i x y ha
        split at h
        · rename_i x' y' h1 h2
          cases h; obtain ⟨hst, _, rfl⟩ := hst
          obtain rfl := array_two ha
          exact (sound_min (P := P) (ts := argTypes) (ty := ty) hw (rOpd_VR hf h1) (rOpd_VR hf h2) hst).of_run (by simp [execOp, resolve, invoke, builtin])
        · cases h
      · rename_i x y ha
        split at h
        · rename_i x' y' h1 h2
          cases h; obtain ⟨hst, _, rfl⟩ := hst
          obtain rfl := array_two ha
          exact (sound_max (P := P) (ts := argTypes) (ty := ty) hw (rOpd_VR hf h1) (rOpd_VR hf h2) hst).of_run (by simp [execOp, resolve, invoke, builtin])
        · cases h
      · cases h
    · cases h
end Go.Ab
/- What a Go function does to abstract values: Ev; and that a call that was given no object touches none. -/
namespace Go.Ab
set_option linter.constructorNameAsVariable false
set_option linter.unusedSimpArgs false
set_option linter.unusedVariables false
open Go.RowKit
set_option linter.unusedVariables false
set_option linter.unusedSimpArgs false

mutual
/-- No object is named from number n on. -/
def AV.blw (n : Nat) : AV → Bool
  | .ptr o _ _ => decide (o < n)
  | .ref o _ _ _ _ => decide (o < n)
  | .mp o _ => decide (o < n)
  | .itr o => decide (o < n)
  | .cptr cs _ => blwL n cs
  | .sl _ _ xs => blwL n xs
  | .agg cs => blwL n cs
  | .tup vs => blwL n vs
  | .fn _ a b => blwL n a && blwL n b
  | .iface _ v => v.blw n
  | _ => true
def blwL (n : Nat) : List AV → Bool
  | [] => true
  | x :: r => x.blw n && blwL n r
end

theorem blwL_get {n : Nat} : ∀ {xs : List AV}, blwL n xs = true → ∀ j (h : j < xs.length), (xs[j]).blw n = true
  | [], _, j, h => by simp at h
  | x :: r, h, 0, _ => by simp only [blwL, Bool.and_eq_true] at h; exact h.1
  | x :: r, h, j + 1, hj => by simp only [blwL, Bool.and_eq_true] at h; exact blwL_get h.2 j (by simpa using hj)

theorem blwL_iff {n : Nat} : ∀ {xs : List AV}, blwL n xs = true ↔ ∀ x ∈ xs, x.blw n = true
  | [] => by simp [blwL]
  | x :: r => by simp [blwL, blwL_iff (xs := r)]

theorem cells_below {n : Nat} {x : AV} (h : x.blw n = true) : blwL n x.cells = true := by
  cases x <;> first | exact h | (simp only [AV.cells, blwL, Bool.and_true]; exact h)

theorem VR.agree {pm L σ L' σ' n} {x : AV} {v : Value} (h : VR pm L σ x v) (hb : x.blw n = true) (hs : ∀ o, o < n → σ' o = σ o ∧ L' o = L o) : VR pm L' σ' x v := by
  induction h with
  | int => exact .int
  | bool => exact .bool
  | str => exact .str
  | nilp => exact .nilp
  | ptr h =>
    simp only [AV.blw, decide_eq_true_eq] at hb
    obtain ⟨e1, e2⟩ := hs _ hb
    exact .ptr (by unfold PtrOK at *; rw [e1, e2]; exact h)
  | cptr us hp hv ih =>
    simp only [AV.blw] at hb
    exact .cptr us hp (fun j hj => ih j hj (blwL_get hb j hj))
  | nils => exact .nils
  | snn => exact .snn
  | snnz => exact .snnz
  | slnil => exact .slnil
  | slz => exact .slz
  | sl us hc he hz hp hv ih =>
    simp only [AV.blw] at hb
    exact .sl us hc he hz hp (fun i hi j hj => ih i hi j hj (blwL_get (cells_below (blwL_get hb i hi)) j hj))
  | ref hn hsp h =>
    simp only [AV.blw, decide_eq_true_eq] at hb
    obtain ⟨e1, e2⟩ := hs _ hb
    exact .ref hn hsp (by unfold RefOK at *; rw [e1, e2]; exact h)
  | refz hsp h =>
    simp only [AV.blw, decide_eq_true_eq] at hb
    obtain ⟨e1, e2⟩ := hs _ hb
    exact .refz hsp (by unfold VerOK at *; rw [e1]; exact h)
  | agg hl hv ih => simp only [AV.blw] at hb; exact .agg hl (fun j a b => ih j a b (blwL_get hb j a))
  | tup hl hv ih => simp only [AV.blw] at hb; exact .tup hl (fun j a b => ih j a b (blwL_get hb j a))
  | nilf => exact .nilf
  | fn hlf hlc hvf hvc ihf ihc =>
    simp only [AV.blw, Bool.and_eq_true] at hb
    exact .fn hlf hlc (fun j a b => ihf j a b (blwL_get hb.1 j a)) (fun j a b => ihc j a b (blwL_get hb.2 j a))
  | nili => exact .nili
  | iface h ih => simp only [AV.blw] at hb; exact .iface (ih hb)
  | nilm => exact .nilm
  | mp h =>
    simp only [AV.blw, decide_eq_true_eq] at hb
    obtain ⟨e1, e2⟩ := hs _ hb
    exact .mp (by unfold MpOK at *; rw [e1, e2]; exact h)
  | itr h =>
    simp only [AV.blw, decide_eq_true_eq] at hb
    obtain ⟨e1, e2⟩ := hs _ hb
    exact .itr (by unfold ItOK at *; rw [e1, e2]; exact h)
  | junk => exact .junk

def VRs (g : Gh) (σ : Hp) (args : List AV) (vals : Array Value) : Prop :=
  vals.size = args.length ∧ ∀ j (h : j < args.length) (h' : j < vals.size), VR g.pm g.L σ (args[j]) (vals[j])

/-- The call of f with these arguments returns r and leaves the heap as σ'. -/
def Ev (P : Program) (f : FuncId) (args : List AV) (σ : Hp) (r : AV) (σ' : Hp) : Prop :=
  ∀ (g : Gh) (w : World) (vals : Array Value), WRel g σ w → VRs g σ args vals →
    Calls P f vals w fun e w' => ∃ u g', e = .returned u ∧ g.le σ g' σ' ∧ WRel g' σ' w' ∧ VR g'.pm g'.L σ' r u

abbrev noHp : Hp := fun _ => .virgin

def PureEv (P : Program) (f : FuncId) (args : List AV) (r : AV) : Prop := Ev P f args noHp r noHp

theorem PureEv.frame {P f args r} (h : PureEv P f args r) (hb : blwL 0 args = true) (hr : r.blw 0 = true) (σ : Hp) : Ev P f args σ r σ := by
  intro g w vals hw hv
  classical
  let owned : Nat → Nat → Prop := fun b o => ∃ i ver cs, σ i = .arr ver cs ∧ (g.L i).b = b ∧ ∃ j, j < (g.L i).cap ∧ (g.L i).off + j = o
  let gE : Gh := { g with tm := fun b o => if owned b o then w.cell? ⟨b, o, none⟩ else g.tm b o, B0 := w.heap.size, w0 := w }
  have hwE : WRel gE noHp w := by
    refine ⟨hw.pm, fun b o v e => ?_, fun b o v e => ?_, fun b o v e => ?_, Below.refl _ _, Nat.le_refl _, (fun b p e => by
      obtain ⟨h1, cs, t, fz, h2, h3⟩ := hw.tab b p e
      exact ⟨Nat.lt_of_lt_of_le h1 hw.B0, cs, t, fz, by rw [hw.low.block b h1]; exact h2, h3⟩), BkOK.refl _, (fun o ver cs e => by simp [noHp] at e), (fun o o' v v' c c' e => by simp [noHp] at e), (fun o es it e => by simp [noHp] at e), (fun o o' es es' it it' e => by simp [noHp] at e)⟩
    · by_cases ho : owned b o
      · simpa [gE, ho] using e
      · exact hw.tm _ _ _ (by simpa [gE, ho] using e)
    · by_cases ho : owned b o
      · obtain ⟨i, ver, cs, e1, rfl, j, hj, rfl⟩ := ho
        exact (hw.ob i ver cs e1).free j hj
      · exact hw.tmf _ _ _ (by simpa [gE, ho] using e)
    · have ho : ¬ owned b o := by
        rintro ⟨i, ver, cs, e1, rfl, j, hj, rfl⟩
        have := (hw.ob i ver cs e1).pm j hj
        rw [show gE.pm = g.pm from rfl] at e
        rw [this] at e; cases e
      simpa [gE, ho] using hw.disj b o v e
  refine (h gE w vals hwE ⟨hv.1, fun j a b => (hv.2 j a b).agree (blwL_get hb j a) (fun o ho => by omega)⟩).mono ?_
  rintro e w' ⟨u, g', rfl, hle, hw', hu⟩
  have hpm : ∀ b o v, g.pm b o = some v → g'.pm b o = some v := hle.ext.pm
  let g2 : Gh := { g with pm := g'.pm }
  have hext : Ext g.pm g.L σ g2.pm g2.L σ := ⟨hpm, fun _ => ObExt.refl _ _⟩
  have htm : ∀ b o, g'.tm b o = gE.tm b o := fun b o => by rw [hle.tm]
  have kb : Below w.heap.size w w' := by
    have := hw'.low
    rw [hle.B0, hle.w0] at this
    exact this
  refine ⟨u, g2, rfl, ⟨hext, rfl, rfl, rfl⟩, ⟨hw'.pm, fun b o v e => ?_, fun b o v e => ?_, fun b o v e => ?_, ?_, ?_, hw.tab, hw.bk.same (fun b x e => by rw [kb.block b (get_lt e)]; exact e), fun i ver cs e => ?_, hw.sep, fun o es it e => (hw.mo o es it e).keep hext rfl rfl (fun b x e _ => by rw [kb.block b (get_lt e)]; exact e), hw.ms⟩, hu.agree hr (fun o ho => by omega)⟩
  · have ho : ¬ owned b o := by
      rintro ⟨i, ver, cs, e1, rfl, j, hj, rfl⟩
      have := (hw.ob i ver cs e1).tm j hj
      rw [show g2.tm = g.tm from rfl, this] at e; cases e
    exact hw'.tm b o v (by rw [htm]; simpa [gE, ho] using e)
  · have ho : ¬ owned b o := by
      rintro ⟨i, ver, cs, e1, rfl, j, hj, rfl⟩
      have := (hw.ob i ver cs e1).tm j hj
      rw [show g2.tm = g.tm from rfl, this] at e; cases e
    exact hw'.tmf b o v (by rw [htm]; simpa [gE, ho] using e)
  · have hd := hw'.disj b o v e
    rw [htm] at hd
    by_cases ho : owned b o
    · obtain ⟨i, ver, cs, e1, rfl, j, hj, rfl⟩ := ho
      exact (hw.ob i ver cs e1).tm j hj
    · simpa [gE, ho] using hd
  · exact hw.low.trans (kb.mono hw.B0)
  · exact Nat.le_trans hw.B0 kb.size
  · have k := hw.ob i ver cs e
    have hE : ∀ j, j < (g.L i).cap → gE.tm (g.L i).b ((g.L i).off + j) = w.cell? ⟨(g.L i).b, (g.L i).off + j, none⟩ := fun j hj => if_pos ⟨i, ver, cs, e, rfl, j, hj, rfl⟩
    have hown : ∀ j, j < (g.L i).cap → owned (g.L i).b ((g.L i).off + j) := fun j hj => ⟨i, ver, cs, e, rfl, j, hj, rfl⟩
    refine ⟨k.low, k.len, fun j hj => ?_, fun j hj => ?_, fun j hj => ?_, k.tm⟩
    · obtain ⟨v, hv, hr⟩ := k.there j hj
      refine ⟨v, hw'.tm _ _ v (by rw [htm]; exact (hE j hj).trans hv), fun hj' => (hr hj').mono hext⟩
    · obtain ⟨v, hv, hr⟩ := k.there j hj
      exact hw'.tmf _ _ v (by rw [htm]; exact (hE j hj).trans hv)
    · show g'.pm (g.L i).b ((g.L i).off + j) = none
      cases hq : g'.pm (g.L i).b ((g.L i).off + j) with
      | none => rfl
      | some v =>
        have := hw'.disj _ _ _ hq
        obtain ⟨v', hv', _⟩ := k.there j hj
        rw [htm, hE j hj, hv'] at this
        cases this

theorem Ev.mono {P f args σ r σ' r' } (h : Ev P f args σ r σ') (hr : ∀ pm L u, VR pm L σ' r u → VR pm L σ' r' u) : Ev P f args σ r' σ' := by
  intro g w vals hw hv
  refine (h g w vals hw hv).mono ?_
  rintro e w' ⟨u, g', e1, e2, e3, e4⟩
  exact ⟨u, g', e1, e2, e3, hr _ _ _ e4⟩
end Go.Ab
