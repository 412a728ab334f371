/- Structs and slices laid out, made, appended to, copied. -/
import Derived.Test.YtiocagilhbomgaaWlA6
namespace Go.Ab
open Go.RowKit
set_option linter.unusedVariables false
set_option linter.unusedSimpArgs false

/-! ### build -/
theorem sound_build {P g σ w t parts ps v} {z : Value} {inf : TypeInfo} {zc : List AV} (hw : WRel g σ w) (hi : P.info? t = some inf) (hz : inf.zero = some z) (hzc : ofLits z.cells.toList = some zc)
    (place : Nat → Option (Nat × Nat))
    (hplace : (∃ fields, P.underlying t = some (.struct fields) ∧ ∃ pl : Array (Nat × Nat), (fields.mapM fun f => do pure (f.offset, ← sizeOf f.type) : Sem (Array (Nat × Nat))).run P w = .ok pl w ∧ place = (pl[·]?)) ∨
      (∃ n e s, P.underlying t = some (.array n e) ∧ P.info? e = some s ∧ place = fun i => some (i * s.size, s.size)))
    (hl : ps.length = parts.size)
    (hp : ∀ j (a : j < ps.length) (b : j < parts.size), place (parts[j]).1 = some ((ps[j]).1, (ps[j]).2.1) ∧ VR g.pm g.L σ (ps[j]).2.2 (parts[j]).2)
    (h : ∃ cs, fillA zc ps = some cs ∧ v = .agg cs) :
    Goes P g σ w (do pure (.value (← Instr.build t parts))) v none := by
  obtain ⟨cs, hf, rfl⟩ := h
  obtain ⟨z1, z2⟩ := ofLits_VR (pm := g.pm) (L := g.L) (σ := σ) hzc
  have hvl : VL g.pm g.L σ zc z.cells := ⟨by simpa using z1, fun j a b => by have := z2 j a (by simpa using b); rwa [Array.getElem_toList] at this⟩
  obtain ⟨vs', e1, e2⟩ := run_fill place ps parts.toList hvl (by simpa using hl) (fun j a b => by simpa using hp j a (by simpa using b)) hf
  have hzr : (zeroValue t).run P w = .ok z w := by simp [zeroValue, typeInfo, hi, hz]
  refine Goes.val hw (u := .agg vs') ?_ (.agg e2.1 e2.2)
  rcases hplace with ⟨fields, hu, pl, hpl, rfl⟩ | ⟨n, e, s, hu, hs, rfl⟩
  · simp only [Instr.build, Sem.run_bind, hzr, Result.andThen_ok, run_underlying hu, hpl, e1, Sem.run_pure]
  · simp only [Instr.build, Sem.run_bind, hzr, Result.andThen_ok, run_underlying hu, run_sizeOf hs, e1, Sem.run_pure]

/-! ### slices that are laid out -/
/-- What a new slice may be: told for good, or an object of one's own. -/
def StNewSl (ex : Bool) (esh : Option Nat) (n : Nat) (cs : List AV) (σ : Hp) (v : AV) (rd : List Nat) (δ : Option (Nat × Ob)) : Prop :=
  rd = [] ∧ n * szOf esh ≤ cs.length ∧ cs.all AV.one = true ∧
  ((∃ o, σ o = .virgin ∧ v = .ref o 0 0 n esh ∧ δ = some (o, .arr 0 cs)) ∨ (v = .sl ex (szOf esh) (elemsOf esh n cs) ∧ δ = none))

theorem goes_newSl {g σ v rd δ} {w : World} {ex : Bool} {esh n cap t} {cs : List AV} {c : Array Value} (hw : WRel g σ w) (hlen : cs.length ≤ c.size) (hc : ∀ j (h : j < cs.length) (h' : j < c.size), VR g.pm g.L σ (cs[j]) (c[j]))
    (hcap : n ≤ cap) (hsz : cap * szOf esh ≤ c.size) (hex : ex = true → cap = n) (h : StNewSl ex esh n cs σ v rd δ) :
    ∃ g', WRel g' (ap σ δ) (w.alloc (.cells c t)) ∧ g.le σ g' (ap σ δ) ∧ VR g'.pm g'.L (ap σ δ) v (.slice (some ⟨w.heap.size, 0, none⟩) n cap) := by
  obtain ⟨_, hn, hone, h | h⟩ := h
  · obtain ⟨o, hv, rfl, rfl⟩ := h
    obtain ⟨h1, h2⟩ := hw.alloc_ob (o := o) (ver := 0) c t cs (by simp [hv, ObExt]) hlen hc
    exact ⟨_, h1, h2, .ref hcap rfl (by simp [RefOK, ap_some]; exact ⟨hn, hcap, hsz⟩)⟩
  · obtain ⟨rfl, rfl⟩ := h
    obtain ⟨g', h1, h2, h3⟩ := hw.alloc_tell c t
    refine ⟨g', h1, h2, ?_⟩
    refine VR.told (us := fun j => c.getD j undef) hn hone (fun j hj => ?_) (fun j hj hj' => ?_) hcap hex
    · have := h3 j (by omega)
      simpa [Array.getD, show j < c.size by omega] using this
    · have := hc j hj (by omega)
      simpa [Array.getD, show j < c.size by omega] using this.mono (σ' := ap σ none) h2.ext

def repl (n : Nat) (z : List AV) : List AV := (List.replicate n z).flatten

theorem repl_length (n : Nat) (z : List AV) : (repl n z).length = n * z.length := by simp [repl]

theorem repl_get (n : Nat) (z : List AV) (j : Nat) (h : j < (repl n z).length) (h' : j % z.length < z.length) : (repl n z)[j] = z[j % z.length] := by
  induction n generalizing j with
  | zero => simp [repl] at h
  | succ n ih =>
    have e : repl (n + 1) z = z ++ repl n z := by simp [repl, List.replicate_succ]
    by_cases hj : j < z.length
    · simp only [e, List.getElem_append_left hj, Nat.mod_eq_of_lt hj]
    · simp only [e]
      rw [List.getElem_append_right (by omega), ih (j - z.length) (by rw [e] at h; simp at h; omega) (by rw [← Nat.mod_eq_sub_mod (by omega)]; exact h')]
      congr 1
      exact (Nat.mod_eq_sub_mod (by omega)).symm

/-- Zero cells, over and over. -/
theorem VL_made {pm L σ} {z : Value} {zc : List AV} (hzc : ofLits z.cells.toList = some zc) (n : Nat) : VL pm L σ (repl n zc) ((Array.range (n * zc.length)).map (z.cells[· % z.cells.size]!)) := by
  obtain ⟨z1, z2⟩ := ofLits_VR (pm := pm) (L := L) (σ := σ) hzc
  have hs : z.cells.size = zc.length := by simpa using z1
  refine ⟨by simp [repl_length], fun j a b => ?_⟩
  have hlt : j < n * zc.length := by simpa using b
  have hpos : 0 < zc.length := by rcases Nat.eq_zero_or_pos zc.length with h | h; · simp [h] at hlt
                                  · exact h
  have hm : j % zc.length < zc.length := Nat.mod_lt _ hpos
  have := z2 (j % zc.length) hm (by simpa [hs] using hm)
  rw [repl_get n zc j a hm]
  simpa [hs, hm] using this

theorem sound_bsl {P g σ w t elem esh len parts ps v rd δ} {z : Value} {inf : TypeInfo} {zc : List AV} (hw : WRel g σ w) (ht : P.underlying t = some (.slice elem)) (he : eshOf P elem = some esh) (hi : P.info? elem = some inf) (hz : inf.zero = some z) (hzc : ofLits z.cells.toList = some zc)
    (hzl : zc.length = szOf esh) (hbig : len * szOf esh ≤ 16777216)
    (hl : ps.length = parts.size)
    (hp : ∀ j (a : j < ps.length) (b : j < parts.size), (ps[j]).1 = (parts[j]).1 * szOf esh ∧ (ps[j]).2.1 = szOf esh ∧ VR g.pm g.L σ (ps[j]).2.2 (parts[j]).2)
    (h : ∃ cs, fillA (repl len zc) ps = some cs ∧ StNewSl true esh len cs σ v rd δ) :
    Goes P g σ w (do pure (.value (← Instr.buildSlice t len parts))) v δ := by
  obtain ⟨cs, hf, hst⟩ := h
  obtain ⟨inf', hinf', hsz⟩ := eshOf_info he
  rw [hi] at hinf'
  cases hinf'
  have hvl := VL_made (pm := g.pm) (L := g.L) (σ := σ) hzc len
  obtain ⟨vs', e1, e2⟩ := run_fill (fun i => some (i * inf.size, inf.size)) ps parts.toList hvl (by simpa using hl) (fun j a b => by
    have := hp j a (by simpa using b)
    refine ⟨?_, by simpa using this.2.2⟩
    simp [this.1, this.2.1, hsz]) hf
  have hcs : cs.length = len * szOf esh := by
    have : ∀ (ps : List (Nat × Nat × AV)) (a b : List AV), fillA a ps = some b → b.length = a.length := by
      intro ps
      induction ps with
      | nil => intro a b h; simp [fillA] at h; rw [h]
      | cons p ps ih =>
        intro a b h
        obtain ⟨o, s, x⟩ := p
        simp only [fillA] at h
        split at h
        · rw [ih _ _ h, splice_length]
        · cases h
    rw [this _ _ _ hf, repl_length, hzl]
  obtain ⟨g', r1, r2, r3⟩ := goes_newSl (t := elem) (n := len) (cap := len) hw (by have := e2.1; omega) (fun j a b => e2.2 j a b) (Nat.le_refl _) (by have := e2.1; omega) (fun _ => rfl) hst
  refine Goes.val' (u := .slice (some ⟨w.heap.size, 0, none⟩) len len) ?_ r1 r2 r3
  have hn : ¬ len * inf.size > 16777216 := by rw [hsz]; omega
  have hzr : (zeroValue elem).run P w = .ok z w := by simp [zeroValue, typeInfo, hi, hz]
  by_cases h0 : len * inf.size = 0
  · have e1' : Instr.fill (fun i => some (i * inf.size, inf.size)) #[] parts.toList = some vs' := by
      rw [← e1]; congr 1
      rw [hzl, ← hsz, h0]; simp [Array.range_zero']
    simp [Instr.buildSlice, run_underlying ht, run_sizeOf hi, hn, h0, Array.range_zero', e1', newRow]
  · rw [hzl, ← hsz] at e1
    simp [Instr.buildSlice, run_underlying ht, run_sizeOf hi, hn, h0, hzr, e1, newRow]

/-! ### make -/
def StMksl (esh : Option Nat) (bytes : Nat) (zc : List AV) (l c : AV) (σ : Hp) (v : AV) (rd : List Nat) (δ : Option (Nat × Ob)) : Prop :=
  match l, c with
  | .int _ l, .int _ c => 0 ≤ l ∧ l ≤ c ∧ c * bytes ≤ 281474976710656 ∧ c ≤ 281474976710656 ∧ StNewSl false esh l.toNat (repl l.toNat zc) σ v rd δ
  | _, _ => False

theorem sound_mksl {P g σ w t elem esh l c ul uc v rd δ} {z : Value} {inf : TypeInfo} {zc : List AV} (hw : WRel g σ w) (ht : P.underlying t = some (.slice elem)) (he : eshOf P elem = some esh) (hi : P.info? elem = some inf) (hz : inf.zero = some z) (hzc : ofLits z.cells.toList = some zc)
    (hzl : zc.length = szOf esh) (hl : VR g.pm g.L σ l ul) (hc : VR g.pm g.L σ c uc) (h : StMksl esh inf.bytes zc l c σ v rd δ) :
    Goes P g σ w (do pure (.value (← Instr.makeSlice t ul uc))) v δ := by
  unfold StMksl at h
  split at h
  · rename_i kl l kc c
    obtain ⟨h0, h1, h2, h3, hst⟩ := h
    cases hl; cases hc
    obtain ⟨inf', hinf', hsz⟩ := eshOf_info he
    rw [hi] at hinf'; cases hinf'
    obtain ⟨z1, z2⟩ := ofLits_VR (pm := g.pm) (L := g.L) (σ := σ) hzc
    have hs : z.cells.size = zc.length := by simpa using z1
    have hle : l.toNat * szOf esh ≤ c.toNat * szOf esh := Nat.mul_le_mul_right _ (by omega)
    have hvl := VL_made (pm := g.pm) (L := g.L) (σ := σ) hzc c.toNat
    have hrl : (repl l.toNat zc).length = l.toNat * szOf esh := by rw [repl_length, hzl]
    have hsize : (madeCells z.cells (c.toNat * inf.size)).size = c.toNat * szOf esh := by rw [size_madeCells, hsz]
    obtain ⟨g', r1, r2, r3⟩ := goes_newSl (t := elem) (n := l.toNat) (cap := c.toNat) (c := madeCells z.cells (c.toNat * inf.size)) hw (by omega) (fun j a b => by
        have hm : j % zc.length < zc.length := Nat.mod_lt _ (by rcases Nat.eq_zero_or_pos zc.length with h | h; · rw [repl_length, h] at a; simp at a
                                                                · exact h)
        have := z2 (j % zc.length) hm (by simpa [hs] using hm)
        rw [repl_get l.toNat zc j a hm]
        simpa [madeCells, hs, hm] using this) (by omega) (by omega) (by simp) hst
    refine Goes.val' ?_ r1 r2 r3
    exact run_make w t elem inf z ht hi hz kl kc l c h0 h1 (by rw [Int.mul_comm]; exact h2) (by omega)
  · exact h.elim
end Go.Ab
