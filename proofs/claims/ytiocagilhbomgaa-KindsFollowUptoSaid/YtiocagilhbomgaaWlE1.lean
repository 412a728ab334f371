/- What is read of the arguments, as abstract values. -/
import Derived.Test.YtiocagilhbomgaaWlD4
import Derived.Carry
import Derived.Deep.Slices
namespace Go.Ab
open Go.RowKit
set_option linter.unusedVariables false
set_option linter.unusedSimpArgs false

/-- A type's cells, from a reading: numbers in range, no slice longer than N. -/
inductive Ty (P : Program) (N : Nat) : TypeId → List AV → Prop
  | bool {t b} (h : P.underlying t = some .bool) : Ty P N t [.bool b]
  | int {t k n} (h : P.underlying t = some (.int k)) (hw : (Lit.int k n).wf = true) : Ty P N t [.int k n]
  | str {t s} (h : P.underlying t = some .string) (hs : s.size ≤ N) : Ty P N t [.str s]
  | sl {t e xs} (h : P.underlying t = some (.slice e)) (hl : xs.length ≤ N) (hx : ∀ x ∈ xs, Ty P N e x.cells)
      (ha : ∀ x ∈ xs, ((∃ fs, P.underlying e = some (.struct fs)) ∧ ∃ cs, x = .agg cs) ∨ ((∀ fs, P.underlying e ≠ some (.struct fs)) ∧ x.cells = [x])) : Ty P N t [.sl false (P.cellsOf e) xs]
  | struct {t fs cs} (h : P.underlying t = some (.struct fs)) (hl : cs.length = P.cellsOf t) (hf : ∀ (i : Nat) (f : Field), fs[i]? = some f → Ty P N f.type ((cs.drop f.offset).take (P.cellsOf f.type))) : Ty P N t cs

def plainT (P : Program) : Nat → TypeId → Bool
  | 0, _ => false
  | m + 1, t => match P.underlying t with
    | some .bool | some (.int _) | some .string => true
    | some (.slice e) => decide (0 < P.cellsOf e) && plainT P m e
    | some (.struct fs) => fs.toList.all fun f => plainT P m f.type && decide (f.offset + P.cellsOf f.type ≤ P.cellsOf t)
    | _ => false

def contig (P : Program) (n : Nat) : Nat → List Field → Bool
  | o, [] => o == n
  | o, f :: r => f.offset == o && contig P n (o + P.cellsOf f.type) r

/-- A struct's fields lie one behind the other. -/
def coversT (P : Program) : Nat → TypeId → Bool
  | 0, _ => false
  | m + 1, t => match P.underlying t with
    | some (.slice e) => coversT P m e
    | some (.struct fs) => contig P (P.cellsOf t) 0 fs.toList && fs.toList.all fun f => coversT P m f.type
    | _ => true

theorem contig_avs {P : Program} {R : Nat → AV → Prop} {Q : Field → List AV → Prop} {n : Nat} : ∀ (fs : List Field) (o : Nat), contig P n o fs = true →
    (∀ f ∈ fs, ∃ avs, Q f avs ∧ avs.length = P.cellsOf f.type ∧ ∀ j (h : j < avs.length), R (f.offset + j) (avs[j])) →
    ∃ avs : List AV, o + avs.length = n ∧ (∀ f ∈ fs, o ≤ f.offset ∧ Q f ((avs.drop (f.offset - o)).take (P.cellsOf f.type))) ∧ ∀ j (h : j < avs.length), R (o + j) (avs[j])
  | [], o, hc, _ => ⟨[], by simp [contig] at hc; simp [hc], by simp, by simp⟩
  | f :: r, o, hc, hf => by
    simp only [contig, Bool.and_eq_true, beq_iff_eq] at hc
    obtain ⟨rfl, hc⟩ := hc
    obtain ⟨a, q, hl, hr⟩ := hf f (by simp)
    obtain ⟨avs, h1, h2, h3⟩ := contig_avs r _ hc (fun g hg => hf g (by simp [hg]))
    refine ⟨a ++ avs, by simp; omega, fun g hg => ?_, fun j hj => ?_⟩
    · rcases List.mem_cons.1 hg with rfl | hg
      · refine ⟨Nat.le_refl _, ?_⟩
        rw [Nat.sub_self, List.drop_zero, ← hl, List.take_left]; exact q
      · obtain ⟨k1, k2⟩ := h2 g hg
        refine ⟨by omega, ?_⟩
        rw [List.drop_append, List.drop_eq_nil_of_le (by omega), List.nil_append, show g.offset - f.offset - a.length = g.offset - (f.offset + P.cellsOf f.type) by omega]
        exact k2
    · by_cases hj' : j < a.length
      · rw [List.getElem_append_left hj']; exact hr j hj'
      · rw [List.getElem_append_right (by omega)]
        have := h3 (j - a.length) (by simp at hj; omega)
        rwa [show f.offset + P.cellsOf f.type + (j - a.length) = f.offset + j by omega] at this

structure Bulk {H : Type} (bk : DataW H → Nat) : Prop where
  str : ∀ bytes, bytes.length ≤ bk (.lit (.string bytes))
  len : ∀ elems spare, elems.length ≤ bk (.slice elems spare)
  elem : ∀ elems spare d, d ∈ elems → bk d ≤ bk (.slice elems spare)
  part : ∀ parts d, d ∈ parts → bk d ≤ bk (.agg parts)

theorem spot_of_cell {w : World} {a : Addr} {v : Value} (h : w.cell? a = some v) : a.spot = none := by
  unfold World.cell? at h
  split at h
  · split at h
    · cases h
    · rename_i e; cases hs : a.spot with
      | none => rfl
      | some x => simp [hs] at e
  · cases h

variable {H : Type} {enc : TypeId × Value → H} {P : Program} {W : World} {bk : DataW H → Nat} {N : Nat} {pm : Pm} {L : Nat → Loc} {σ : Hp}

def IsSt (P : Program) (e : TypeId) : Prop := ∃ fs, P.underlying e = some (.struct fs)

theorem Ty.one {t : TypeId} {avs : List AV} (h : Ty P N t avs) (hn : ∀ fs, P.underlying t ≠ some (.struct fs)) : ∃ v, avs = [v] ∧ v.cells = [v] := by
  cases h with
  | bool => exact ⟨_, rfl, rfl⟩
  | int => exact ⟨_, rfl, rfl⟩
  | str => exact ⟨_, rfl, rfl⟩
  | sl => exact ⟨_, rfl, rfl⟩
  | struct h => exact (hn _ h).elim

theorem trod_Ty (hb : Bulk bk) (hpm : ∀ b o v, W.cell? ⟨b, o, none⟩ = some v → pm b o = some v) : ∀ (m fuel : Nat) (t : TypeId) (cs : List Value) (d : DataW H) (ps : List MemPlace),
    DataW.trod enc P W 0 (fun _ => true) true fuel t cs = some (d, ps) → plainT P m t = true → coversT P m t = true → bk d ≤ N →
    ∃ avs, Ty P N t avs ∧ avs.length = cs.length ∧ ∀ j (h : j < avs.length) (h' : j < cs.length), VR pm L σ (avs[j]) (cs[j]) := by
  intro m
  induction m with
  | zero => intro fuel t cs d ps _ hp; simp [plainT] at hp
  | succ m ih =>
    intro fuel t cs d ps h hp hcov hbk
    simp only [plainT] at hp
    simp only [coversT] at hcov
    split at hp
    · rename_i ht
      cases fuel with
      | zero => simp [DataW.trod] at h
      | succ n =>
        unfold DataW.trod at h
        rw [ht] at h
        split at h <;> rename_i e1 <;> first | (cases e1; done) | (cases h; done) | skip
        rename_i b
        exact ⟨[.bool b], .bool ht, rfl, fun j h h' => by
          have : j = 0 := by simpa using h
          subst this; exact .bool⟩
    · rename_i k ht
      cases fuel with
      | zero => simp [DataW.trod] at h
      | succ n =>
        unfold DataW.trod at h
        rw [ht] at h
        split at h <;> rename_i e1 <;> first | (cases e1; done) | (cases h; done) | skip
        cases e1
        split at h
        · rename_i k' n' hk
          obtain ⟨rfl, hw⟩ := hk
          exact ⟨[.int k' n'], .int ht hw, rfl, fun j h h' => by
            have : j = 0 := by simpa using h
            subst this; exact .int⟩
        · cases h
    · rename_i ht
      cases fuel with
      | zero => simp [DataW.trod] at h
      | succ n =>
        unfold DataW.trod at h
        rw [ht] at h
        split at h <;> rename_i e1 <;> first | (cases e1; done) | (cases h; done) | skip
        split at h
        · rename_i s _
          cases h
          have := hb.str s.data.toList
          exact ⟨[.str s], .str ht (by have : s.data.toList.length = s.size := Array.length_toList
                                       omega), rfl, fun j h h' => by
            have : j = 0 := by simpa using h
            subst this; exact .str⟩
        · cases h
    · rename_i e ht
      simp only [Bool.and_eq_true, decide_eq_true_eq] at hp
      rw [ht] at hcov
      rcases Deep.open_slice ht h with ⟨rfl, hx⟩ | ⟨a, len, cap, mm, n, D, Pl, rfl, _, hlc, _, hmm, hx, hel⟩
      · exact ⟨[.sl false (P.cellsOf e) []], .sl ht (by simp) (by simp) (by simp), rfl, fun j h h' => by
          have : j = 0 := by simpa using h
          subst this; exact .slnil⟩
      · have hmm' : mm = cap := hmm
        subst hmm'
        cases hx
        have hD : ∀ i, i < len → bk (D i) ≤ N := fun i hi => Nat.le_trans (hb.elem _ _ (D i) (List.mem_map.2 ⟨i, by simpa using hi, rfl⟩)) hbk
        have hsp : 0 < mm → a.spot = none := fun h0 => by
          obtain ⟨cs', hc, _⟩ := hel 0 h0
          obtain ⟨_, hcl, hcc⟩ := World.cells?_some hc
          have := hcc 0 hp.1
          rw [List.getElem?_eq_getElem (by omega)] at this
          have := spot_of_cell this
          simpa [Addr.add] using this
        have hlen : len ≤ N := by
          have := hb.len ((List.range len).map D) ((List.range (mm - len)).map fun j => D (len + j))
          simp at this; omega
        have hE : ∀ i, i < len → ∃ x : AV, Ty P N e x.cells ∧ (((∃ fs, P.underlying e = some (.struct fs)) ∧ ∃ cs, x = .agg cs) ∨ ((∀ fs, P.underlying e ≠ some (.struct fs)) ∧ x.cells = [x])) ∧ x.cells.length = P.cellsOf e ∧
            ∀ j (hj : j < x.cells.length), ∃ u, W.cell? ⟨a.block, a.off + i * P.cellsOf e + j, none⟩ = some u ∧ VR pm L σ (x.cells[j]) u := by
          intro i hi
          obtain ⟨cs', hc, ht'⟩ := hel i (by omega)
          obtain ⟨_, hcl, hcc⟩ := World.cells?_some hc
          obtain ⟨avs, h1, h2, h3⟩ := ih n e cs' (D i) (Pl i) ht' hp.2 hcov (hD i hi)
          have hsp := hsp (by omega)
          have hcell : ∀ j (hj : j < cs'.length), W.cell? ⟨a.block, a.off + i * P.cellsOf e + j, none⟩ = some cs'[j] := by
            intro j hj
            have := hcc j (by omega)
            rw [List.getElem?_eq_getElem hj] at this
            rw [← this]
            obtain ⟨ab, ao, as⟩ := a
            simp at hsp
            subst hsp
            rw [Addr.add_lit, Addr.add_lit]
          by_cases hs : ∃ fs, P.underlying e = some (.struct fs)
          · refine ⟨.agg avs, h1, .inl ⟨hs, _, rfl⟩, by show avs.length = _; omega, fun j hj => ?_⟩
            have hj' : j < avs.length := hj
            exact ⟨_, hcell j (by omega), h3 j hj' (by omega)⟩
          · have hn : ∀ fs, P.underlying e ≠ some (.struct fs) := fun fs e => hs ⟨fs, e⟩
            obtain ⟨v, rfl, hv⟩ := h1.one hn
            have hl1 : ([v] : List AV).length = cs'.length := h2
            refine ⟨v, by rw [hv]; exact h1, .inr ⟨hn, hv⟩, by rw [hv]; omega, fun j hj => ?_⟩
            have hj0 : j = 0 := by rw [hv] at hj; simpa using hj
            subst hj0
            refine ⟨_, hcell 0 (by simp at hl1; omega), ?_⟩
            have := h3 0 (by simp) (by simp at hl1; omega)
            simp only [hv]; exact this
        obtain ⟨X, hX⟩ := Deep.choose_lt hE
        refine ⟨[.sl false (P.cellsOf e) ((List.range len).map X)], .sl ht (by simpa using hlen) (fun x hx => ?_) (fun x hx => ?_), rfl, fun j hj hj' => ?_⟩
        · obtain ⟨i, hi, rfl⟩ := List.mem_map.1 hx
          exact (hX i (by simpa using hi)).1
        · obtain ⟨i, hi, rfl⟩ := List.mem_map.1 hx
          exact (hX i (by simpa using hi)).2.1
        · have : j = 0 := by simpa using hj
          subst this
          simp only [List.getElem_cons_zero]
          by_cases h0 : mm = 0
          · have : len = 0 := by omega
            subst h0; subst this
            exact .slz
          · have hsp := hsp (by omega)
            obtain ⟨ab, ao, as⟩ := a
            simp at hsp
            subst hsp
            have hXl : ((List.range len).map X).length = len := by simp
            have := VR.sl (pm := pm) (L := L) (σ := σ) (ex := false) (sz := P.cellsOf e) (xs := (List.range len).map X) (b := ab) (o := ao) (cap := mm) (fun i j => (W.cell? ⟨ab, ao + i * P.cellsOf e + j, none⟩).getD undef)
              (by omega) (by intro e; cases e) (fun i hi => by
                simp only [List.getElem_map, List.getElem_range]
                exact (hX i (by simpa using hi)).2.2.1) (fun i j hi hj => by
                obtain ⟨u, h1, h2⟩ := (hX i (by simpa using hi)).2.2.2 j (by rw [(hX i (by simpa using hi)).2.2.1]; exact hj)
                rw [h1]
                exact hpm _ _ _ h1) (fun i hi j hj => by
                simp only [List.getElem_map, List.getElem_range] at hj ⊢
                obtain ⟨u, h1, h2⟩ := (hX i (by simpa using hi)).2.2.2 j hj
                rw [h1]
                exact h2)
            rw [hXl] at this
            exact this
    · rename_i fs ht
      rw [ht] at hcov
      simp only [List.all_eq_true, Bool.and_eq_true, decide_eq_true_eq, List.any_eq_true, List.mem_range] at hp hcov
      obtain ⟨xs, n, rfl, hx, hcl, hxl, hf⟩ := DataW.trod_struct ht h
      cases hx
      -- each field's cells
      have hF : ∀ f ∈ fs.toList, ∃ avs, Ty P N f.type avs ∧ avs.length = P.cellsOf f.type ∧ ∀ j (h : j < avs.length) (h' : f.offset + j < cs.length), VR pm L σ (avs[j]) (cs[f.offset + j]) := by
        intro f hfm
        obtain ⟨i, hi, hif⟩ := List.getElem_of_mem hfm
        have hi' : i < fs.size := by simpa using hi
        have hfi : fs[i]? = some f := by rw [Array.getElem?_eq_getElem hi']; simpa using hif
        have h1 := hf i f hfi
        rw [List.getElem?_eq_getElem (by omega)] at h1
        obtain ⟨avs, k1, k2, k3⟩ := ih n f.type _ _ (xs[i]).2 h1 (hp f hfm).1 (hcov.2 f hfm) (Nat.le_trans (hb.part _ _ (List.mem_map.2 ⟨xs[i], by simp, rfl⟩)) hbk)
        have hfit := (hp f hfm).2
        have hl : ((cs.drop f.offset).take (P.cellsOf f.type)).length = P.cellsOf f.type := by simp; omega
        refine ⟨avs, k1, by omega, fun j hj hj' => ?_⟩
        have := k3 j hj (by omega)
        simpa using this
      obtain ⟨avs, k1, k2, k3⟩ := contig_avs (P := P) (R := fun k v => ∀ h : k < cs.length, VR pm L σ v (cs[k])) (Q := fun f avs => Ty P N f.type avs) fs.toList 0 hcov.1 (fun f hfm => by
        obtain ⟨a, q, hl, hr⟩ := hF f hfm
        exact ⟨a, q, hl, fun j h h' => hr j h h'⟩)
      refine ⟨avs, .struct ht (by omega) (fun i f hfi => ?_), by omega, fun j h h' => by simpa using k3 j h (by omega)⟩
      have := k2 f (by
        rw [← Array.getElem?_toList] at hfi
        exact List.mem_of_getElem? hfi)
      simpa using this.2
    · cases hp
end Go.Ab
