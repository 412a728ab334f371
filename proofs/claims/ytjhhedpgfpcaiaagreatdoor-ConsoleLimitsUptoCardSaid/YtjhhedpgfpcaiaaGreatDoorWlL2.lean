/- What is read of the arguments, as abstract values. -/
import Derived.Test.YtjhhedpgfpcaiaaGreatDoorWlX8
import Derived.Carry
import Derived.Deep.Slices
import Derived.RowKit
import Derived.ProofKit
import Derived.OpenShut
import Derived.JoinedCond
namespace Go.Ab
set_option linter.constructorNameAsVariable false
set_option linter.unusedSimpArgs false
set_option linter.unusedVariables false
open Go.RowKit

/-- A type's cells, from a reading: numbers in range, no slice longer than N. -/
inductive Ty (P : Program) (N : Nat) : TypeId → List AV → Prop
  | bool {t b} (h : P.underlying t = some .bool) : Ty P N t [.bool b]
  | int {t k n} (h : P.underlying t = some (.int k)) (hw : (Lit.int k n).wf = true) : Ty P N t [.int k n]
  | str {t s} (h : P.underlying t = some .string) (hs : s.size ≤ N) : Ty P N t [.str s]
  | sl {t e xs} (h : P.underlying t = some (.slice e)) (hl : xs.length ≤ N) (hx : ∀ x ∈ xs, Ty P N e x.cells)
      (ha : ∀ x ∈ xs, ((∃ fs, P.underlying e = some (.struct fs)) ∧ ∃ cs, x = .agg cs) ∨ ((∀ fs, P.underlying e ≠ some (.struct fs)) ∧ x.cells = [x])) : Ty P N t [.sl false (P.cellsOf e) xs]
  | struct {t fs cs} (h : P.underlying t = some (.struct fs)) (hl : cs.length = P.cellsOf t) (hf : ∀ (i : Nat) (f : Field), fs[i]? = some f → Ty P N f.type ((cs.drop f.offset).take (P.cellsOf f.type))) : Ty P N t cs

def plainT (P : Program) : Nat → TypeId → Bool
  | 0, _ => false
  | m + 1, t => match P.underlying t with
    | some .bool | some (.int _) | some .string => true
    | some (.slice e) => decide (0 < P.cellsOf e) && plainT P m e
    | some (.struct fs) => fs.toList.all fun f => plainT P m f.type && decide (f.offset + P.cellsOf f.type ≤ P.cellsOf t)
    | _ => false

def contig (P : Program) (n : Nat) : Nat → List Field → Bool
  | o, [] => o == n
  | o, f :: r => f.offset == o && contig P n (o + P.cellsOf f.type) r

/-- A struct's fields lie one behind the other. -/
def coversT (P : Program) : Nat → TypeId → Bool
  | 0, _ => false
  | m + 1, t => match P.underlying t with
    | some (.slice e) => coversT P m e
    | some (.struct fs) => contig P (P.cellsOf t) 0 fs.toList && fs.toList.all fun f => coversT P m f.type
    | _ => true

theorem contig_avs {P : Program} {R : Nat → AV → Prop} {Q : Field → List AV → Prop} {n : Nat} : ∀ (fs : List Field) (o : Nat), contig P n o fs = true →
    (∀ f ∈ fs, ∃ avs, Q f avs ∧ avs.length = P.cellsOf f.type ∧ ∀ j (h : j < avs.length), R (f.offset + j) (avs[j])) →
    ∃ avs : List AV, o + avs.length = n ∧ (∀ f ∈ fs, o ≤ f.offset ∧ Q f ((avs.drop (f.offset - o)).take (P.cellsOf f.type))) ∧ ∀ j (h : j < avs.length), R (o + j) (avs[j])
  | [], o, hc, _ => ⟨[], by simp [contig] at hc; simp [hc], by simp, by simp⟩
  | f :: r, o, hc, hf => by
    simp only [contig, Bool.and_eq_true, beq_iff_eq] at hc
    obtain ⟨rfl, hc⟩ := hc
    obtain ⟨a, q, hl, hr⟩ := hf f (by simp)
    obtain ⟨avs, h1, h2, h3⟩ := contig_avs r _ hc (fun g hg => hf g (by simp [hg]))
    refine ⟨a ++ avs, by simp; omega, fun g hg => ?_, fun j hj => ?_⟩
    · rcases List.mem_cons.1 hg with rfl | hg
      · refine ⟨Nat.le_refl _, ?_⟩
        rw [Nat.sub_self, List.drop_zero, ← hl, List.take_left]; exact q
      · obtain ⟨k1, k2⟩ := h2 g hg
        refine ⟨by omega, ?_⟩
        rw [List.drop_append, List.drop_eq_nil_of_le (by omega), List.nil_append, show g.offset - f.offset - a.length = g.offset - (f.offset + P.cellsOf f.type) by omega]
        exact k2
    · by_cases hj' : j < a.length
      · rw [List.getElem_append_left hj']; exact hr j hj'
      · rw [List.getElem_append_right (by omega)]
        have := h3 (j - a.length) (by simp at hj; omega)
        rwa [show f.offset + P.cellsOf f.type + (j - a.length) = f.offset + j by omega] at this

structure Bulk {H : Type} (bk : DataW H → Nat) : Prop where
  str : ∀ bytes, bytes.length ≤ bk (.lit (.string bytes))
  len : ∀ elems spare, elems.length ≤ bk (.slice elems spare)
  elem : ∀ elems spare d, d ∈ elems → bk d ≤ bk (.slice elems spare)
  part : ∀ parts d, d ∈ parts → bk d ≤ bk (.agg parts)

theorem spot_of_cell {w : World} {a : Addr} {v : Value} (h : w.cell? a = some v) : a.spot = none := by
  unfold World.cell? at h
  split at h
  · split at h
    · cases h
    · rename_i e; cases hs : a.spot with
      | none => rfl
      | some x => simp [hs] at e
  · cases h

variable {H : Type} {enc : TypeId × Value → H} {P : Program} {W : World} {bk : DataW H → Nat} {N : Nat} {pm : Pm} {L : Nat → Loc} {σ : Hp}

def IsSt (P : Program) (e : TypeId) : Prop := ∃ fs, P.underlying e = some (.struct fs)

theorem Ty.one {t : TypeId} {avs : List AV} (h : Ty P N t avs) (hn : ∀ fs, P.underlying t ≠ some (.struct fs)) : ∃ v, avs = [v] ∧ v.cells = [v] := by
  cases h with
  | bool => exact ⟨_, rfl, rfl⟩
  | int => exact ⟨_, rfl, rfl⟩
  | str => exact ⟨_, rfl, rfl⟩
  | sl => exact ⟨_, rfl, rfl⟩
  | struct h => exact (hn _ h).elim

theorem trod_Ty (hb : Bulk bk) (hpm : ∀ b o v, W.cell? ⟨b, o, none⟩ = some v → pm b o = some v) : ∀ (m fuel : Nat) (t : TypeId) (cs : List Value) (d : DataW H) (ps : List MemPlace),
    DataW.trod enc P W 0 (fun _ => true) true fuel t cs = some (d, ps) → plainT P m t = true → coversT P m t = true → bk d ≤ N →
    ∃ avs, Ty P N t avs ∧ avs.length = cs.length ∧ ∀ j (h : j < avs.length) (h' : j < cs.length), VR pm L σ (avs[j]) (cs[j]) := by
  intro m
  induction m with
  | zero => intro fuel t cs d ps _ hp; simp [plainT] at hp
  | succ m ih =>
    intro fuel t cs d ps h hp hcov hbk
    simp only [plainT] at hp
    simp only [coversT] at hcov
    split at hp
    · rename_i ht
      cases fuel with
      | zero => simp [DataW.trod] at h
      | succ n =>
        unfold DataW.trod at h
        rw [ht] at h
        split at h <;> rename_i e1 <;> first | (cases e1; done) | (cases h; done) | skip
        rename_i b
        exact ⟨[.bool b], .bool ht, rfl, fun j h h' => by
          have : j = 0 := by simpa using h
          subst this; exact .bool⟩
    · rename_i k ht
      cases fuel with
      | zero => simp [DataW.trod] at h
      | succ n =>
        unfold DataW.trod at h
        rw [ht] at h
        split at h <;> rename_i e1 <;> first | (cases e1; done) | (cases h; done) | skip
        cases e1
        split at h
        · rename_i k' n' hk
          obtain ⟨rfl, hw⟩ := hk
          exact ⟨[.int k' n'], .int ht hw, rfl, fun j h h' => by
            have : j = 0 := by simpa using h
            subst this; exact .int⟩
        · cases h
    · rename_i ht
      cases fuel with
      | zero => simp [DataW.trod] at h
      | succ n =>
        unfold DataW.trod at h
        rw [ht] at h
        split at h <;> rename_i e1 <;> first | (cases e1; done) | (cases h; done) | skip
        split at h
        · rename_i s _
          cases h
          have := hb.str s.data.toList
          exact ⟨[.str s], .str ht (by have : s.data.toList.length = s.size := Array.length_toList
                                       omega), rfl, fun j h h' => by
            have : j = 0 := by simpa using h
            subst this; exact .str⟩
        · cases h
    · rename_i e ht
      simp only [Bool.and_eq_true, decide_eq_true_eq] at hp
      rw [ht] at hcov
      rcases Deep.open_slice ht h with ⟨rfl, hx⟩ | ⟨a, len, cap, mm, n, D, Pl, rfl, _, hlc, _, hmm, hx, hel⟩
      · exact ⟨[.sl false (P.cellsOf e) []], .sl ht (by simp) (by simp) (by simp), rfl, fun j h h' => by
          have : j = 0 := by simpa using h
          subst this; exact .slnil⟩
      · have hmm' : mm = cap := hmm
        subst hmm'
        cases hx
        have hD : ∀ i, i < len → bk (D i) ≤ N := fun i hi => Nat.le_trans (hb.elem _ _ (D i) (List.mem_map.2 ⟨i, by simpa using hi, rfl⟩)) hbk
        have hsp : 0 < mm → a.spot = none := fun h0 => by
          obtain ⟨cs', hc, _⟩ := hel 0 h0
          obtain ⟨_, hcl, hcc⟩ := World.cells?_some hc
          have := hcc 0 hp.1
          rw [List.getElem?_eq_getElem (by omega)] at this
          have := spot_of_cell this
          simpa [Addr.add] using this
        have hlen : len ≤ N := by
          have := hb.len ((List.range len).map D) ((List.range (mm - len)).map fun j => D (len + j))
          simp at this; omega
        have hE : ∀ i, i < len → ∃ x : AV, Ty P N e x.cells ∧ (((∃ fs, P.underlying e = some (.struct fs)) ∧ ∃ cs, x = .agg cs) ∨ ((∀ fs, P.underlying e ≠ some (.struct fs)) ∧ x.cells = [x])) ∧ x.cells.length = P.cellsOf e ∧
            ∀ j (hj : j < x.cells.length), ∃ u, W.cell? ⟨a.block, a.off + i * P.cellsOf e + j, none⟩ = some u ∧ VR pm L σ (x.cells[j]) u := by
          intro i hi
          obtain ⟨cs', hc, ht'⟩ := hel i (by omega)
          obtain ⟨_, hcl, hcc⟩ := World.cells?_some hc
          obtain ⟨avs, h1, h2, h3⟩ := ih n e cs' (D i) (Pl i) ht' hp.2 hcov (hD i hi)
          have hsp := hsp (by omega)
          have hcell : ∀ j (hj : j < cs'.length), W.cell? ⟨a.block, a.off + i * P.cellsOf e + j, none⟩ = some cs'[j] := by
            intro j hj
            have := hcc j (by omega)
            rw [List.getElem?_eq_getElem hj] at this
            rw [← this]
            obtain ⟨ab, ao, as⟩ := a
            simp at hsp
            subst hsp
            rw [Addr.add_lit, Addr.add_lit]
          by_cases hs : ∃ fs, P.underlying e = some (.struct fs)
          · refine ⟨.agg avs, h1, .inl ⟨hs, _, rfl⟩, by show avs.length = _; omega, fun j hj => ?_⟩
            have hj' : j < avs.length := hj
            exact ⟨_, hcell j (by omega), h3 j hj' (by omega)⟩
          · have hn : ∀ fs, P.underlying e ≠ some (.struct fs) := fun fs e => hs ⟨fs, e⟩
            obtain ⟨v, rfl, hv⟩ := h1.one hn
            have hl1 : ([v] : List AV).length = cs'.length := h2
            refine ⟨v, by rw [hv]; exact h1, .inr ⟨hn, hv⟩, by rw [hv]; omega, fun j hj => ?_⟩
            have hj0 : j = 0 := by rw [hv] at hj; simpa using hj
            subst hj0
            refine ⟨_, hcell 0 (by simp at hl1; omega), ?_⟩
            have := h3 0 (by simp) (by simp at hl1; omega)
            simp only [hv]; exact this
        obtain ⟨X, hX⟩ := Deep.choose_lt hE
        refine ⟨[.sl false (P.cellsOf e) ((List.range len).map X)], .sl ht (by simpa using hlen) (fun x hx => ?_) (fun x hx => ?_), rfl, fun j hj hj' => ?_⟩
        · obtain ⟨i, hi, rfl⟩ := List.mem_map.1 hx
          exact (hX i (by simpa using hi)).1
        · obtain ⟨i, hi, rfl⟩ := List.mem_map.1 hx
          exact (hX i (by simpa using hi)).2.1
        · have : j = 0 := by simpa using hj
          subst this
          simp only [List.getElem_cons_zero]
          by_cases h0 : mm = 0
          · have : len = 0 := by omega
            subst h0; subst this
            exact .slz
          · have hsp := hsp (by omega)
            obtain ⟨ab, ao, as⟩ := a
            simp at hsp
            subst hsp
            have hXl : ((List.range len).map X).length = len := by simp
            have := VR.sl (pm := pm) (L := L) (σ := σ) (ex := false) (sz := P.cellsOf e) (xs := (List.range len).map X) (b := ab) (o := ao) (cap := mm) (fun i j => (W.cell? ⟨ab, ao + i * P.cellsOf e + j, none⟩).getD undef)
              (by omega) (by intro e; cases e) (fun i hi => by
                simp only [List.getElem_map, List.getElem_range]
                exact (hX i (by simpa using hi)).2.2.1) (fun i j hi hj => by
                obtain ⟨u, h1, h2⟩ := (hX i (by simpa using hi)).2.2.2 j (by rw [(hX i (by simpa using hi)).2.2.1]; exact hj)
                rw [h1]
                exact hpm _ _ _ h1) (fun i hi j hj => by
                simp only [List.getElem_map, List.getElem_range] at hj ⊢
                obtain ⟨u, h1, h2⟩ := (hX i (by simpa using hi)).2.2.2 j hj
                rw [h1]
                exact h2)
            rw [hXl] at this
            exact this
    · rename_i fs ht
      rw [ht] at hcov
      simp only [List.all_eq_true, Bool.and_eq_true, decide_eq_true_eq, List.any_eq_true, List.mem_range] at hp hcov
      obtain ⟨xs, n, rfl, hx, hcl, hxl, hf⟩ := DataW.trod_struct ht h
      cases hx
      -- each field's cells
      have hF : ∀ f ∈ fs.toList, ∃ avs, Ty P N f.type avs ∧ avs.length = P.cellsOf f.type ∧ ∀ j (h : j < avs.length) (h' : f.offset + j < cs.length), VR pm L σ (avs[j]) (cs[f.offset + j]) := by
        intro f hfm
        obtain ⟨i, hi, hif⟩ := List.getElem_of_mem hfm
        have hi' : i < fs.size := by simpa using hi
        have hfi : fs[i]? = some f := by rw [Array.getElem?_eq_getElem hi']; simpa using hif
        have h1 := hf i f hfi
        rw [List.getElem?_eq_getElem (by omega)] at h1
        obtain ⟨avs, k1, k2, k3⟩ := ih n f.type _ _ (xs[i]).2 h1 (hp f hfm).1 (hcov.2 f hfm) (Nat.le_trans (hb.part _ _ (List.mem_map.2 ⟨xs[i], by simp, rfl⟩)) hbk)
        have hfit := (hp f hfm).2
        have hl : ((cs.drop f.offset).take (P.cellsOf f.type)).length = P.cellsOf f.type := by simp; omega
        refine ⟨avs, k1, by omega, fun j hj hj' => ?_⟩
        have := k3 j hj (by omega)
        simpa using this
      obtain ⟨avs, k1, k2, k3⟩ := contig_avs (P := P) (R := fun k v => ∀ h : k < cs.length, VR pm L σ v (cs[k])) (Q := fun f avs => Ty P N f.type avs) fs.toList 0 hcov.1 (fun f hfm => by
        obtain ⟨a, q, hl, hr⟩ := hF f hfm
        exact ⟨a, q, hl, fun j h h' => hr j h h'⟩)
      refine ⟨avs, .struct ht (by omega) (fun i f hfi => ?_), by omega, fun j h h' => by simpa using k3 j h (by omega)⟩
      have := k2 f (by
        rw [← Array.getElem?_toList] at hfi
        exact List.mem_of_getElem? hfi)
      simpa using this.2
    · cases hp
end Go.Ab
/- From a law's evaluation to what the statement asks. -/
namespace Go.Ab
set_option linter.constructorNameAsVariable false
set_option linter.unusedSimpArgs false
set_option linter.unusedVariables false
open Go.RowKit
variable {H : Type} {enc : TypeId × Value → H} {P : Program} {W : World} {bk : DataW H → Nat} {N : Nat}

def g00 (W : World) : Gh := { pm := fun b o => W.cell? ⟨b, o, none⟩, tm := fun _ _ => none, L := fun _ => ⟨0, 0, 0⟩, B0 := W.heap.size, w0 := W }

theorem g00_rel (W : World) (ht : TabOK W.heap.size W) : WRel (g00 W) noHp W :=
  ⟨fun _ _ _ e => e, fun _ _ _ e => (by cases e), fun _ _ _ e => (by cases e), fun _ _ _ _ => rfl, Below.refl _ _, Nat.le_refl _, ht, BkOK.refl _, fun _ _ _ e => (by cases e), fun _ _ _ _ _ _ e => (by cases e), fun _ _ _ e => (by cases e), fun _ _ _ _ _ _ e => (by cases e)⟩

/-- What is handed to a law. -/
def Arg (P : Program) (N : Nat) (t : TypeId) (x : AV) : Prop :=
  Ty P N t x.cells ∧ (((∃ fs, P.underlying t = some (.struct fs)) ∧ ∃ cs, x = .agg cs) ∨ ((∀ fs, P.underlying t ≠ some (.struct fs)) ∧ x.cells = [x]))

theorem arg_av (hb : Bulk bk) {m : Nat} {r : Reach} {b0 : Nat} {t : TypeId} {v : Value} {d : DataW H} {ps : List MemPlace} (hval : Value.okWide P W r b0 t v) (h : DataW.Trod enc P W 0 (fun _ => true) true t v d ps)
    (hp : plainT P m t = true) (hc : coversT P m t = true) (hbk : bk d ≤ N) : ∃ x, Arg P N t x ∧ VR (g00 W).pm (g00 W).L noHp x v := by
  obtain ⟨fuel, h⟩ := h
  obtain ⟨avs, h1, h2, h3⟩ := trod_Ty (pm := (g00 W).pm) (L := (g00 W).L) (σ := noHp) hb (fun b o v e => e) m fuel t _ d ps h hp hc hbk
  by_cases hs : ∃ fs, P.underlying t = some (.struct fs)
  · obtain ⟨fs, ht⟩ := id hs
    unfold Value.okWide at hval
    rw [ht] at hval
    obtain ⟨cs, rfl, _, _⟩ := hval
    refine ⟨.agg avs, ⟨h1, .inl ⟨hs, avs, rfl⟩⟩, .agg (by simpa [Value.cells] using h2.symm) (fun j a b => ?_)⟩
    have := h3 j a (by simpa [Value.cells] using b)
    simpa [Value.cells] using this
  · have hn : ∀ fs, P.underlying t ≠ some (.struct fs) := fun fs e => hs ⟨fs, e⟩
    obtain ⟨x, rfl, hx⟩ := h1.one hn
    have hv : v.cells.toList = [v] := by
      cases v <;> try rfl
      rename_i cs
      exfalso
      cases m with
      | zero => simp [plainT] at hp
      | succ m =>
        simp only [plainT] at hp
        unfold Value.okWide Cell.okWide Cell.ok at hval
        split at hp <;> rename_i ht <;> first | (rw [ht] at hval; simp at hval; done) | (exact hn _ ht) | (cases hp; done)
    refine ⟨x, ⟨by rw [hx]; exact h1, .inr ⟨hn, hx⟩⟩, ?_⟩
    have hl : 0 < v.cells.toList.length := by rw [hv]; simp
    have := h3 0 (by simp) hl
    simpa [hv] using this

theorem law_calls (ht : TabOK W.heap.size W) {f : FuncId} {args : List AV} {r : AV} (h : PureEv P f args r) {vals : Array Value} (hv : VRs (g00 W) noHp args vals) :
    Calls P f vals W fun e W' => (∃ u pm L, e = .returned u ∧ VR pm L noHp r u) ∧ Below W.heap.size W W' := by
  refine (h (g00 W) W vals (g00_rel W ht) hv).mono ?_
  rintro e w' ⟨u, g', rfl, a, b, c⟩
  refine ⟨⟨u, _, _, rfl, c⟩, ?_⟩
  have := b.low
  rw [a.B0, a.w0] at this
  exact this

theorem law_true (ht : TabOK W.heap.size W) {f : FuncId} {args : List AV} (h : PureEv P f args (.bool true)) {vals : Array Value} (hv : VRs (g00 W) noHp args vals) :
    Calls P f vals W fun e W' => e = .returned (.bool true) ∧ Below W.heap.size W W' := by
  refine (law_calls ht h hv).mono ?_
  rintro e w' ⟨⟨u, pm, L, rfl, c⟩, hb⟩
  cases c
  exact ⟨rfl, hb⟩

theorem VRs1 {g : Gh} {σ : Hp} {x : AV} {v : Value} (h : VR g.pm g.L σ x v) : VRs g σ [x] #[v] := ⟨rfl, fun j a b => by
  have : j = 0 := by simpa using a
  subst this; exact h⟩
theorem VRs2 {g : Gh} {σ : Hp} {x y : AV} {v u : Value} (h : VR g.pm g.L σ x v) (h' : VR g.pm g.L σ y u) : VRs g σ [x, y] #[v, u] := ⟨rfl, fun j a b => by
  match j, a with
  | 0, _ => exact h
  | 1, _ => exact h'⟩
theorem VRs3 {g : Gh} {σ : Hp} {x y z : AV} {v u w : Value} (h : VR g.pm g.L σ x v) (h' : VR g.pm g.L σ y u) (h2 : VR g.pm g.L σ z w) : VRs g σ [x, y, z] #[v, u, w] := ⟨rfl, fun j a b => by
  match j, a with
  | 0, _ => exact h
  | 1, _ => exact h'
  | 2, _ => exact h2⟩

/-- 'post', where the law returned true and below the old heap nothing has turned. -/
theorem post_true {f : Func} {s : ChangeSpec} {W' : World} {args : Array Value} {ds gs : List (DataW H)} {before pa : List MemPlace} {fresh handsOn : Bool}
    (hW : DataW.Whole enc P f.params.toList s.vars false W args.toList ds gs before) (hvars : s.vars = []) (hgs : gs = [])
    (hres : (s.fn H (ds ++ gs)).results = [.lit (.bool true)]) (hargs : (s.fn H (ds ++ gs)).args = ds) (hvs : (s.fn H (ds ++ gs)).vars = [])
    {tb : TypeId} (htb : f.resultTypes = #[tb]) (hub : P.underlying tb = some .bool) (hb : Below W.heap.size W W') 
    (hk : DataW.TrodAll enc P W' 0 (fun b => decide (b < W.heap.size)) true f.params.toList args.toList ds pa) :
    s.post enc P f false fresh handsOn false W args (.bool true) W' := by
  refine ⟨ds, gs, before, [], pa, [], hW, ?_, ?_, ?_, hb.frame _, fun h => by cases h⟩
  · rw [hres, htb]
    exact ⟨[], [], ⟨1, by unfold DataW.trod; rw [hub]; rfl⟩, rfl, rfl⟩
  · rw [hargs]; exact hk
  · rw [hvs, hvars]; rfl
end Go.Ab
/- From a reading of arguments to native values; what the evaluator says of a law. -/
namespace Go.Ab
set_option linter.constructorNameAsVariable false
set_option linter.unusedSimpArgs false
set_option linter.unusedVariables false
open Go.RowKit
set_option linter.unusedVariables false
set_option linter.unusedSimpArgs false
/-- How things are laid into cells. -/
structure Enc {α : Type} (f : α → AV) (esh : Option Nat) : Prop where
  sz : ∀ x, (f x).cells.length = szOf esh
  one : ∀ x, (f x).cells.all AV.one = true
  form : ∀ x, match esh with | none => (f x).cells = [f x] | some _ => f x = .agg (f x).cells
def avI (k : IntKind) (x : Int) : AV := .int k x
def avB (x : Bool) : AV := .bool x
def avS (x : ByteArray) : AV := .str x
def avL {α : Type} (sz : Nat) (f : α → AV) (l : List α) : AV := .sl false sz (l.map f)
theorem encI (k : IntKind) : Enc (avI k) none := ⟨fun _ => rfl, fun _ => rfl, fun _ => rfl⟩
theorem encB : Enc avB none := ⟨fun _ => rfl, fun _ => rfl, fun _ => rfl⟩
theorem encS : Enc avS none := ⟨fun _ => rfl, fun _ => rfl, fun _ => rfl⟩
theorem encL {α : Type} {f : α → AV} {esh : Option Nat} (he : Enc f esh) (sz : Nat) : Enc (avL sz f) none := ⟨fun _ => rfl, fun _ => rfl, fun _ => rfl⟩
theorem exists_map {α : Type} {f : α → AV} {Q : α → Prop} {xs : List AV} (h : ∀ x ∈ xs, ∃ a, x = f a ∧ Q a) : ∃ as : List α, xs = as.map f ∧ ∀ a ∈ as, Q a := by
  induction xs with
  | nil => exact ⟨[], rfl, by simp⟩
  | cons x r ih =>
    obtain ⟨a, rfl, ha⟩ := h x (by simp)
    obtain ⟨as, rfl, has⟩ := ih (fun y hy => h y (by simp [hy]))
    exact ⟨a :: as, rfl, fun b hb => by rcases List.mem_cons.1 hb with rfl | hb; exact ha; exact has b hb⟩

variable {P : Program} {N : Nat}
def Rd (P : Program) (N : Nat) {α : Type} (f : α → AV) (Q : α → Prop) (t : TypeId) : Prop := ∀ avs, Ty P N t avs → ∃ a, avs = (f a).cells ∧ Q a

theorem rdI {t k} (h : P.underlying t = some (.int k)) : Rd P N (avI k) (fun n => (Lit.int k n).wf = true) t := by
  intro avs ht
  cases ht with
  | bool h' => rw [h] at h'; cases h'
  | int h' hw => rw [h] at h'; cases h'; exact ⟨_, rfl, hw⟩
  | str h' => rw [h] at h'; cases h'
  | sl h' => rw [h] at h'; cases h'
  | struct h' => rw [h] at h'; cases h'
theorem rdB {t} (h : P.underlying t = some .bool) : Rd P N avB (fun _ => True) t := by
  intro avs ht
  cases ht with
  | bool h' => exact ⟨_, rfl, trivial⟩
  | int h' => rw [h] at h'; cases h'
  | str h' => rw [h] at h'; cases h'
  | sl h' => rw [h] at h'; cases h'
  | struct h' => rw [h] at h'; cases h'
theorem rdS {t} (h : P.underlying t = some .string) : Rd P N avS (fun s => s.size ≤ N) t := by
  intro avs ht
  cases ht with
  | bool h' => rw [h] at h'; cases h'
  | int h' => rw [h] at h'; cases h'
  | str h' hs => exact ⟨_, rfl, hs⟩
  | sl h' => rw [h] at h'; cases h'
  | struct h' => rw [h] at h'; cases h'

/-- Is it a struct, and so laid? -/
def Form (P : Program) (e : TypeId) (esh : Option Nat) : Prop := match esh with | some _ => ∃ fs, P.underlying e = some (.struct fs) | none => ∀ fs, P.underlying e ≠ some (.struct fs)

theorem form_eq {α : Type} {f : α → AV} {esh : Option Nat} {e : TypeId} (he : Enc f esh) (hf : Form P e esh) {x : AV} {a : α} (hc : x.cells = (f a).cells)
    (hx : ((∃ fs, P.underlying e = some (.struct fs)) ∧ ∃ cs, x = .agg cs) ∨ ((∀ fs, P.underlying e ≠ some (.struct fs)) ∧ x.cells = [x])) : x = f a := by
  have h := he.form a
  cases esh with
  | none =>
    rcases hx with ⟨⟨fs, h1⟩, _⟩ | ⟨_, h1⟩
    · exact (hf fs h1).elim
    · rw [h1] at hc
      have h2 : (f a).cells = [f a] := h
      rw [h2] at hc
      exact (List.cons.inj hc).1
  | some n =>
    have h2 : f a = .agg (f a).cells := h
    rcases hx with ⟨_, cs, rfl⟩ | ⟨h1, _⟩
    · rw [h2, ← hc]; rfl
    · obtain ⟨fs, h3⟩ := hf
      exact (h1 fs h3).elim

theorem rdL {α : Type} {f : α → AV} {Q : α → Prop} {esh : Option Nat} {t e : TypeId} (he : Enc f esh) (hf : Form P e esh) (h : P.underlying t = some (.slice e)) {sz : Nat} (hc : P.cellsOf e = sz) (hr : Rd P N f Q e) : Rd P N (avL sz f) (fun l => l.length ≤ N ∧ ∀ a ∈ l, Q a) t := by
  intro avs ht
  cases ht with
  | bool h' => rw [h] at h'; cases h'
  | int h' => rw [h] at h'; cases h'
  | str h' => rw [h] at h'; cases h'
  | struct h' => rw [h] at h'; cases h'
  | sl h' hl hx ha =>
    rename_i e' xs
    rw [h] at h'; cases h'
    have key : ∀ y ∈ xs, ∃ a, y = f a ∧ Q a := fun y hy => by
      obtain ⟨a, h1, h2⟩ := hr _ (hx y hy)
      exact ⟨a, form_eq he hf h1 (ha y hy), h2⟩
    obtain ⟨l, rfl, hq⟩ := exists_map key
    refine ⟨l, ?_, by simpa using hl, hq⟩
    rw [hc]; rfl

theorem ty_struct {t fs avs} (h : P.underlying t = some (.struct fs)) (ht : Ty P N t avs) : avs.length = P.cellsOf t ∧ ∀ (i : Nat) (f : Field), fs[i]? = some f → Ty P N f.type ((avs.drop f.offset).take (P.cellsOf f.type)) := by
  cases ht with
  | bool h' => rw [h] at h'; cases h'
  | int h' => rw [h] at h'; cases h'
  | str h' => rw [h] at h'; cases h'
  | sl h' => rw [h] at h'; cases h'
  | struct h' hl hf => rw [h] at h'; cases h'; exact ⟨hl, hf⟩
theorem st_cons {cs xs rest : List AV} {o s : Nat} (h : (cs.drop o).take s = xs) (k : cs.drop (o + s) = rest) : cs.drop o = xs ++ rest := by
  rw [← h, ← k, ← List.drop_drop, List.take_append_drop]
theorem st_nil {cs : List AV} {n : Nat} (h : cs.length = n) : cs.drop n = [] := List.drop_eq_nil_of_le (by omega)

theorem arg_rd {α : Type} {f : α → AV} {Q : α → Prop} {esh : Option Nat} {t : TypeId} (he : Enc f esh) (hf : Form P t esh) (hr : Rd P N f Q t) {x : AV} (h : Arg P N t x) : ∃ a, x = f a ∧ Q a := by
  obtain ⟨a, h1, h2⟩ := hr _ h.1
  exact ⟨a, form_eq he hf h1 h.2, h2⟩

/-- An evaluation from no heap says what the call returns, if that names nothing. -/
theorem PureEv_drop {f : FuncId} {args : List AV} {v : AV} (hb : v.blw 0 = true) {σ' : Hp} (h : Ev P f args noHp v σ') : PureEv P f args v := by
  intro g w vals hw hv
  refine (h g w vals hw hv).mono ?_
  rintro e w' ⟨u, g', rfl, hle, hw', hu⟩
  exact ⟨u, g', rfl, ⟨⟨hle.ext.pm, fun o => trivial⟩, hle.tm, hle.B0, hle.w0⟩, ⟨hw'.pm, hw'.tm, hw'.tmf, hw'.disj, hw'.low, hw'.B0, hw'.tab, hw'.bk, fun o ver cs e => by simp [noHp] at e, (fun o o' v v' c c' e => by simp [noHp] at e), (fun o es it e => by simp [noHp] at e), (fun o o' es es' it it' e => by simp [noHp] at e)⟩, hu.agree hb (fun o ho => by omega)⟩
def isT (x : Option (XV × XH)) : Bool := match x with | some (.bool true, _) => true | _ => false
theorem isT_ex {x : Option (XV × XH)} (h : isT x = true) : ∃ H, x = some (.bool true, H) := by
  unfold isT at h
  split at h
  · exact ⟨_, rfl⟩
  · cases h
theorem call_X (ρ : Env) {fs : List (SE × SE)} (hfs : FactsOK ρ fs) {pv : PvT} (hpv : PvOK ρ P pv) (hm : P.follows .mixedOrders = true) (hφ : ρ.φ = []) (hN : 1000000000 ≤ ρ.N) {code : FuncId → Option (Nat × List RS × FC)} (hcode : CodesOK P code) {ov : OvT} (hov : OvH ρ P ov) {d : Nat} {f : FuncId} {args : List XV} {v : XV} {H : XH} (hv : (v.av ρ).blw 0 = true) (e : runX P pv code ov d f args ⟨0, .e, ⟨fs, .e, 1000000000, false, 0⟩⟩ = some (v, H)) : PureEv P f (args.map (XV.av ρ)) (v.av ρ) := by
  have hk : XH.ok ⟨0, .e, ⟨fs, .e, 1000000000, false, 0⟩⟩ ρ := ⟨fun o _ => Tr.get_e o, ⟨hfs, hN⟩, fun o es e => by simp at e⟩
  obtain ⟨_, h2⟩ := (runX_ok hpv hm hcode hov d).at e hk
  have h0 : hpx ρ ⟨0, .e, ⟨fs, .e, 1000000000, false, 0⟩⟩ = noHp := by funext o; simp [hpx, noHp, hφ, hp]
  rw [h0] at h2
  exact PureEv_drop hv h2
theorem law_X (ρ : Env) {fs : List (SE × SE)} (hfs : FactsOK ρ fs) {pv : PvT} (hpv : PvOK ρ P pv) (hm : P.follows .mixedOrders = true) (hφ : ρ.φ = []) (hN : 1000000000 ≤ ρ.N) {code : FuncId → Option (Nat × List RS × FC)} (hcode : CodesOK P code) {ov : OvT} (hov : OvH ρ P ov) {d : Nat} {f : FuncId} {args : List XV} (h : isT (runX P pv code ov d f args ⟨0, .e, ⟨fs, .e, 1000000000, false, 0⟩⟩) = true) : PureEv P f (args.map (XV.av ρ)) (.bool true) := by
  obtain ⟨H, e⟩ := isT_ex h
  exact call_X ρ hfs hpv hm hφ hN hcode hov rfl e
end Go.Ab
/- The evaluator in a form that the kernel reckons fast: every choice is a recursor whose branches are closed terms. Printed by a program. -/
namespace Go.Ab
set_option linter.constructorNameAsVariable false
set_option linter.unusedSimpArgs false
set_option linter.unusedVariables false
open Go.RowKit
set_option linter.unusedVariables false
set_option linter.unusedSimpArgs false
set_option maxRecDepth 4000
noncomputable section

theorem brec {α : Type} (c : Bool) (x y : α) : (Bool.rec (motive := fun _ => α) y x c : α) = (bif c then x else y) := by cases c <;> rfl
def get1R : D8 → F1 → XV := D8.rec (motive := fun _ => F1 → XV) (fun t => t.p0) (fun t => t.p1) (fun t => t.p2) (fun t => t.p3) (fun t => t.p4) (fun t => t.p5) (fun t => t.p6) (fun t => t.p7)
def lk1 : F1 → (F1 → F2) → F2 := N8.rec (motive := fun _ => (F1 → F2) → F2) (fun p0 p1 p2 p3 p4 p5 p6 p7 k => k (.mk p0 p1 p2 p3 p4 p5 p6 p7))
def get2R : D8 → F2 → F1 := D8.rec (motive := fun _ => F2 → F1) (fun t => t.p0) (fun t => t.p1) (fun t => t.p2) (fun t => t.p3) (fun t => t.p4) (fun t => t.p5) (fun t => t.p6) (fun t => t.p7)
def lk2 : F2 → (F2 → F3) → F3 := N8.rec (motive := fun _ => (F2 → F3) → F3) (fun p0 p1 p2 p3 p4 p5 p6 p7 k => k (.mk p0 p1 p2 p3 p4 p5 p6 p7))
def get3R : D8 → F3 → F2 := D8.rec (motive := fun _ => F3 → F2) (fun t => t.p0) (fun t => t.p1) (fun t => t.p2) (fun t => t.p3) (fun t => t.p4) (fun t => t.p5) (fun t => t.p6) (fun t => t.p7)
def set1R : D8 → XV → F1 → F1 := D8.rec (motive := fun _ => XV → F1 → F1) (fun x => N8.rec (motive := fun _ => F1) (fun p0 p1 p2 p3 p4 p5 p6 p7 => .mk x p1 p2 p3 p4 p5 p6 p7)) (fun x => N8.rec (motive := fun _ => F1) (fun p0 p1 p2 p3 p4 p5 p6 p7 => .mk p0 x p2 p3 p4 p5 p6 p7)) (fun x => N8.rec (motive := fun _ => F1) (fun p0 p1 p2 p3 p4 p5 p6 p7 => .mk p0 p1 x p3 p4 p5 p6 p7)) (fun x => N8.rec (motive := fun _ => F1) (fun p0 p1 p2 p3 p4 p5 p6 p7 => .mk p0 p1 p2 x p4 p5 p6 p7)) (fun x => N8.rec (motive := fun _ => F1) (fun p0 p1 p2 p3 p4 p5 p6 p7 => .mk p0 p1 p2 p3 x p5 p6 p7)) (fun x => N8.rec (motive := fun _ => F1) (fun p0 p1 p2 p3 p4 p5 p6 p7 => .mk p0 p1 p2 p3 p4 x p6 p7)) (fun x => N8.rec (motive := fun _ => F1) (fun p0 p1 p2 p3 p4 p5 p6 p7 => .mk p0 p1 p2 p3 p4 p5 x p7)) (fun x => N8.rec (motive := fun _ => F1) (fun p0 p1 p2 p3 p4 p5 p6 p7 => .mk p0 p1 p2 p3 p4 p5 p6 x))
def set2R : D8 → D8 → XV → F2 → F2 := D8.rec (motive := fun _ => D8 → XV → F2 → F2) (fun e x => N8.rec (motive := fun _ => F2) (fun p0 p1 p2 p3 p4 p5 p6 p7 => lk1 (set1R e x p0) fun u => .mk u p1 p2 p3 p4 p5 p6 p7)) (fun e x => N8.rec (motive := fun _ => F2) (fun p0 p1 p2 p3 p4 p5 p6 p7 => lk1 (set1R e x p1) fun u => .mk p0 u p2 p3 p4 p5 p6 p7)) (fun e x => N8.rec (motive := fun _ => F2) (fun p0 p1 p2 p3 p4 p5 p6 p7 => lk1 (set1R e x p2) fun u => .mk p0 p1 u p3 p4 p5 p6 p7)) (fun e x => N8.rec (motive := fun _ => F2) (fun p0 p1 p2 p3 p4 p5 p6 p7 => lk1 (set1R e x p3) fun u => .mk p0 p1 p2 u p4 p5 p6 p7)) (fun e x => N8.rec (motive := fun _ => F2) (fun p0 p1 p2 p3 p4 p5 p6 p7 => lk1 (set1R e x p4) fun u => .mk p0 p1 p2 p3 u p5 p6 p7)) (fun e x => N8.rec (motive := fun _ => F2) (fun p0 p1 p2 p3 p4 p5 p6 p7 => lk1 (set1R e x p5) fun u => .mk p0 p1 p2 p3 p4 u p6 p7)) (fun e x => N8.rec (motive := fun _ => F2) (fun p0 p1 p2 p3 p4 p5 p6 p7 => lk1 (set1R e x p6) fun u => .mk p0 p1 p2 p3 p4 p5 u p7)) (fun e x => N8.rec (motive := fun _ => F2) (fun p0 p1 p2 p3 p4 p5 p6 p7 => lk1 (set1R e x p7) fun u => .mk p0 p1 p2 p3 p4 p5 p6 u))
def set3R : D8 → D8 → D8 → XV → F3 → F3 := D8.rec (motive := fun _ => D8 → D8 → XV → F3 → F3) (fun d e x => N8.rec (motive := fun _ => F3) (fun p0 p1 p2 p3 p4 p5 p6 p7 => lk2 (set2R d e x p0) fun u => .mk u p1 p2 p3 p4 p5 p6 p7)) (fun d e x => N8.rec (motive := fun _ => F3) (fun p0 p1 p2 p3 p4 p5 p6 p7 => lk2 (set2R d e x p1) fun u => .mk p0 u p2 p3 p4 p5 p6 p7)) (fun d e x => N8.rec (motive := fun _ => F3) (fun p0 p1 p2 p3 p4 p5 p6 p7 => lk2 (set2R d e x p2) fun u => .mk p0 p1 u p3 p4 p5 p6 p7)) (fun d e x => N8.rec (motive := fun _ => F3) (fun p0 p1 p2 p3 p4 p5 p6 p7 => lk2 (set2R d e x p3) fun u => .mk p0 p1 p2 u p4 p5 p6 p7)) (fun d e x => N8.rec (motive := fun _ => F3) (fun p0 p1 p2 p3 p4 p5 p6 p7 => lk2 (set2R d e x p4) fun u => .mk p0 p1 p2 p3 u p5 p6 p7)) (fun d e x => N8.rec (motive := fun _ => F3) (fun p0 p1 p2 p3 p4 p5 p6 p7 => lk2 (set2R d e x p5) fun u => .mk p0 p1 p2 p3 p4 u p6 p7)) (fun d e x => N8.rec (motive := fun _ => F3) (fun p0 p1 p2 p3 p4 p5 p6 p7 => lk2 (set2R d e x p6) fun u => .mk p0 p1 p2 p3 p4 p5 u p7)) (fun d e x => N8.rec (motive := fun _ => F3) (fun p0 p1 p2 p3 p4 p5 p6 p7 => lk2 (set2R d e x p7) fun u => .mk p0 p1 p2 p3 p4 p5 p6 u))
def getDR {α : Type} (d : α) : Option α → α := Option.rec (motive := fun _ => α) d (fun x => x)
def atR (F : XF) (i : Nat) : XV := Bool.rec (motive := fun _ => XV) (getDR .junk (F.hi.get i)) (get1R (dig8 (Nat.mod i 8)) (get2R (dig8 (Nat.mod (Nat.div i 8) 8)) (get3R (dig8 (Nat.div i 64)) F.lo))) (Nat.blt i 512)
def lk3 : F3 → (F3 → XF) → XF := N8.rec (motive := fun _ => (F3 → XF) → XF) (fun p0 p1 p2 p3 p4 p5 p6 p7 k => k (.mk p0 p1 p2 p3 p4 p5 p6 p7))
theorem lk3_eq (t : F3) (k : F3 → XF) : lk3 t k = k t := by cases t; rfl
def setR (i : Nat) (x : XV) (F : XF) : XF := XF.rec (motive := fun _ => XF) (fun lo hi => Bool.rec (motive := fun _ => XF) ⟨lo, hi.set i x⟩ (lk3 (set3R (dig8 (Nat.div i 64)) (dig8 (Nat.mod (Nat.div i 8) 8)) (dig8 (Nat.mod i 8)) x lo) fun u => ⟨u, hi⟩) (Nat.blt i 512)) F
theorem get1R_eq (d : D8) (t : F1) : get1R d t = t.get d := by cases d <;> rfl
theorem get2R_eq (d : D8) (t : F2) : get2R d t = t.get d := by cases d <;> rfl
theorem get3R_eq (d : D8) (t : F3) : get3R d t = t.get d := by cases d <;> rfl
theorem set1R_eq (d : D8) (x : XV) (t : F1) : set1R d x t = t.set d x := by cases t; cases d <;> rfl
theorem lk1_eq (t : F1) (k : F1 → F2) : lk1 t k = k t := by cases t; rfl
theorem lk2_eq (t : F2) (k : F2 → F3) : lk2 t k = k t := by cases t; rfl
theorem set2R_eq (d e : D8) (x : XV) (t : F2) : set2R d e x t = t.set d ((t.get d).set e x) := by
  rw [← set1R_eq]
  cases t; cases d <;> exact lk1_eq _ _
theorem set3R_eq (d e f : D8) (x : XV) (t : F3) : set3R d e f x t = t.set d ((t.get d).set e (((t.get d).get e).set f x)) := by
  rw [← set2R_eq]
  cases t; cases d <;> exact lk2_eq _ _
theorem atR_eq (F : XF) (i : Nat) : atR F i = F.at i := by
  unfold atR XF.at
  rw [get1R_eq, get2R_eq, get3R_eq]
  cases Nat.blt i 512
  · cases F.hi.get i <;> rfl
  · rfl
theorem setR_eq (F : XF) (i : Nat) (x : XV) : setR i x F = F.set i x := by
  cases F with
  | mk lo hi =>
    show (Bool.rec (motive := fun _ => XF) ⟨lo, hi.set i x⟩ (lk3 (set3R (dig8 (Nat.div i 64)) (dig8 (Nat.mod (Nat.div i 8) 8)) (dig8 (Nat.mod i 8)) x lo) fun u => ⟨u, hi⟩) (Nat.blt i 512) : XF) = _
    rw [brec, lk3_eq, set3R_eq]; rfl

/-! tries -/
def Tr.lookR {α β : Type} (t : Tr α) (k : Tr α → β) : β := Tr.rec (motive := fun _ => (Tr α → β) → β) (fun k => k .e) (fun v p q r s _ _ _ _ k => k (.nd v p q r s)) t k
def Tr.vR {α : Type} : Tr α → Option α := Tr.rec (motive := fun _ => Option α) none (fun v _ _ _ _ _ _ _ _ => v)
def Tr.dnR {α : Type} : D4 → Tr α → Tr α := D4.rec (motive := fun _ => Tr α → Tr α)
  (Tr.rec (motive := fun _ => Tr α) .e (fun _ p _ _ _ _ _ _ _ => p)) (Tr.rec (motive := fun _ => Tr α) .e (fun _ _ q _ _ _ _ _ _ => q)) (Tr.rec (motive := fun _ => Tr α) .e (fun _ _ _ r _ _ _ _ _ => r)) (Tr.rec (motive := fun _ => Tr α) .e (fun _ _ _ _ s _ _ _ _ => s))
def Tr.getPR {α : Type} : List D4 → Tr α → Option α := List.rec (motive := fun _ => Tr α → Option α) Tr.vR (fun d _ ih t => ih (Tr.dnR d t))
def Tr.getR {α : Type} (t : Tr α) (i : Nat) : Option α := Tr.getPR (path i) t
def Tr.put0R {α : Type} (x : α) : Tr α → Tr α := Tr.rec (motive := fun _ => Tr α) (.nd (some x) .e .e .e .e) (fun _ p q r s _ _ _ _ => .nd (some x) p q r s)
def Tr.stR {α : Type} : D4 → (Tr α → Tr α) → Tr α → Tr α := D4.rec (motive := fun _ => (Tr α → Tr α) → Tr α → Tr α)
  (fun ih => Tr.rec (motive := fun _ => Tr α) (Tr.lookR (ih .e) fun u => .nd none u .e .e .e) (fun v p q r s _ _ _ _ => Tr.lookR (ih p) fun u => .nd v u q r s))
  (fun ih => Tr.rec (motive := fun _ => Tr α) (Tr.lookR (ih .e) fun u => .nd none .e u .e .e) (fun v p q r s _ _ _ _ => Tr.lookR (ih q) fun u => .nd v p u r s))
  (fun ih => Tr.rec (motive := fun _ => Tr α) (Tr.lookR (ih .e) fun u => .nd none .e .e u .e) (fun v p q r s _ _ _ _ => Tr.lookR (ih r) fun u => .nd v p q u s))
  (fun ih => Tr.rec (motive := fun _ => Tr α) (Tr.lookR (ih .e) fun u => .nd none .e .e .e u) (fun v p q r s _ _ _ _ => Tr.lookR (ih s) fun u => .nd v p q r u))
def Tr.setPR {α : Type} (x : α) : List D4 → Tr α → Tr α := List.rec (motive := fun _ => Tr α → Tr α) (Tr.put0R x) (fun d _ ih => Tr.stR d ih)
def Tr.setR {α : Type} (t : Tr α) (i : Nat) (x : α) : Tr α := Tr.setPR x (path i) t
theorem Tr.lookR_eq {α β : Type} (t : Tr α) (k : Tr α → β) : t.lookR k = k t := by cases t <;> rfl
theorem Tr.vR_eq {α : Type} (t : Tr α) : t.vR = t.v := by cases t <;> rfl
theorem Tr.dnR_eq {α : Type} (d : D4) (t : Tr α) : Tr.dnR d t = t.dn d := by cases d <;> cases t <;> rfl
theorem Tr.getPR_eq {α : Type} : ∀ (l : List D4) (t : Tr α), Tr.getPR l t = Tr.getP l t
  | [], t => Tr.vR_eq t
  | d :: l, t => by
    show Tr.getPR l (Tr.dnR d t) = _
    rw [Tr.getPR_eq l, Tr.dnR_eq]; rfl
theorem Tr.getR_eq {α : Type} (t : Tr α) (i : Nat) : t.getR i = t.get i := Tr.getPR_eq _ _
theorem Tr.put0R_eq {α : Type} (x : α) (t : Tr α) : Tr.put0R x t = t.put0 x := by cases t <;> rfl
theorem Tr.stR_eq {α : Type} (d : D4) (ih : Tr α → Tr α) (t : Tr α) : Tr.stR d ih t = t.up d (ih (t.dn d)) := by
  cases d <;> cases t <;> exact Tr.lookR_eq _ _
theorem Tr.setPR_eq {α : Type} (x : α) : ∀ (l : List D4) (t : Tr α), Tr.setPR x l t = Tr.setP x l t
  | [], t => Tr.put0R_eq x t
  | d :: l, t => by
    show Tr.stR d (Tr.setPR x l) t = _
    rw [Tr.stR_eq, Tr.setPR_eq x l, Tr.setP, Tr.look_eq]
theorem Tr.setR_eq {α : Type} (t : Tr α) (i : Nat) (x : α) : t.setR i x = t.set i x := Tr.setPR_eq _ _ _
def Tr.setLR {α : Type} : List α → Tr α → Nat → Tr α := List.rec (motive := fun _ => Tr α → Nat → Tr α) (fun t _ => t) (fun x _ ih t i => Tr.lookR (Tr.setR t i x) fun t' => ih t' (Nat.succ i))
theorem Tr.setLR_eq {α : Type} : ∀ (l : List α) (t : Tr α) (i : Nat), Tr.setLR l t i = Tr.setL l t i
  | [], t, i => rfl
  | x :: l, t, i => by
    show Tr.lookR (Tr.setR t i x) (fun t' => Tr.setLR l t' (i + 1)) = _
    rw [Tr.lookR_eq, Tr.setR_eq, Tr.setLR_eq l, Tr.setL, Tr.look_eq]
def consO {α : Type} (x : α) : Option (List α) → Option (List α) := Option.rec (motive := fun _ => Option (List α)) none (fun l => some (x :: l))
def Tr.rdR {α : Type} (t : Tr α) : Nat → Nat → Option (List α) := Nat.rec (motive := fun _ => Nat → Option (List α)) (fun _ => some []) (fun _ ih i => Option.rec (motive := fun _ => Option (List α)) none (fun x => consO x (ih (Nat.succ i))) (t.getR i))
theorem Tr.rdR_eq {α : Type} (t : Tr α) : ∀ (n i : Nat), t.rdR n i = t.rd n i
  | 0, i => rfl
  | n + 1, i => by
    show Option.rec (motive := fun _ => Option (List α)) none (fun x => consO x (t.rdR n (i + 1))) (t.getR i) = _
    rw [Tr.getR_eq, Tr.rdR_eq t n, Tr.rd]
    cases t.get i with
    | none => rfl
    | some x => cases t.rd n (i + 1) <;> rfl

/-! operands -/
def evR (F : XF) (x : Opd) : XV := Opd.rec (motive := fun _ => XF → XV) (fun i F => atR F i) (fun x _ => XV.ofAV x) x F
theorem evR_eq (F : XF) (x : Opd) : evR F x = evx F x := by
  cases x with
  | t i => exact atR_eq F i
  | v x => rfl
def evLR (F : XF) : List Opd → List XV := List.rec (motive := fun _ => List XV) [] (fun x _ ih => evR F x :: ih)
theorem evLR_eq (F : XF) : ∀ (l : List Opd), evLR F l = evxL F l
  | [] => rfl
  | x :: l => by
    show evR F x :: evLR F l = _
    rw [evR_eq, evLR_eq F l]; rfl
def evPR (F : XF) : List (Nat × Nat × Opd) → List (Nat × Nat × XV) := List.rec (motive := fun _ => List (Nat × Nat × XV)) [] (fun p _ ih => (p.1, p.2.1, evR F p.2.2) :: ih)
theorem evPR_eq (F : XF) : ∀ (l : List (Nat × Nat × Opd)), evPR F l = evxP F l
  | [] => rfl
  | (a, b, x) :: l => by
    show (a, b, evR F x) :: evPR F l = _
    rw [evR_eq, evPR_eq F l]; rfl
def evOR (F : XF) (x : Option Opd) : Option XV := Option.rec (motive := fun _ => XF → Option XV) (fun _ => none) (fun x F => some (evR F x)) x F
theorem evOR_eq (F : XF) (x : Option Opd) : evOR F x = evxO F x := by
  cases x with
  | none => rfl
  | some x => show some (evR F x) = _; rw [evR_eq]; rfl

/-! values -/
def cellsR : XV → List XV := XV.rec (motive_1 := fun _ => List XV) (motive_2 := fun _ => Unit) (fun k n => [.int k n]) (fun k e => [.sym k e]) (fun b => [.bool b]) (fun s => [.str s]) ([.nilp]) (fun o ver off => [.ptr o ver off]) (fun cs off _ => [.cptr cs off]) ([.nils]) (fun ex sz xs _ => [.sl ex sz xs]) (fun o ver off n esh => [.ref o ver off n esh]) (fun ex sz xs _ => [.slt ex sz xs]) (fun n => [.lenT n]) (fun cs _ => cs) (fun vs _ => [.tup vs]) ([.nilf]) (fun f first caps _ _ => [.fn f first caps]) ([.nili]) (fun t v _ => [.iface t v]) (fun o => [.mp o]) (fun o => [.itr o]) (fun x => [.lit x]) ([.junk]) () (fun _ _ _ _ => ())
theorem cellsR_eq (x : XV) : cellsR x = x.cells := by cases x <;> rfl
def oneVR : XV → Bool := XV.rec (motive_1 := fun _ => Bool) (motive_2 := fun _ => Unit) (fun _ _ => true) (fun _ _ => true) (fun _ => true) (fun _ => true) (true) (fun _ _ _ => true) (fun _ _ _ => true) (true) (fun _ _ _ _ => true) (fun _ _ _ _ _ => true) (fun _ _ _ _ => true) (fun _ => true) (fun cs _ => false) (fun vs _ => false) (true) (fun _ _ _ _ _ => true) (true) (fun _ _ _ => true) (fun _ => true) (fun _ => true) (fun x => false) (false) () (fun _ _ _ _ => ())
theorem oneVR_eq (x : XV) : oneVR x = x.one := by cases x <;> rfl
def njR : XV → Bool := XV.rec (motive_1 := fun _ => Bool) (motive_2 := fun _ => Unit) (fun _ _ => true) (fun _ _ => true) (fun _ => true) (fun _ => true) (true) (fun _ _ _ => true) (fun _ _ _ => true) (true) (fun _ _ _ _ => true) (fun _ _ _ _ _ => true) (fun _ _ _ _ => true) (fun _ => true) (fun _ _ => true) (fun _ _ => true) (true) (fun _ _ _ _ _ => true) (true) (fun _ _ _ => true) (fun _ => true) (fun _ => true) (fun x => false) (false) () (fun _ _ _ _ => ())
theorem njR_eq (x : XV) : njR x = x.nj := by cases x <;> rfl
def andR (a b : Bool) : Bool := Bool.rec (motive := fun _ => Bool → Bool) (fun _ => false) (fun b => b) a b
theorem andR_eq (a b : Bool) : andR a b = (a && b) := by cases a <;> rfl
def allOneR : List XV → Bool := List.rec (motive := fun _ => Bool) true (fun x _ ih => andR (oneVR x) ih)
theorem allOneR_eq : ∀ (l : List XV), allOneR l = allOne l
  | [] => rfl
  | x :: l => by show andR (oneVR x) (allOneR l) = _; rw [andR_eq, oneVR_eq, allOneR_eq l]; rfl
def lenR : List XV → Nat := List.rec (motive := fun _ => Nat) 0 (fun _ _ ih => Nat.succ ih)
theorem lenR_eq : ∀ (l : List XV), lenR l = lenX l
  | [] => rfl
  | x :: l => by show Nat.succ (lenR l) = _; rw [lenR_eq l]; rfl
def objK (ver : Nat) (x : XO) : Option XO := Bool.rec (motive := fun _ => Option XO) none (some x) (Nat.beq x.ver ver)
def objR (H : XH) (o ver : Nat) : Option XO := Option.rec (motive := fun _ => Nat → Option XO) (fun _ => none) (fun x ver => objK ver x) (H.t.getR o) ver
theorem objR_eq (H : XH) (o ver : Nat) : objR H o ver = H.obj o ver := by
  unfold objR XH.obj
  rw [Tr.getR_eq]
  cases H.t.get o with
  | none => rfl
  | some x => show objK ver x = (bif Nat.beq x.ver ver then some x else none); unfold objK; rw [brec]
def pvR (H : XH) (x : Option XV) : XR := Option.rec (motive := fun _ => XH → XR) (fun _ => none) (fun v H => some (v, H, [], none)) x H
theorem pvR_eq (H : XH) (x : Option XV) : pvR H x = pvx H x := by cases x <;> rfl
/-- A heap is written, then the rest. -/
def putR {α : Type} (H : XH) (o : Nat) (x : XO) (k : XH → α) : α := XH.rec (motive := fun _ => α) (fun nx t fs => Tr.lookR (Tr.setR t o x) fun t' => k ⟨nx, t', fs⟩) H
theorem putR_eq {α : Type} (H : XH) (o : Nat) (x : XO) (k : XH → α) : putR H o x k = k (H.put o x) := by
  cases H with
  | mk nx t fs => show Tr.lookR (Tr.setR t o x) (fun t' => k ⟨nx, t', fs⟩) = _; rw [Tr.lookR_eq, Tr.setR_eq]; unfold XH.put; rw [Tr.look_eq]
def newR (H : XH) (cs : List XV) (v : Nat → XV) (rd : List Nat) : XR := XH.rec (motive := fun _ => XR) (fun nx t fs => Bool.rec (motive := fun _ => XR) none (Tr.lookR (Tr.setR t nx ⟨0, lenR cs, Tr.setLR cs .e 0⟩) fun t' => some (v nx, ⟨Nat.succ nx, t', fs⟩, rd, some nx)) (Nat.blt nx fs.n && Nat.ble fs.g nx)) H
theorem newR_eq (H : XH) (cs : List XV) (v : Nat → XV) (rd : List Nat) : newR H cs v rd = H.new cs (lenX cs) (v H.nx) rd := by
  cases H with
  | mk nx t fs => show (Bool.rec (motive := fun _ => XR) none (Tr.lookR (Tr.setR t nx ⟨0, lenR cs, Tr.setLR cs .e 0⟩) (fun t' => some (v nx, (⟨Nat.succ nx, t', fs⟩ : XH), rd, some nx))) (Nat.blt nx fs.n && Nat.ble fs.g nx) : XR) = _; unfold XH.new; rw [brec, Tr.lookR_eq, Tr.setR_eq, Tr.look_eq, Tr.setLR_eq, lenR_eq]
def xNewR (cs : List XV) (H : XH) : XR := newR H cs (fun nx => .ptr nx 0 0) []
theorem xNewR_eq (cs : List XV) (H : XH) : xNewR cs H = xNew cs H := newR_eq _ _ _ _
def ldNone (off o : Nat) (H : XH) (ob : XO) : XR := Bool.rec (motive := fun _ => XR) none (Option.rec (motive := fun _ => XR) none (fun v => some (v, H, [o], none)) (ob.t.getR off)) (Nat.blt off ob.n)
def ldSome (n off o : Nat) (H : XH) (ob : XO) : XR := Bool.rec (motive := fun _ => XR) none (Option.rec (motive := fun _ => XR) none (fun l => some (.agg l, H, [o], none)) (ob.t.rdR n off)) (Nat.ble (Nat.add off n) ob.n)
def ldR (sh : Option Nat) (off o : Nat) (H : XH) (ob : Option XO) : XR :=
  Option.rec (motive := fun _ => Option Nat → Nat → Nat → XH → XR) (fun _ _ _ _ => none) (fun ob sh off o H => Option.rec (motive := fun _ => Nat → Nat → XH → XO → XR) ldNone ldSome sh off o H ob) ob sh off o H

def xLoadR : XV → Option Nat → XH → XR := XV.rec (motive_1 := fun _ => Option Nat → XH → XR) (motive_2 := fun _ => Unit) (fun _ _ => fun _ _ => none) (fun _ _ => fun _ _ => none) (fun _ => fun _ _ => none) (fun _ => fun _ _ => none) (fun _ _ => none) (fun o ver off => fun sh H => ldR sh off o H (objR H o ver)) (fun cs off _ => fun sh H => pvR H (xPart sh cs off)) (fun _ _ => none) (fun _ _ _ _ => fun _ _ => none) (fun _ _ _ _ _ => fun _ _ => none) (fun _ _ _ _ => fun _ _ => none) (fun _ => fun _ _ => none) (fun _ _ => fun _ _ => none) (fun _ _ => fun _ _ => none) (fun _ _ => none) (fun _ _ _ _ _ => fun _ _ => none) (fun _ _ => none) (fun _ _ _ => fun _ _ => none) (fun _ => fun _ _ => none) (fun _ => fun _ _ => none) (fun _ => fun _ _ => none) (fun _ _ => none) () (fun _ _ _ _ => ())
theorem xLoadR_eq (x : XV) (sh : Option Nat) (H : XH) : xLoadR x sh H = xLoad sh x H := by
  cases x <;> try rfl
  · rename_i o ver off
    show ldR sh off o H (objR H o ver) = _
    rw [objR_eq]
    unfold xLoad
    simp only
    cases H.obj o ver with
    | none => rfl
    | some ob =>
      cases sh with
      | none =>
        show ldNone off o H ob = (bif Nat.blt off ob.n then (match ob.t.get off with | some v => some (v, H, [o], none) | none => none) else none)
        unfold ldNone
        rw [brec, Tr.getR_eq]
        cases ob.t.get off <;> rfl
      | some n =>
        show ldSome n off o H ob = (bif Nat.ble (off + n) ob.n then (match ob.t.rd n off with | some l => some (.agg l, H, [o], none) | none => none) else none)
        unfold ldSome
        rw [brec, Tr.rdR_eq]
        cases ob.t.rd n off <;> rfl
  · exact pvR_eq _ _
def stK (n off o ver : Nat) (cs : List XV) (H : XH) (ob : XO) : XR := XO.rec (motive := fun _ => XR) (fun _ m t => Bool.rec (motive := fun _ => XR) none (Tr.lookR (Tr.setLR cs t off) fun t => putR H o ⟨ver, m, t⟩ fun H' => some (.tup [], H', [], some o)) (andR (Nat.beq (lenR cs) n) (andR (Nat.ble (Nat.add off n) m) (allOneR cs)))) ob
def stOR (n off o ver : Nat) (cs : List XV) (H : XH) (ob : Option XO) : XR := Option.rec (motive := fun _ => XR) none (fun ob => stK n off o ver cs H ob) ob
def xStoreR : XV → Nat → XV → XH → XR := XV.rec (motive_1 := fun _ => Nat → XV → XH → XR) (motive_2 := fun _ => Unit) (fun _ _ => fun _ _ _ => none) (fun _ _ => fun _ _ _ => none) (fun _ => fun _ _ _ => none) (fun _ => fun _ _ _ => none) (fun _ _ _ => none) (fun o ver off => fun n x H => stOR n off o ver (cellsR x) H (objR H o ver)) (fun _ _ _ => fun _ _ _ => none) (fun _ _ _ => none) (fun _ _ _ _ => fun _ _ _ => none) (fun _ _ _ _ _ => fun _ _ _ => none) (fun _ _ _ _ => fun _ _ _ => none) (fun _ => fun _ _ _ => none) (fun _ _ => fun _ _ _ => none) (fun _ _ => fun _ _ _ => none) (fun _ _ _ => none) (fun _ _ _ _ _ => fun _ _ _ => none) (fun _ _ _ => none) (fun _ _ _ => fun _ _ _ => none) (fun _ => fun _ _ _ => none) (fun _ => fun _ _ _ => none) (fun _ => fun _ _ _ => none) (fun _ _ _ => none) () (fun _ _ _ _ => ())
theorem xStoreR_eq (a : XV) (n : Nat) (x : XV) (H : XH) : xStoreR a n x H = xStore n a x H := by
  cases a <;> try rfl
  rename_i o ver off
  show stOR n off o ver (cellsR x) H (objR H o ver) = _
  rw [objR_eq, cellsR_eq]
  unfold xStore
  simp only
  cases H.obj o ver with
  | none => rfl
  | some ob =>
    show stK n off o ver x.cells H ob = (bif Nat.beq (lenX x.cells) n && (Nat.ble (off + n) ob.n && allOne x.cells) then (Tr.setL x.cells ob.t off).look fun t => some (.tup [], H.put o ⟨ver, ob.n, t⟩, [], some o) else none)
    cases ob with
    | mk v m t =>
      show (Bool.rec (motive := fun _ => XR) none (Tr.lookR (Tr.setLR x.cells t off) fun t => putR H o ⟨ver, m, t⟩ fun H' => some (.tup [], H', [], some o)) (andR (Nat.beq (lenR x.cells) n) (andR (Nat.ble (Nat.add off n) m) (allOneR x.cells))) : XR) = _
      rw [brec, Tr.lookR_eq, Tr.setLR_eq, putR_eq, andR_eq, andR_eq, lenR_eq, allOneR_eq, Tr.look_eq]
      rfl
def xNchkR : XV → Option XV := XV.rec (motive_1 := fun _ => Option XV) (motive_2 := fun _ => Unit) (fun _ _ => none) (fun _ _ => none) (fun _ => none) (fun _ => none) (none) (fun o ver off => some (.ptr o ver off)) (fun cs off _ => some (.cptr cs off)) (none) (fun _ _ _ _ => none) (fun _ _ _ _ _ => none) (fun _ _ _ _ => none) (fun _ => none) (fun _ _ => none) (fun _ _ => none) (none) (fun f first caps _ _ => xNchk (.fn f first caps)) (none) (fun t v _ => some (.iface t v)) (fun _ => none) (fun _ => none) (fun _ => none) (none) () (fun _ _ _ _ => ())
theorem xNchkR_eq (x : XV) : xNchkR x = xNchk x := by cases x <;> rfl
def xFadR : XV → Nat → Option XV := XV.rec (motive_1 := fun _ => Nat → Option XV) (motive_2 := fun _ => Unit) (fun _ _ => fun _ => none) (fun _ _ => fun _ => none) (fun _ => fun _ => none) (fun _ => fun _ => none) (fun _ => none) (fun o ver off => fun fo => some (.ptr o ver (Nat.add off fo))) (fun cs off _ => fun fo => some (.cptr cs (Nat.add off fo))) (fun _ => none) (fun _ _ _ _ => fun _ => none) (fun _ _ _ _ _ => fun _ => none) (fun _ _ _ _ => fun _ => none) (fun _ => fun _ => none) (fun _ _ => fun _ => none) (fun _ _ => fun _ => none) (fun _ => none) (fun _ _ _ _ _ => fun _ => none) (fun _ => none) (fun _ _ _ => fun _ => none) (fun _ => fun _ => none) (fun _ => fun _ => none) (fun _ => fun _ => none) (fun _ => none) () (fun _ _ _ _ => ())
theorem xFadR_eq (x : XV) (fo : Nat) : xFadR x fo = xFad fo x := by cases x <;> rfl
def kindN : IntKind → Nat := IntKind.rec (motive := fun _ => Nat) 0 1 2 3 4 5 6 7
def keqR (a b : IntKind) : Bool := Nat.beq (kindN a) (kindN b)
theorem keqR_eq (a b : IntKind) : keqR a b = keq a b := by cases a <;> cases b <;> rfl
def limUR : IntKind → Nat := IntKind.rec (motive := fun _ => Nat) 128 32768 2147483648 9223372036854775808 256 65536 4294967296 18446744073709551616
def limSR : IntKind → Nat := IntKind.rec (motive := fun _ => Nat) 128 32768 2147483648 9223372036854775808 0 0 0 0
theorem limUR_eq (k : IntKind) : limUR k = limU k := by cases k <;> rfl
theorem limSR_eq (k : IntKind) : limSR k = limS k := by cases k <;> rfl
def wrapR (k : IntKind) (n : Int) : Int := Int.rec (motive := fun _ => IntKind → Int)
  (fun m k => Bool.rec (motive := fun _ => Int) (k.wrap (.ofNat m)) (.ofNat m) (Nat.blt m (limUR k)))
  (fun m k => Bool.rec (motive := fun _ => Int) (k.wrap (.negSucc m)) (.negSucc m) (Nat.blt m (limSR k))) n k
theorem wrapR_eq (k : IntKind) (n : Int) : wrapR k n = wrapX k n := by
  cases n with
  | ofNat m =>
    show (Bool.rec (motive := fun _ => Int) (k.wrap (.ofNat m)) (.ofNat m) (Nat.blt m (limUR k)) : Int) = _
    rw [brec, limUR_eq]; rfl
  | negSucc m =>
    show (Bool.rec (motive := fun _ => Int) (k.wrap (.negSucc m)) (.negSucc m) (Nat.blt m (limSR k)) : Int) = _
    rw [brec, limSR_eq]; rfl
def ieqR (x y : Int) : Bool := Int.rec (motive := fun _ => Int → Bool) (fun a y => Int.rec (motive := fun _ => Nat → Bool) (fun b a => Nat.beq a b) (fun _ _ => false) y a) (fun a y => Int.rec (motive := fun _ => Nat → Bool) (fun _ _ => false) (fun b a => Nat.beq a b) y a) x y
theorem ieqR_eq (x y : Int) : ieqR x y = ieq x y := by cases x <;> cases y <;> rfl
def ileR (x y : Int) : Bool := Int.rec (motive := fun _ => Int → Bool) (fun a y => Int.rec (motive := fun _ => Nat → Bool) (fun b a => Nat.ble a b) (fun _ _ => false) y a) (fun a y => Int.rec (motive := fun _ => Nat → Bool) (fun _ _ => true) (fun b a => Nat.ble b a) y a) x y
theorem ileR_eq (x y : Int) : ileR x y = ile x y := by cases x <;> cases y <;> rfl
def notR : Bool → Bool := Bool.rec (motive := fun _ => Bool) true false
theorem notR_eq (b : Bool) : notR b = !b := by cases b <;> rfl
def iaddR (x y : Int) : Int := Int.rec (motive := fun _ => Int → Int) (fun a y => Int.rec (motive := fun _ => Nat → Int) (fun b a => .ofNat (Nat.add a b)) (fun b a => Int.add (.ofNat a) (.negSucc b)) y a) (fun a y => Int.add (.negSucc a) y) x y
theorem iaddR_eq (x y : Int) : iaddR x y = x + y := by cases x <;> cases y <;> rfl
def isubR (x y : Int) : Int := Int.rec (motive := fun _ => Int → Int) (fun a y => Int.rec (motive := fun _ => Nat → Int) (fun b a => Bool.rec (motive := fun _ => Int) (Int.sub (.ofNat a) (.ofNat b)) (.ofNat (Nat.sub a b)) (Nat.ble b a)) (fun b a => Int.sub (.ofNat a) (.negSucc b)) y a) (fun a y => Int.sub (.negSucc a) y) x y
theorem isubR_eq (x y : Int) : isubR x y = x - y := by
  cases x with
  | negSucc a => cases y <;> rfl
  | ofNat a =>
    cases y with
    | negSucc b => rfl
    | ofNat b =>
      show (Bool.rec (motive := fun _ => Int) (Int.sub (.ofNat a) (.ofNat b)) (.ofNat (Nat.sub a b)) (Nat.ble b a) : Int) = _
      cases h : Nat.ble b a
      · rfl
      · have := Nat.le_of_ble_eq_true h
        show (Int.ofNat (a - b)) = _
        simp only [Int.ofNat_eq_natCast]; omega
def imulR (x y : Int) : Int := Int.rec (motive := fun _ => Int → Int) (fun a y => Int.rec (motive := fun _ => Nat → Int) (fun b a => .ofNat (Nat.mul a b)) (fun b a => Int.mul (.ofNat a) (.negSucc b)) y a) (fun a y => Int.mul (.negSucc a) y) x y
theorem imulR_eq (x y : Int) : imulR x y = x * y := by cases x <;> cases y <;> rfl
def intBR : BinOp → IntKind → Int → IntKind → Int → Option XV := BinOp.rec (motive := fun _ => IntKind → Int → IntKind → Int → Option XV) (fun k a k2 b => Bool.rec (motive := fun _ => Option XV) none (some (.int k (wrapR k (iaddR a b)))) (keqR k k2)) (fun k a k2 b => Bool.rec (motive := fun _ => Option XV) none (some (.int k (wrapR k (isubR a b)))) (keqR k k2)) (fun k a k2 b => Bool.rec (motive := fun _ => Option XV) none (some (.int k (wrapR k (imulR a b)))) (keqR k k2)) (fun k a k2 b => Bool.rec (motive := fun _ => Option XV) none (intX .quo k a b) (keqR k k2)) (fun k a k2 b => Bool.rec (motive := fun _ => Option XV) none (intX .rem k a b) (keqR k k2)) (fun k a k2 b => Bool.rec (motive := fun _ => Option XV) none (intX .and k a b) (keqR k k2)) (fun k a k2 b => Bool.rec (motive := fun _ => Option XV) none (intX .or k a b) (keqR k k2)) (fun k a k2 b => Bool.rec (motive := fun _ => Option XV) none (intX .xor k a b) (keqR k k2)) (fun k a _ b => shX .shl k a b) (fun k a _ b => shX .shr k a b) (fun k a k2 b => Bool.rec (motive := fun _ => Option XV) none (intX .andNot k a b) (keqR k k2)) (fun k a k2 b => Bool.rec (motive := fun _ => Option XV) none (some (.bool (ieqR a b))) (keqR k k2)) (fun k a k2 b => Bool.rec (motive := fun _ => Option XV) none (some (.bool (notR (ieqR a b)))) (keqR k k2)) (fun k a k2 b => Bool.rec (motive := fun _ => Option XV) none (some (.bool (notR (ileR b a)))) (keqR k k2)) (fun k a k2 b => Bool.rec (motive := fun _ => Option XV) none (some (.bool (ileR a b))) (keqR k k2)) (fun k a k2 b => Bool.rec (motive := fun _ => Option XV) none (some (.bool (notR (ileR a b)))) (keqR k k2)) (fun k a k2 b => Bool.rec (motive := fun _ => Option XV) none (some (.bool (ileR b a))) (keqR k k2))
theorem intBR_eq (fs : List (SE × SE)) (c : EqC) (op : BinOp) (k k2 : IntKind) (a b : Int) : intBR op k a k2 b = xBin fs c op (.int k a) (.int k2 b) := by
  cases op <;> first
    | rfl
    | (simp only [intBR, keqR_eq, wrapR_eq, iaddR_eq, isubR_eq, imulR_eq, ieqR_eq, ileR_eq, notR_eq, xBin]
       cases keq k k2 <;> rfl)
def binIR : XV → List (SE × SE) → EqC → BinOp → IntKind → Int → Option XV := XV.rec (motive_1 := fun _ => List (SE × SE) → EqC → BinOp → IntKind → Int → Option XV) (motive_2 := fun _ => Unit) (fun k n => fun fs c op k1 a => intBR op k1 a k n) (fun k e => fun fs c op k1 a => xBin fs c op (.int k1 a) (.sym k e)) (fun b => fun fs c op k1 a => xBin fs c op (.int k1 a) (.bool b)) (fun s => fun fs c op k1 a => xBin fs c op (.int k1 a) (.str s)) (fun fs c op k1 a => xBin fs c op (.int k1 a) (.nilp)) (fun o ver off => fun fs c op k1 a => xBin fs c op (.int k1 a) (.ptr o ver off)) (fun cs off _ => fun fs c op k1 a => xBin fs c op (.int k1 a) (.cptr cs off)) (fun fs c op k1 a => xBin fs c op (.int k1 a) (.nils)) (fun ex sz xs _ => fun fs c op k1 a => xBin fs c op (.int k1 a) (.sl ex sz xs)) (fun o ver off n esh => fun fs c op k1 a => xBin fs c op (.int k1 a) (.ref o ver off n esh)) (fun ex sz xs _ => fun fs c op k1 a => xBin fs c op (.int k1 a) (.slt ex sz xs)) (fun n => fun fs c op k1 a => xBin fs c op (.int k1 a) (.lenT n)) (fun cs _ => fun fs c op k1 a => xBin fs c op (.int k1 a) (.agg cs)) (fun vs _ => fun fs c op k1 a => xBin fs c op (.int k1 a) (.tup vs)) (fun fs c op k1 a => xBin fs c op (.int k1 a) (.nilf)) (fun f first caps _ _ => fun fs c op k1 a => xBin fs c op (.int k1 a) (.fn f first caps)) (fun fs c op k1 a => xBin fs c op (.int k1 a) (.nili)) (fun t v _ => fun fs c op k1 a => xBin fs c op (.int k1 a) (.iface t v)) (fun o => fun fs c op k1 a => xBin fs c op (.int k1 a) (.mp o)) (fun o => fun fs c op k1 a => xBin fs c op (.int k1 a) (.itr o)) (fun x => fun fs c op k1 a => xBin fs c op (.int k1 a) (.lit x)) (fun fs c op k1 a => xBin fs c op (.int k1 a) (.junk)) () (fun _ _ _ _ => ())
theorem binIR_eq (y : XV) (fs : List (SE × SE)) (c : EqC) (op : BinOp) (k : IntKind) (a : Int) : binIR y fs c op k a = xBin fs c op (.int k a) y := by
  cases y <;> first | rfl | exact intBR_eq _ _ _ _ _ _ _
def xBinR : XV → List (SE × SE) → EqC → BinOp → XV → Option XV := XV.rec (motive_1 := fun _ => List (SE × SE) → EqC → BinOp → XV → Option XV) (motive_2 := fun _ => Unit) (fun k n => fun fs c op y => binIR y fs c op k n) (fun k e => fun fs c op y => xBin fs c op (.sym k e) y) (fun b => fun fs c op y => xBin fs c op (.bool b) y) (fun s => fun fs c op y => xBin fs c op (.str s) y) (fun fs c op y => xBin fs c op (.nilp) y) (fun o ver off => fun fs c op y => xBin fs c op (.ptr o ver off) y) (fun cs off _ => fun fs c op y => xBin fs c op (.cptr cs off) y) (fun fs c op y => xBin fs c op (.nils) y) (fun ex sz xs _ => fun fs c op y => xBin fs c op (.sl ex sz xs) y) (fun o ver off n esh => fun fs c op y => xBin fs c op (.ref o ver off n esh) y) (fun ex sz xs _ => fun fs c op y => xBin fs c op (.slt ex sz xs) y) (fun n => fun fs c op y => xBin fs c op (.lenT n) y) (fun cs _ => fun fs c op y => xBin fs c op (.agg cs) y) (fun vs _ => fun fs c op y => xBin fs c op (.tup vs) y) (fun fs c op y => xBin fs c op (.nilf) y) (fun f first caps _ _ => fun fs c op y => xBin fs c op (.fn f first caps) y) (fun fs c op y => xBin fs c op (.nili) y) (fun t v _ => fun fs c op y => xBin fs c op (.iface t v) y) (fun o => fun fs c op y => xBin fs c op (.mp o) y) (fun o => fun fs c op y => xBin fs c op (.itr o) y) (fun x => fun fs c op y => xBin fs c op (.lit x) y) (fun fs c op y => xBin fs c op (.junk) y) () (fun _ _ _ _ => ())
theorem xBinR_eq (x : XV) (fs : List (SE × SE)) (c : EqC) (op : BinOp) (y : XV) : xBinR x fs c op y = xBin fs c op x y := by
  cases x <;> first | rfl | exact binIR_eq _ _ _ _ _ _
def refIadR (o ver off m : Nat) (e esh : Option Nat) (n : Nat) : Option XV := Bool.rec (motive := fun _ => Option XV) none (some (.ptr o ver (Nat.add off (Nat.mul n (szX esh))))) (andR (oeq e esh) (Nat.blt n m))
def arrIadR (o ver off len : Nat) (esh : Option Nat) (n : Nat) : Option XV := Bool.rec (motive := fun _ => Option XV) none (some (.ptr o ver (Nat.add off (Nat.mul n (szX esh))))) (Nat.blt n len)
def iadK : XV → Option Nat → Option Nat → Nat → Option XV := XV.rec (motive_1 := fun _ => Option Nat → Option Nat → Nat → Option XV) (motive_2 := fun _ => Unit) (fun _ _ => fun _ _ _ => none) (fun _ _ => fun _ _ _ => none) (fun _ => fun _ _ _ => none) (fun _ => fun _ _ _ => none) (fun _ _ _ => none) (fun o ver off => fun arr es i => Option.rec (motive := fun _ => Nat → Nat → Nat → Option Nat → Nat → Option XV) (fun _ _ _ _ _ => none) (fun len o ver off es i => arrIadR o ver off len es i) arr o ver off es i) (fun cs off _ => fun arr es i => xIad arr es (.cptr cs off) (.int .i64 (.ofNat i))) (fun _ _ _ => none) (fun ex sz xs _ => fun arr es i => xIad arr es (.sl ex sz xs) (.int .i64 (.ofNat i))) (fun o ver off n esh => fun arr es i => Option.rec (motive := fun _ => Nat → Nat → Nat → Nat → Option Nat → Option Nat → Nat → Option XV) refIadR (fun _ _ _ _ _ _ _ _ => none) arr o ver off n esh es i) (fun _ _ _ _ => fun _ _ _ => none) (fun _ => fun _ _ _ => none) (fun _ _ => fun _ _ _ => none) (fun _ _ => fun _ _ _ => none) (fun _ _ _ => none) (fun _ _ _ _ _ => fun _ _ _ => none) (fun _ _ _ => none) (fun _ _ _ => fun _ _ _ => none) (fun _ => fun _ _ _ => none) (fun _ => fun _ _ _ => none) (fun _ => fun _ _ _ => none) (fun _ _ _ => none) () (fun _ _ _ _ => ())
theorem iadK_eq (x : XV) (k : IntKind) (arr esh : Option Nat) (i : Nat) : iadK x arr esh i = xIad arr esh x (.int k (.ofNat i)) := by
  cases x <;> cases arr <;> try rfl
  · rename_i o ver off len
    show arrIadR o ver off len esh i = (bif Nat.blt i len then some (.ptr o ver (off + i * szX esh)) else none)
    unfold arrIadR
    rw [brec]; rfl
  · rename_i o ver off n e
    show refIadR o ver off n e esh i = (bif oeq e esh && Nat.blt i n then some (.ptr o ver (off + i * szX esh)) else none)
    unfold refIadR
    rw [brec, andR_eq]; rfl
def xIadR : XV → Option Nat → Option Nat → XV → Option XV := XV.rec (motive_1 := fun _ => Option Nat → Option Nat → XV → Option XV) (motive_2 := fun _ => Unit) (fun k n => fun arr esh x => Int.rec (motive := fun _ => Option Nat → Option Nat → XV → Option XV) (fun i arr esh x => iadK x arr esh i) (fun _ _ _ _ => none) n arr esh x) (fun _ _ => fun _ _ _ => none) (fun _ => fun _ _ _ => none) (fun _ => fun _ _ _ => none) (fun _ _ _ => none) (fun _ _ _ => fun _ _ _ => none) (fun _ _ _ => fun _ _ _ => none) (fun _ _ _ => none) (fun _ _ _ _ => fun _ _ _ => none) (fun _ _ _ _ _ => fun _ _ _ => none) (fun _ _ _ _ => fun _ _ _ => none) (fun _ => fun _ _ _ => none) (fun _ _ => fun _ _ _ => none) (fun _ _ => fun _ _ _ => none) (fun _ _ _ => none) (fun _ _ _ _ _ => fun _ _ _ => none) (fun _ _ _ => none) (fun _ _ _ => fun _ _ _ => none) (fun _ => fun _ _ _ => none) (fun _ => fun _ _ _ => none) (fun _ => fun _ _ _ => none) (fun _ _ _ => none) () (fun _ _ _ _ => ())
theorem xIadR_eq (i : XV) (arr esh : Option Nat) (x : XV) : xIadR i arr esh x = xIad arr esh x i := by
  cases i <;> try (unfold xIad; rfl)
  rename_i k n
  cases n with
  | ofNat n => exact iadK_eq x k arr esh n
  | negSucc n => unfold xIad; rfl
def lenSlR : XV → Option XV := XV.rec (motive_1 := fun _ => Option XV) (motive_2 := fun _ => Unit) (fun _ _ => none) (fun _ _ => none) (fun _ => none) (fun _ => none) (none) (fun _ _ _ => none) (fun _ _ _ => none) (some (.int .i64 (.ofNat 0))) (fun ex sz xs _ => some (.int .i64 (.ofNat (lenX xs)))) (fun o ver off n esh => some (.int .i64 (.ofNat n))) (fun ex sz xs _ => some (.lenT (lenX xs))) (fun _ => none) (fun _ _ => none) (fun _ _ => none) (none) (fun _ _ _ _ _ => none) (none) (fun _ _ _ => none) (fun _ => none) (fun _ => none) (fun _ => none) (none) () (fun _ _ _ _ => ())
theorem lenSlR_eq (x : XV) : lenSlR x = xLen .sl x := by cases x <;> rfl
def xLenR (c : LenC) (x : XV) : Option XV := LenC.rec (motive := fun _ => XV → Option XV) (fun x => xLen .str x) lenSlR (fun n x => xLen (.arr n) x) (fun x => xLen .map x) c x
theorem xLenR_eq (c : LenC) (x : XV) : xLenR c x = xLen c x := by
  cases c <;> first | rfl | exact lenSlR_eq x
def putXR : List XV → Nat → List XV → List XV := putX
def fillK (x : XV) (off size : Nat) (cs : List XV) (k : List XV → Option (List XV)) : Option (List XV) := Bool.rec (motive := fun _ => Option (List XV)) none (k (putX cs off (cellsR x))) (andR (njR x) (andR (Nat.beq (lenR (cellsR x)) size) (Nat.ble (Nat.add off size) (lenR cs))))
def fillR : List (Nat × Nat × XV) → List XV → Option (List XV) := List.rec (motive := fun _ => List XV → Option (List XV)) (fun cs => some cs) (fun p _ ih cs => fillK p.2.2 p.1 p.2.1 cs ih)
theorem fillR_eq : ∀ (ps : List (Nat × Nat × XV)) (cs : List XV), fillR ps cs = fillX cs ps
  | [], cs => rfl
  | (off, size, x) :: ps, cs => by
    show fillK x off size cs (fillR ps) = (bif x.nj && (Nat.beq (lenX x.cells) size && Nat.ble (off + size) (lenX cs)) then fillX (putX cs off x.cells) ps else none)
    unfold fillK
    rw [brec, andR_eq, andR_eq, njR_eq, lenR_eq, lenR_eq, cellsR_eq, fillR_eq ps]
    rfl
def aggO : Option (List XV) → Option XV := Option.rec (motive := fun _ => Option XV) none (fun l => some (.agg l))
def newSlR (esh : Option Nat) (n : Nat) (cs : List XV) (rd : List Nat) (H : XH) : XR := Bool.rec (motive := fun _ => XR) none (newR H cs (fun nx => .ref nx 0 0 n esh) rd) (andR (Nat.ble (Nat.mul n (szX esh)) (lenR cs)) (allOneR cs))
theorem newSlR_eq (esh : Option Nat) (n : Nat) (cs : List XV) (rd : List Nat) (H : XH) : newSlR esh n cs rd H = xNewSl esh n cs rd H := by
  unfold newSlR xNewSl
  rw [brec, andR_eq, lenR_eq, allOneR_eq, newR_eq]
  rfl
def bslO (esh : Option Nat) (len : Nat) (H : XH) : Option (List XV) → XR := Option.rec (motive := fun _ => XR) none (fun cs => newSlR esh len cs [] H)

/-! operations -/
def opYR (r : ROp) (F : XF) (H : XH) : XR := ROp.rec (motive := fun _ => XF → XH → XR)
  (fun x F H => some (evR F x, H, [], none))
  (fun c a b F H => opX (.pick c a b) F H)
  (fun cs F H => xNewR (XV.ofAVs cs) H)
  (fun x F H => Bool.rec (motive := fun _ => XR) none (xNewR (cellsR (evR F x)) H) (njR (evR F x)))
  (fun z ps F H => pvR H (aggO (fillR (evPR F ps) (XV.ofAVs z))))
  (fun esh z len ps F H => bslO esh len H (fillR (evPR F ps) (replX len (XV.ofAVs z))))
  (fun sh a F H => xLoadR (evR F a) sh H)
  (fun n a x F H => xStoreR (evR F a) n (evR F x) H)
  (fun x F H => pvR H (xNchkR (evR F x)))
  (fun c op x y F H => pvR H (xBinR (evR F x) H.fs.f c op (evR F y)))
  (fun ks op x y F H => opX (.eqs ks op x y) F H)
  (fun op x F H => opX (.un op x) F H)
  (fun k x F H => opX (.cint k x) F H)
  (fun x F H => opX (.cstr x) F H)
  (fun x F H => opX (.b2s x) F H)
  (fun x F H => opX (.s2b x) F H)
  (fun t x F H => some (.iface t (evR F x), H, [], none))
  (fun f a b F H => opX (.mkf f a b) F H)
  (fun esh bytes z l c F H => opX (.mksl esh bytes z l c) F H)
  (fun esh x lo hi mx F H => opX (.slc esh x lo hi mx) F H)
  (fun x lo hi F H => opX (.sls x lo hi) F H)
  (fun off x F H => pvR H (xFadR (evR F x) off))
  (fun arr esh x i F H => pvR H (xIadR (evR F i) arr esh (evR F x)))
  (fun x i F H => opX (.idxs x i) F H)
  (fun len sh x i F H => opX (.idxa len sh x i) F H)
  (fun i x F H => opX (.ext i x) F H)
  (fun off sh x F H => opX (.fld off sh x) F H)
  (fun c x F H => pvR H (xLenR c (evR F x)))
  (fun esh bytes s x F H => opX (.app esh bytes s x) F H)
  (fun esh s x F H => opX (.cpy esh s x) F H)
  (fun mx x y F H => opX (.mn mx x y) F H)
  (fun t x F H => opX (.tas t x) F H)
  (fun n esh x lo hi F H => opX (.slp n esh x lo hi) F H)
  (fun esh z x F H => opX (.clr esh z x) F H)
  (fun  F H => opX (.mkm) F H)
  (fun k z ok x i F H => opX (.lkp k z ok x i) F H)
  (fun k x i y F H => opX (.mpu k x i y) F H)
  (fun x F H => opX (.rgm x) F H)
  (fun x F H => opX (.ent x) F H)
  r F H
theorem opYR_eq (r : ROp) (F : XF) (H : XH) : opYR r F H = opX r F H := by
  cases r <;> try rfl
  case mv x => show some (evR F x, H, [], none) = _; rw [evR_eq]; rfl
  case new cs => exact xNewR_eq _ _
  case box x =>
    show Bool.rec (motive := fun _ => XR) none (xNewR (cellsR (evR F x)) H) (njR (evR F x)) = _
    rw [evR_eq, njR_eq, cellsR_eq, xNewR_eq]
    show _ = (bif (evx F x).nj then xNew (evx F x).cells H else none)
    cases (evx F x).nj <;> rfl
  case build z ps =>
    show pvR H (aggO (fillR (evPR F ps) (XV.ofAVs z))) = _
    rw [pvR_eq, fillR_eq, evPR_eq]
    show pvx H (aggO (fillX (XV.ofAVs z) (evxP F ps))) = pvx H (xFill (XV.ofAVs z) (evxP F ps))
    unfold xFill
    cases fillX (XV.ofAVs z) (evxP F ps) <;> rfl
  case bsl esh z len ps =>
    show bslO esh len H (fillR (evPR F ps) (replX len (XV.ofAVs z))) = _
    rw [fillR_eq, evPR_eq]
    simp only [opX]
    cases fillX (replX len (XV.ofAVs z)) (evxP F ps) with
    | none => rfl
    | some cs => exact newSlR_eq _ _ _ _ _
  case load sh a => show xLoadR (evR F a) sh H = _; rw [evR_eq, xLoadR_eq]; rfl
  case store n a x => show xStoreR (evR F a) n (evR F x) H = _; rw [evR_eq, evR_eq, xStoreR_eq]; rfl
  case nchk x => show pvR H (xNchkR (evR F x)) = _; rw [evR_eq, xNchkR_eq, pvR_eq]; rfl
  case bin c op x y => show pvR H (xBinR (evR F x) H.fs.f c op (evR F y)) = _; rw [evR_eq, evR_eq, xBinR_eq, pvR_eq]; rfl
  case mki t x => show some (XV.iface t (evR F x), H, [], none) = _; rw [evR_eq]; rfl
  case fad off x => show pvR H (xFadR (evR F x) off) = _; rw [evR_eq, xFadR_eq, pvR_eq]; rfl
  case iad arr esh x i => show pvR H (xIadR (evR F i) arr esh (evR F x)) = _; rw [evR_eq, evR_eq, xIadR_eq, pvR_eq]; rfl
  case len c x => show pvR H (xLenR c (evR F x)) = _; rw [evR_eq, xLenR_eq, pvR_eq]; rfl

def grdR : XV → Bool → Option (XF × XH × List XL) → Option (XF × XH × List XL) → Option (XF × XH × List XL) := XV.rec (motive_1 := fun _ => Bool → Option (XF × XH × List XL) → Option (XF × XH × List XL) → Option (XF × XH × List XL)) (motive_2 := fun _ => Unit) (fun _ _ => fun _ _ _ => none) (fun _ _ => fun _ _ _ => none) (fun b => fun want yes no => Bool.rec (motive := fun _ => Option (XF × XH × List XL)) no yes (beqB b want)) (fun _ => fun _ _ _ => none) (fun _ _ _ => none) (fun _ _ _ => fun _ _ _ => none) (fun _ _ _ => fun _ _ _ => none) (fun _ _ _ => none) (fun _ _ _ _ => fun _ _ _ => none) (fun _ _ _ _ _ => fun _ _ _ => none) (fun _ _ _ _ => fun _ _ _ => none) (fun _ => fun _ _ _ => none) (fun _ _ => fun _ _ _ => none) (fun vs _ => fun _ _ no => List.rec (motive := fun _ => Option (XF × XH × List XL)) no (fun _ _ _ => none) vs) (fun _ _ _ => none) (fun _ _ _ _ _ => fun _ _ _ => none) (fun _ _ _ => none) (fun _ _ _ => fun _ _ _ => none) (fun _ => fun _ _ _ => none) (fun _ => fun _ _ _ => none) (fun _ => fun _ _ _ => none) (fun _ _ _ => none) () (fun _ _ _ _ => ())
/-! code -/
abbrev XS := Option (XV × XH × XL)
def eff3 (H : XH) : Option (XV × XH) → XS := Option.rec (motive := fun _ => XS) none (fun q => Prod.rec (motive := fun _ => XS) (fun v H' => some (v, H', .eff H H')) q)
def rd3 (H : XH) (els : XS) : Option (XV × List Nat) → XS := Option.rec (motive := fun _ => XS) els (fun q => Prod.rec (motive := fun _ => XS) (fun v M => some (v, H, .acc M none)) q)
def callR (call : XCall) (rd : XRd) (dr : Bool) (f : FuncId) (args : List XV) (H : XH) : XS := callX call rd dr f args H
theorem callR_eq (call : XCall) (rd : XRd) (dr : Bool) (f : FuncId) (args : List XV) (H : XH) : callR call rd dr f args H = callX call rd dr f args H := rfl
def accR (rd : List Nat) (wr : Option Nat) : XL := Option.rec (motive := fun _ => List Nat → XL) (fun rd => .acc rd none) (fun o rd => .acc (o :: rd) (some o)) wr rd
def un4 {α : Type} (k : XV → XH → List Nat → Option Nat → α) (q : XV × XH × List Nat × Option Nat) : α := Prod.rec (motive := fun _ => α) (fun v r => Prod.rec (motive := fun _ => α) (fun H r => Prod.rec (motive := fun _ => α) (fun rd wr => k v H rd wr) r) r) q
def un3 {β γ α : Type} (k : XV → β → γ → α) (q : XV × β × γ) : α := Prod.rec (motive := fun _ => α) (fun v r => Prod.rec (motive := fun _ => α) (fun H le => k v H le) r) q
def unE {α : Type} (k : XE → XF → XH → α) (q : XE × XF × XH) : α := Prod.rec (motive := fun _ => α) (fun v r => Prod.rec (motive := fun _ => α) (fun F H => k v F H) r) q
def op3 : XR → XS := Option.rec (motive := fun _ => XS) none (un4 fun v H rd wr => some (v, H, accR rd wr))
def reR (r : ROp) (F : XF) (H : XH) : XS → XS := Option.rec (motive := fun _ => XS) none (un3 fun v H' le => some (v, H', relog r F H.fs.d v le))
def stepR (P : Program) (call : XCall) (rd : XRd) (dr : Bool) (c : RC) (F : XF) (H : XH) : XS :=
  RC.rec (motive := fun _ => Program → XCall → XRd → Bool → XF → XH → XS)
    (fun r P call rd dr F H => reR r F H (op3 (opYR r F H)))
    (fun f args P call rd dr F H => callR call rd dr f (evLR F args) H)
    (fun x args P call rd dr F H => stepX P call rd dr (.callv x args) F H)
    (fun x m args P call rd dr F H => stepX P call rd dr (.inv x m args) F H) c P call rd dr F H
theorem stepR_eq (P : Program) (call : XCall) (rd : XRd) (dr : Bool) (c : RC) (F : XF) (H : XH) : stepR P call rd dr c F H = stepX P call rd dr c F H := by
  cases c with
  | op r =>
    show reR r F H (op3 (opYR r F H)) = _
    rw [opYR_eq]
    simp only [stepX]
    cases opX r F H with
    | none => rfl
    | some q =>
      obtain ⟨v, H', rd', wr⟩ := q
      cases wr <;> rfl
  | call f args => show callR call rd dr f (evLR F args) H = _; rw [evLR_eq, callR_eq]; rfl
  | callv x args => rfl
  | inv x m args => rfl
abbrev XO3 := Option (XF × XH × List XL)
def lkF (F : XF) (k : XF → XO3) : XO3 := XF.rec (motive := fun _ => (XF → XO3) → XO3) (fun lo hi k => k ⟨lo, hi⟩) F k
theorem lkF_eq (F : XF) (k : XF → XO3) : lkF F k = k F := by cases F; rfl
def lookV : XV → (XV → XO3) → XO3 := XV.rec (motive_1 := fun _ => (XV → XO3) → XO3) (motive_2 := fun _ => Unit) (fun k n => fun kk => kk (.int k n)) (fun k e => fun kk => kk (.sym k e)) (fun b => fun kk => kk (.bool b)) (fun s => fun kk => kk (.str s)) (fun kk => kk (.nilp)) (fun o ver off => fun kk => kk (.ptr o ver off)) (fun cs off _ => fun kk => kk (.cptr cs off)) (fun kk => kk (.nils)) (fun ex sz xs _ => fun kk => kk (.sl ex sz xs)) (fun o ver off n esh => fun kk => kk (.ref o ver off n esh)) (fun ex sz xs _ => fun kk => kk (.slt ex sz xs)) (fun n => fun kk => kk (.lenT n)) (fun cs _ => fun kk => kk (.agg cs)) (fun vs _ => fun kk => kk (.tup vs)) (fun kk => kk (.nilf)) (fun f first caps _ _ => fun kk => kk (.fn f first caps)) (fun kk => kk (.nili)) (fun t v _ => fun kk => kk (.iface t v)) (fun o => fun kk => kk (.mp o)) (fun o => fun kk => kk (.itr o)) (fun x => fun kk => kk (.lit x)) (fun kk => kk (.junk)) () (fun _ _ _ _ => ())
theorem lookV_eq (v : XV) (k : XV → XO3) : lookV v k = k v := by cases v <;> rfl
def putFR (F : XF) (d : Option Nat) (v : XV) (k : XF → XO3) : XO3 := Option.rec (motive := fun _ => XF → XV → (XF → XO3) → XO3) (fun F _ k => k F) (fun d F v k => lookV v fun v => lkF (setR d v F) k) d F v k
theorem putFR_eq (F : XF) (d : Option Nat) (v : XV) (k : XF → XO3) : putFR F d v k = k (putXF F d v) := by
  cases d with
  | none => rfl
  | some d => show lookV v (fun v => lkF (setR d v F) k) = _; rw [lookV_eq, lkF_eq, setR_eq]; rfl
def goR (d : Option Nat) (F : XF) (log : List XL) (ih : XF → XH → List XL → XO3) : XS → XO3 := Option.rec (motive := fun _ => XO3) none (un3 fun v H le => putFR F d v fun F => ih F H (le :: log))
def opsR (P : Program) (call : XCall) (rd : XRd) (dr : Bool) : List ROper → XF → XH → List XL → XO3 :=
  List.rec (motive := fun _ => XF → XH → List XL → XO3) (fun F H log => some (F, H, log))
    (fun o _ ih F H log => Option.rec (motive := fun _ => XO3) (goR o.dst F log ih (stepR P call rd dr o.c F H))
      (fun g => grdR (atR F g.1) g.2 (goR o.dst F log ih (stepR P call rd dr o.c F H)) (putFR F o.dst (.tup []) fun F => ih F H (.acc [] none :: log))) o.guard)

theorem opsR_eq (P : Program) (call : XCall) (rd : XRd) (dr : Bool) : ∀ (rs : List ROper) (F : XF) (H : XH) (log : List XL), opsR P call rd dr rs F H log = opsX P call rd dr rs F H log
  | [], F, H, log => rfl
  | o :: rs, F, H, log => by
    have hgo : goR o.dst F log (opsR P call rd dr rs) (stepR P call rd dr o.c F H) = (match stepX P call rd dr o.c F H with | none => none | some (v, H', le) => opsX P call rd dr rs (putXF F o.dst v) H' (le :: log)) := by
      rw [stepR_eq]
      cases stepX P call rd dr o.c F H with
      | none => rfl
      | some q =>
        obtain ⟨v, H', le⟩ := q
        show putFR F o.dst v (fun F => opsR P call rd dr rs F H' (le :: log)) = _
        rw [putFR_eq, opsR_eq P call rd dr rs]
    have hno : (putFR F o.dst (.tup []) fun F => opsR P call rd dr rs F H (.acc [] none :: log)) = opsX P call rd dr rs (putXF F o.dst (.tup [])) H (.acc [] none :: log) := by
      rw [putFR_eq, opsR_eq P call rd dr rs]
    show Option.rec (motive := fun _ => XO3) (goR o.dst F log (opsR P call rd dr rs) (stepR P call rd dr o.c F H)) (fun g => grdR (atR F g.1) g.2 (goR o.dst F log (opsR P call rd dr rs) (stepR P call rd dr o.c F H)) (putFR F o.dst (.tup []) fun F => opsR P call rd dr rs F H (.acc [] none :: log))) o.guard = _
    rw [hgo, hno]
    simp only [opsX]
    cases o.guard with
    | none => rfl
    | some g =>
      obtain ⟨t, want⟩ := g
      show grdR (atR F t) want _ _ = _
      rw [atR_eq]
      simp only
      cases F.at t <;> try rfl
      · rename_i b
        show (Bool.rec (motive := fun _ => XO3) _ _ (beqB b want) : XO3) = _
        rw [brec]; rfl
      · rename_i vs
        cases vs <;> rfl
abbrev XK := XF → XH → XC
def seqR (k : XK) : XC → XC := Option.rec (motive := fun _ => XC) none (unE fun e F H => XE.rec (motive := fun _ => XF → XH → XC) (fun F H => k F H) (fun i F H => some (.exit i, F, H)) (fun F H => some (.ret, F, H)) e F H)
theorem seqR_eq (k : XK) (r : XC) : seqR k r = (match r with | some (.normal, F', H') => k F' H' | r => r) := by
  cases r with
  | none => rfl
  | some q =>
    obtain ⟨e, F, H⟩ := q
    cases e <;> rfl
def loopR (body : XK) : Nat → XK := Nat.rec (motive := fun _ => XK) (fun _ _ => none) (fun _ ih F H => seqR ih (body F H))
theorem loopR_eq (body : XK) : ∀ (n : Nat) (F : XF) (H : XH), loopR body n F H = loopX body n F H
  | 0, F, H => rfl
  | n + 1, F, H => by
    have h : loopR body n = loopX body n := by funext F H; exact loopR_eq body n F H
    show seqR (loopR body n) (body F H) = _
    rw [h, seqR_eq]; rfl
def blkR (id : Nat) : XC → XC := Option.rec (motive := fun _ => XC) none (unE fun e F H => XE.rec (motive := fun _ => XF → XH → XC) (fun F H => some (.normal, F, H)) (fun j F H => Bool.rec (motive := fun _ => XC) (some (.exit j, F, H)) (some (.normal, F, H)) (Nat.beq j id)) (fun F H => some (.ret, F, H)) e F H)
theorem blkR_eq (id : Nat) (r : XC) : blkR id r = (match r with | some (.exit j, F', H') => bif Nat.beq j id then some (.normal, F', H') else some (.exit j, F', H') | r => r) := by
  cases r with
  | none => rfl
  | some q =>
    obtain ⟨e, F, H⟩ := q
    cases e with
    | normal => rfl
    | ret => rfl
    | exit j =>
      show (Bool.rec (motive := fun _ => XC) _ _ (Nat.beq j id) : XC) = _
      rw [brec]
def un3F {α : Type} (k : XF → XH → List XL → α) (q : XF × XH × List XL) : α := Prod.rec (motive := fun _ => α) (fun F r => Prod.rec (motive := fun _ => α) (fun H l => k F H l) r) q
def endR : XO3 → XC := Option.rec (motive := fun _ => XC) none (un3F fun F H _ => some (.normal, F, H))
def endLR (ps : List (Nat × Nat)) (els : XC) : XO3 → XC := Option.rec (motive := fun _ => XC) none (un3F fun F H l => Bool.rec (motive := fun _ => XC) els (some (.normal, F, H)) (logX ps l.reverse))

def condR : XV → XK → XK → XK := XV.rec (motive_1 := fun _ => XK → XK → XK) (motive_2 := fun _ => Unit) (fun _ _ => fun _ _ _ _ => none) (fun _ _ => fun _ _ _ _ => none) (fun b => fun a c F H => Bool.rec (motive := fun _ => XC) (c F H) (a F H) b) (fun _ => fun _ _ _ _ => none) (fun _ _ _ _ => none) (fun _ _ _ => fun _ _ _ _ => none) (fun _ _ _ => fun _ _ _ _ => none) (fun _ _ _ _ => none) (fun _ _ _ _ => fun _ _ _ _ => none) (fun _ _ _ _ _ => fun _ _ _ _ => none) (fun _ _ _ _ => fun _ _ _ _ => none) (fun _ => fun _ _ _ _ => none) (fun _ _ => fun _ _ _ _ => none) (fun _ _ => fun _ _ _ _ => none) (fun _ _ _ _ => none) (fun _ _ _ _ _ => fun _ _ _ _ => none) (fun _ _ _ _ => none) (fun _ _ _ => fun _ _ _ _ => none) (fun _ => fun _ _ _ _ => none) (fun _ => fun _ _ _ _ => none) (fun _ => fun _ _ _ _ => none) (fun _ _ _ _ => none) () (fun _ _ _ _ => ())
def exR (P : Program) (call : XCall) (rd : XRd) : FC → XK :=
  FC.rec (motive := fun _ => XK) (fun F H => some (.normal, F, H))
    (fun rs pairs F H => List.rec (motive := fun _ => XC) (endR (opsR P call rd false rs F H [])) (fun p ps _ => endLR (p :: ps) (twiceX P call rd rs (p :: ps) F H) (opsR P call rd true rs F H [])) pairs)
    (fun _ _ iha ihb F H => seqR ihb (iha F H))
    (fun c _ _ iha ihb F H => condR (evR F c) iha ihb F H)
    (fun id _ iha F H => blkR id (iha F H))
    (fun a iha F H => Option.rec (motive := fun _ => XC) (loopR iha 1000000000 F H) (fun m => mapX m F H) (mapLoop a))
    (fun id F H => some (.exit id, F, H))
    (fun F H => some (.ret, F, H))
    (fun _ _ _ _ _ => none)
    (fun _ iha F H => iha F H)
theorem exR_eq (P : Program) (call : XCall) (rd : XRd) (fc : FC) : ∀ (F : XF) (H : XH), exR P call rd fc F H = exX P call rd fc F H := by
  induction fc with
  | skip => intro F H; rfl
  | reg rs pairs =>
    intro F H
    cases pairs with
    | nil =>
      show endR (opsR P call rd false rs F H []) = _
      rw [opsR_eq]
      simp only [exX]
      cases opsX P call rd false rs F H [] <;> rfl
    | cons p ps =>
      show endLR (p :: ps) (twiceX P call rd rs (p :: ps) F H) (opsR P call rd true rs F H []) = _
      rw [opsR_eq]
      simp only [exX]
      cases opsX P call rd true rs F H [] with
      | none => rfl
      | some q =>
        obtain ⟨F', H', log⟩ := q
        show (Bool.rec (motive := fun _ => XC) _ _ (logX (p :: ps) log.reverse) : XC) = _
        rw [brec]
  | seq a b iha ihb =>
    intro F H
    have hb : exR P call rd b = exX P call rd b := by funext F H; exact ihb F H
    show seqR (exR P call rd b) (exR P call rd a F H) = _
    rw [hb, iha, seqR_eq]; rfl
  | cond c a b iha ihb =>
    intro F H
    show condR (evR F c) (exR P call rd a) (exR P call rd b) F H = _
    rw [evR_eq]
    simp only [exX]
    cases evx F c <;> try rfl
    rename_i t
    show (Bool.rec (motive := fun _ => XC) (exR P call rd b F H) (exR P call rd a F H) t : XC) = _
    rw [iha, ihb, brec]
  | block i a iha =>
    intro F H
    show blkR i (exR P call rd a F H) = _
    rw [blkR_eq, iha]; rfl
  | loop a iha =>
    intro F H
    show (Option.rec (motive := fun _ => XC) (loopR (exR P call rd a) 1000000000 F H) (fun m => mapX m F H) (mapLoop a) : XC) = _
    have : exR P call rd a = exX P call rd a := by funext F H; exact iha F H
    rw [this, loopR_eq]; simp only [exX]
    cases mapLoop a <;> rfl
  | exit i => intro F H; rfl
  | ret => intro F H; rfl
  | nxr a b it => intro F H; rfl
  | scp a iha => intro F H; exact iha F H
def retO (H : XH) : Option XV → Option (XV × XH) := Option.rec (motive := fun _ => Option (XV × XH)) none (fun v => some (v, H))
def finR (ts : List RS) : XC → Option (XV × XH) := Option.rec (motive := fun _ => Option (XV × XH)) none (unE fun e F H => XE.rec (motive := fun _ => XF → XH → Option (XV × XH)) (fun F H => retO H (retX F H ts)) (fun _ _ _ => none) (fun F H => retO H (retX F H ts)) e F H)
def bodyR (P : Program) (pv : PvT) (ih : XCall) (args : List XV) (H : XH) : Option (Nat × List RS × FC) → Option (XV × XH) := Option.rec (motive := fun _ => Option (XV × XH)) none (fun q => Prod.rec (motive := fun _ => Option (XV × XH)) (fun n r => Prod.rec (motive := fun _ => Option (XV × XH)) (fun ts fc => Bool.rec (motive := fun _ => Option (XV × XH)) none (finR ts (exR P ih (rdK pv P) fc (XF.ofL args .nil 0) H)) (Nat.ble (lenX args) n)) r) q)
def ovR (els : Option (XV × XH)) : Option (Option (XV × XH)) → Option (XV × XH) := Option.rec (motive := fun _ => Option (XV × XH)) els (fun v => v)
def runR (P : Program) (pv : PvT) (code : FuncId → Option (Nat × List RS × FC)) (ov : OvT) : Nat → XCall :=
  Nat.rec (motive := fun _ => XCall) (fun _ _ _ => none) (fun _ ih f args H => ovR (bodyR P pv ih args H (code f)) (ov f args H))
theorem runR_eq (P : Program) (pv : PvT) (code : FuncId → Option (Nat × List RS × FC)) (ov : OvT) : ∀ d, runR P pv code ov d = runX P pv code ov d := by
  intro d
  induction d with
  | zero => rfl
  | succ d ih =>
    funext f args H
    show ovR (bodyR P pv (runR P pv code ov d) args H (code f)) (ov f args H) = _
    rw [ih]
    simp only [runX]
    cases ov f args H with
    | some v => cases v <;> rfl
    | none =>
      show bodyR P pv (runX P pv code ov d) args H (code f) = _
      simp only
      cases code f with
      | none => rfl
      | some q =>
        obtain ⟨n, ts, fc⟩ := q
        show (Bool.rec (motive := fun _ => Option (XV × XH)) none (finR ts (exR P (runX P pv code ov d) (rdK pv P) fc (XF.ofL args .nil 0) H)) (Nat.ble (lenX args) n) : Option (XV × XH)) = _
        rw [exR_eq, brec]
        simp only
        cases Nat.ble (lenX args) n
        · rfl
        · show finR ts (exX P (runX P pv code ov d) (rdK pv P) fc (XF.ofL args .nil 0) H) = _
          simp only [cond_true]
          cases exX P (runX P pv code ov d) (rdK pv P) fc (XF.ofL args .nil 0) H with
          | none => rfl
          | some q =>
            obtain ⟨e, F', H'⟩ := q
            cases e with
            | exit i => rfl
            | normal => show retO H' (retX F' H' ts) = _; simp only; cases retX F' H' ts <;> rfl
            | ret => show retO H' (retX F' H' ts) = _; simp only; cases retX F' H' ts <;> rfl
end
end Go.Ab
/- Tables of code; what an evaluation in the kernel's form says of a law. -/
namespace Go.Ab
set_option linter.constructorNameAsVariable false
set_option linter.unusedSimpArgs false
set_option linter.unusedVariables false
open Go.RowKit
set_option linter.unusedVariables false
abbrev CodeE := Option (Nat × List RS × FC)
def allC (P : Program) : List (Nat × CodeE) → Prop
  | [] => True
  | p :: l => codeOf P p.1 = p.2 ∧ allC P l
def tabT : List (Nat × CodeE) → Tr CodeE
  | [] => .e
  | p :: l => (tabT l).set p.1 p.2
def codeT (l : List (Nat × CodeE)) (f : FuncId) : CodeE :=
  match (tabT l).get f with
  | some x => x
  | none => none
theorem codeT_eq {P : Program} {l : List (Nat × CodeE)} (hl : allC P l) (f x) (h : codeT l f = some x) : codeOf P f = some x := by
  have : ∀ {l : List (Nat × CodeE)}, allC P l → ∀ y, (tabT l).get f = some y → codeOf P f = y := by
    intro l
    induction l with
    | nil => intro _ y h; simp [tabT] at h
    | cons p l ih =>
      intro hl y h
      simp only [tabT, Tr.get_set] at h
      split at h
      · rename_i e; cases h; rw [e]; exact hl.1
      · exact ih hl.2 y h
  unfold codeT at h
  split at h
  · rename_i y e; rw [this hl y e]; exact h
  · cases h
theorem codeT_ok {P : Program} {l : List (Nat × CodeE)} (h : allC P l) : CodesOK P (codeT l) := fun f n ts fc e => codeOf_ok P f n ts fc (codeT_eq h f _ e)
def ov0 (_ : FuncId) (_ : List XV) : Option (Option XV) := none
theorem ov0_ok {ρ : Env} {P : Program} : OvOK ρ P ov0 := fun f args v h => by cases h
def pv0 : PvT := fun _ _ => none
theorem pv0_ok {ρ : Env} {P : Program} : PvOK ρ P pv0 := fun f args v h => by cases h
theorem law_R {P : Program} (ρ : Env) {fs : List (SE × SE)} (hfs : FactsOK ρ fs) {pv : PvT} (hpv : PvOK ρ P pv) (hm : P.follows .mixedOrders = true) (hφ : ρ.φ = []) (hN : 1000000000 ≤ ρ.N) {l : List (Nat × CodeE)} (hl : allC P l) {ov : OvT} (hov : OvH ρ P ov) {d : Nat} {f : FuncId} {args : List XV} (h : isT (runR P pv (codeT l) ov d f args ⟨0, .e, ⟨fs, .e, 1000000000, false, 0⟩⟩) = true) : PureEv P f (args.map (XV.av ρ)) (.bool true) := by
  rw [runR_eq] at h
  exact law_X ρ hfs hpv hm hφ hN (codeT_ok hl) hov h
/-- A call from no heap answers a value, plainly the one that is said. -/
def isV (w : XV) (x : Option (XV × XH)) : Bool := match x with | some (v, _) => sameV v w | none => false
theorem call_R {P : Program} (ρ : Env) {fs : List (SE × SE)} (hfs : FactsOK ρ fs) {pv : PvT} (hpv : PvOK ρ P pv) (hm : P.follows .mixedOrders = true) (hφ : ρ.φ = []) (hN : 1000000000 ≤ ρ.N) {l : List (Nat × CodeE)} (hl : allC P l) {ov : OvT} (hov : OvH ρ P ov) {d : Nat} {f : FuncId} {args : List XV} {w : XV} (hw : (w.av ρ).blw 0 = true) (h : isV w (runR P pv (codeT l) ov d f args ⟨0, .e, ⟨fs, .e, 1000000000, false, 0⟩⟩) = true) : PureEv P f (args.map (XV.av ρ)) (w.av ρ) := by
  unfold isV at h
  split at h
  · rename_i v H e
    rw [runR_eq] at e
    have hs := sameV_ok (ρ := ρ) _ _ h
    rw [← hs] at hw ⊢
    exact call_X ρ hfs hpv hm hφ hN (codeT_ok hl) hov hw e
  · cases h
/-- Function k, without arguments, is known to answer true. -/
def ovF (k : Nat) (f : FuncId) : List XV → Option (Option XV)
  | [] => bif Nat.beq f k then some (some (.bool true)) else none
  | _ :: _ => none
theorem ovF_ok {P : Program} {ρ : Env} {k : Nat} (h : PureEv P k [] (.bool true)) : OvOK ρ P (ovF k) := by
  intro f args v e σ
  cases args with
  | cons x r => cases e
  | nil =>
    obtain ⟨h1, h2⟩ := bif_some e
    cases h2
    have := Nat.eq_of_beq_eq_true h1
    subst this
    exact h.frame rfl rfl σ
/-- So many unknown numbers. -/
def symL (n : Nat) : List XV := (List.range n).map fun i => .sym .u64 (.var i)
theorem symL_av (l : List Int) (t : List AV) : ∀ n, n ≤ l.length → (symL n).map (XV.av { v := fun i => l.getD i 0, t := t }) = (l.take n).map (avI .u64) := by
  intro n hn
  apply List.ext_getElem
  · simp [symL]; omega
  · intro i h1 h2
    have hi : i < l.length := by simp at h2; omega
    simp [symL, XV.av, SE.val, avI, List.getD_eq_getElem?_getD, hi]
theorem sym_len (l : List Int) : XV.av { v := fun i => l.getD i 0, t := [] } (.sl false 1 (symL l.length)) = avL 1 (avI .u64) l := by
  simp only [XV.av, avs_eq, avL]
  rw [symL_av l [] _ (Nat.le_refl _), List.take_length]
theorem sym_long (l : List Int) (n : Nat) (h : n ≤ l.length) : XV.av { v := fun i => l.getD i 0, t := (l.drop n).map (avI .u64) } (.slt false 1 (symL n)) = avL 1 (avI .u64) l := by
  simp only [XV.av, avs_eq, avL]
  rw [symL_av l _ _ h, ← List.map_append, List.take_append_drop]
/-- A function without arguments that answers true, once for all. -/
theorem ov_true {P : Program} {ρ : Env} {f : FuncId} (h : PureEv P f [] (.bool true)) (σ : Hp) : Ev P f ([].map (XV.av ρ)) σ ((XV.bool true).av ρ) σ := h.frame rfl rfl σ
end Go.Ab
/- Calls that are known, with the heap that they met and the one that they left: what is not listed is let go. -/
namespace Go.Ab
set_option linter.constructorNameAsVariable false
set_option linter.unusedSimpArgs false
set_option linter.unusedVariables false
open Go.RowKit
set_option linter.unusedVariables false
set_option linter.unusedSimpArgs false
/-! ### objects let go -/
def Gn (σ σ' : Hp) : Prop := ∀ o, σ' o = σ o ∨ σ' o = .gone
theorem Gn.ext {pm : Pm} {L : Nat → Loc} {σ σ' : Hp} (h : Gn σ σ') : Ext pm L σ pm L σ' := ⟨fun _ _ _ e => e, fun o => by
  rcases h o with e | e
  · rw [e]; exact ObExt.refl _ _
  · rw [e]; cases σ o <;> simp [ObExt]⟩
theorem WRel.let_go {g σ σ'} {w : World} (hw : WRel g σ w) (h : Gn σ σ') : WRel g σ' w ∧ g.le σ g σ' := by
  have hext : Ext g.pm g.L σ g.pm g.L σ' := h.ext
  have ha : ∀ {o ver cs}, σ' o = .arr ver cs → σ o = .arr ver cs := fun {o ver cs} e => by
    rcases h o with q | q
    · rw [← q]; exact e
    · rw [q] at e; cases e
  have hm : ∀ {o es it}, σ' o = .mpo es it → σ o = .mpo es it := fun {o es it} e => by
    rcases h o with q | q
    · rw [← q]; exact e
    · rw [q] at e; cases e
  refine ⟨⟨hw.pm, hw.tm, hw.tmf, hw.disj, hw.low, hw.B0, hw.tab, hw.bk, fun o ver cs e => ?_, fun o o' v1 v2 c1 c2 e1 e2 hne => hw.sep o o' _ _ _ _ (ha e1) (ha e2) hne, fun o es it e => (hw.mo o es it (hm e)).keep hext rfl rfl (fun _ _ e _ => e), fun o o' s1 s2 t1 t2 e1 e2 hne => hw.ms o o' _ _ _ _ (hm e1) (hm e2) hne⟩, ⟨hext, rfl, rfl, rfl⟩⟩
  have k := hw.ob o ver cs (ha e)
  refine ⟨k.low, k.len, fun j hj => ?_, fun j hj => k.free j hj, k.pm, k.tm⟩
  obtain ⟨v, hv, hr⟩ := k.there j hj
  exact ⟨v, hv, fun hj' => (hr hj').mono hext⟩
theorem Ev.weak {P : Program} {f args σ σ1 v σ2 σ3} (h : Ev P f args σ1 v σ2) (h1 : Gn σ σ1) (h2 : Gn σ2 σ3) : Ev P f args σ v σ3 := by
  intro g w vals hw hv
  obtain ⟨w1, l1⟩ := hw.let_go h1
  refine (h g w vals w1 ⟨hv.1, fun j a b => (hv.2 j a b).mono l1.ext⟩).mono ?_
  rintro e w' ⟨u, g', e1, e2, e3, e4⟩
  obtain ⟨w3, l3⟩ := e3.let_go h2
  exact ⟨u, g', e1, (l1.trans e2).trans l3, w3, e4.mono l3.ext⟩
/-! ### heaps as lists -/
abbrev OL := List (Nat × Nat × List XV)
abbrev ML := List (Nat × XM × Option (List Nat))
def mkT : OL → Tr XO
  | [] => .e
  | (o, ver, cs) :: r => (mkT r).set o ⟨ver, lenX cs, Tr.setL cs .e 0⟩
def mkM : ML → Tr (XM × Option (List Nat))
  | [] => .e
  | (o, es, it) :: r => (mkM r).set o (es, it)
def hasO (H : XH) (o ver : Nat) (cs : List XV) : Bool :=
  match H.t.get o with
  | some ob => Nat.beq ob.ver ver && (Nat.beq ob.n (lenX cs) && (match ob.t.rd ob.n 0 with | some xs => sameVs xs cs | none => false))
  | none => false
def hasOs (H : XH) : OL → Bool
  | [] => true
  | (o, ver, cs) :: r => hasO H o ver cs && hasOs H r
def sameM : XM → XM → Bool
  | [], [] => true
  | a :: as, b :: bs => keq a.1.1 b.1.1 && (ieq a.1.2 b.1.2 && (sameV a.2 b.2 && sameM as bs))
  | _, _ => false
def leN : List Nat → List Nat → Bool
  | [], [] => true
  | a :: as, b :: bs => Nat.beq a b && leN as bs
  | _, _ => false
def sameIt : Option (List Nat) → Option (List Nat) → Bool
  | none, none => true
  | some a, some b => leN a b
  | _, _ => false
def hasMs (H : XH) : ML → Bool
  | [] => true
  | (o, es, it) :: r => (match H.fs.m.get o with | some p => sameM p.1 es && sameIt p.2 it | none => false) && hasMs H r
def okO (nx : Nat) : OL → Bool
  | [] => true
  | (o, _, _) :: r => Nat.blt o nx && okO nx r
def offO (o : Nat) : OL → Bool
  | [] => true
  | (o', _, _) :: r => !Nat.beq o o' && offO o r
def okM (nx : Nat) (os : OL) : ML → Bool
  | [] => true
  | (o, _, _) :: r => Nat.blt o nx && (offO o os && okM nx os r)
structure Memo where
  f : FuncId
  args : List XV
  nx : Nat
  os : OL
  ms : ML
  v : XV
  nx1 : Nat
  os1 : OL
  ms1 : ML
def Memo.inH (fs : List (SE × SE)) (m : Memo) : XH := ⟨m.nx, mkT m.os, ⟨fs, mkM m.ms, 1000000000, false, m.nx⟩⟩
def Memo.outH (m : Memo) (H : XH) : XH := ⟨m.nx1, mkT m.os1, ⟨H.fs.f, mkM m.ms1, H.fs.n, H.fs.d, m.nx1⟩⟩
/-- The call comes to what is said: what is listed is there. -/
def chkM (fs : List (SE × SE)) (run : XCall) (m : Memo) : Bool :=
  okO m.nx m.os && (okM m.nx m.os m.ms && (okO m.nx1 m.os1 && (okM m.nx1 m.os1 m.ms1 && (match run m.f m.args (m.inH fs) with
  | some (v, H) => sameV v m.v && (hasOs H m.os1 && (hasMs H m.ms1 && (Nat.ble H.nx m.nx1 && Nat.ble H.fs.g m.nx1)))
  | none => false))))
def hitM (m : Memo) (args : List XV) (H : XH) : Bool :=
  Nat.beq H.nx m.nx && (Nat.ble H.fs.g H.nx && (Nat.beq H.fs.n 1000000000 && (sameVs args m.args && (hasOs H m.os && hasMs H m.ms))))
def memX : List Memo → FuncId → List XV → XH → Option (XV × XH)
  | [], _, _, _ => none
  | m :: r, f, args, H => bif Nat.beq m.f f && hitM m args H then some (m.v, m.outH H) else memX r f args H
def ovA (ov : FuncId → List XV → Option (Option XV)) (ms : List Memo) : OvT := fun f args H =>
  match ov f args with
  | some (some v) => some (some (v, H))
  | some none => some none
  | none => match memX ms f args H with
    | some r => some (some r)
    | none => none
section
variable {ρ : Env}
theorem mkT_get : ∀ (l : OL) (o : Nat), (mkT l).get o = (l.find? (fun p => p.1 == o)).map fun p => ⟨p.2.1, lenX p.2.2, Tr.setL p.2.2 .e 0⟩
  | [], o => by simp [mkT]
  | (o', ver, cs) :: r, o => by
    rw [mkT, Tr.get_set, List.find?_cons]
    by_cases h : o = o'
    · subst h; simp
    · have : (o' == o) = false := by simp; exact fun e => h e.symm
      rw [if_neg h]; simp only [this]; exact mkT_get r o
theorem mkM_get : ∀ (l : ML) (o : Nat), (mkM l).get o = (l.find? (fun p => p.1 == o)).map fun p => p.2
  | [], o => by simp [mkM]
  | (o', es, it) :: r, o => by
    rw [mkM, Tr.get_set, List.find?_cons]
    by_cases h : o = o'
    · subst h; simp
    · have : (o' == o) = false := by simp; exact fun e => h e.symm
      rw [if_neg h]; simp only [this]; exact mkM_get r o
theorem hasO_ok {H : XH} {o ver : Nat} {cs : List XV} (h : hasO H o ver cs = true) : ∃ ob, H.t.get o = some ob ∧ hpx ρ H o = .arr ver (cs.map (XV.av ρ)) := by
  unfold hasO at h
  split at h
  · rename_i ob e
    simp only [Bool.and_eq_true] at h
    obtain ⟨h1, h2, h3⟩ := h
    split at h3
    · rename_i xs hr
      refine ⟨ob, e, ?_⟩
      simp only [hpx, e]
      rw [Nat.eq_of_beq_eq_true h1, ← sameV_ok.sameVs_ok (ρ := ρ) xs cs h3]
      congr 1
      obtain ⟨a, b⟩ := Tr.rd_some _ _ _ _ hr
      refine List.ext_getElem (by simp [XO.len_cells, a]) (fun i p q => ?_)
      have hi : i < ob.n := by simpa [XO.len_cells] using p
      have hg := XO.get_cells (ρ := ρ) ob hi
      rw [List.getElem?_eq_getElem p] at hg
      have hb := b i (by omega)
      rw [Nat.zero_add] at hb
      rw [hb] at hg
      simp only [Option.some.injEq] at hg
      rw [hg]; simp
    · cases h3
  · cases h
theorem hasOs_get {H : XH} : ∀ {l : OL}, hasOs H l = true → ∀ p ∈ l, hasO H p.1 p.2.1 p.2.2 = true
  | [], _, p, hp => by simp at hp
  | (o, ver, cs) :: r, h, p, hp => by
    simp only [hasOs, Bool.and_eq_true] at h
    rcases List.mem_cons.1 hp with rfl | hp
    · exact h.1
    · exact hasOs_get h.2 p hp
theorem sameM_ok : ∀ {a b : XM}, sameM a b = true → mAv ρ a = mAv ρ b
  | [], [], _ => rfl
  | a :: as, b :: bs, h => by
    simp only [sameM, Bool.and_eq_true] at h
    obtain ⟨h1, h2, h3, h4⟩ := h
    rw [ieq_eq] at h2
    have e1 : a.1 = b.1 := Prod.ext (keq_eq h1) (by simpa using h2)
    have e2 := sameM_ok h4
    simp only [mAv, List.map_cons] at e2 ⊢
    rw [e1, sameV_ok _ _ h3, e2]
  | [], _ :: _, h => by cases h
  | _ :: _, [], h => by cases h
theorem leN_eq : ∀ {a b : List Nat}, leN a b = true → a = b
  | [], [], _ => rfl
  | a :: as, b :: bs, h => by
    simp only [leN, Bool.and_eq_true] at h
    rw [Nat.eq_of_beq_eq_true h.1, leN_eq h.2]
  | [], _ :: _, h => by cases h
  | _ :: _, [], h => by cases h
theorem sameIt_ok : ∀ {a b : Option (List Nat)}, sameIt a b = true → a = b
  | none, none, _ => rfl
  | some a, some b, h => by rw [leN_eq h]
  | none, some _, h => by cases h
  | some _, none, h => by cases h
theorem hasMs_get {H : XH} : ∀ {l : ML}, hasMs H l = true → ∀ p ∈ l, ∃ q, H.fs.m.get p.1 = some q ∧ mAv ρ q.1 = mAv ρ p.2.1 ∧ q.2 = p.2.2
  | [], _, p, hp => by simp at hp
  | (o, es, it) :: r, h, p, hp => by
    simp only [hasMs, Bool.and_eq_true] at h
    rcases List.mem_cons.1 hp with rfl | hp
    · obtain ⟨h, _⟩ := h
      split at h
      · rename_i q e
        simp only [Bool.and_eq_true] at h
        exact ⟨q, e, sameM_ok h.1, sameIt_ok h.2⟩
      · cases h
    · exact hasMs_get h.2 p hp
theorem okO_get {nx : Nat} : ∀ {l : OL}, okO nx l = true → ∀ p ∈ l, p.1 < nx
  | [], _, p, hp => by simp at hp
  | (o, ver, cs) :: r, h, p, hp => by
    simp only [okO, Bool.and_eq_true] at h
    rcases List.mem_cons.1 hp with rfl | hp
    · exact Nat.le_of_ble_eq_true h.1
    · exact okO_get h.2 p hp
theorem offO_get {o : Nat} : ∀ {l : OL}, offO o l = true → ∀ p ∈ l, p.1 ≠ o
  | [], _, p, hp => by simp at hp
  | (o', ver, cs) :: r, h, p, hp => by
    simp only [offO, Bool.and_eq_true, Bool.not_eq_true'] at h
    rcases List.mem_cons.1 hp with rfl | hp
    · intro e; simp only at e; rw [e] at h; simp at h
    · exact offO_get h.2 p hp
theorem okM_get {nx : Nat} {os : OL} : ∀ {l : ML}, okM nx os l = true → ∀ p ∈ l, p.1 < nx ∧ ∀ q ∈ os, q.1 ≠ p.1
  | [], _, p, hp => by simp at hp
  | (o, es, it) :: r, h, p, hp => by
    simp only [okM, Bool.and_eq_true] at h
    rcases List.mem_cons.1 hp with rfl | hp
    · exact ⟨Nat.le_of_ble_eq_true h.1, offO_get h.2.1⟩
    · exact okM_get h.2.2 p hp
/-- The heap that was listed. -/
def lst (nx : Nat) (os : OL) (ms : ML) (fs : XSd) : XH := ⟨nx, mkT os, ⟨fs.f, mkM ms, fs.n, fs.d, nx⟩⟩
theorem lst_ok {nx : Nat} {os : OL} {ms : ML} {fs : XSd} (h1 : okO nx os = true) (h2 : okM nx os ms = true) (hf : FactsOK ρ fs.f ∧ fs.n ≤ ρ.N) : (lst nx os ms fs).ok ρ := by
  refine ⟨fun o ho => ?_, hf, fun o es e => ?_⟩
  · show (mkT os).get o = none
    rw [mkT_get]
    cases e : os.find? (fun p => p.1 == o) with
    | none => rfl
    | some p =>
      have := okO_get h1 p (List.mem_of_find?_eq_some e)
      have h3 := List.find?_some e
      have ho : nx ≤ o := ho
      simp at h3; omega
  · have e : (mkM ms).get o = some es := e
    show (mkT os).get o = none ∧ o < nx
    rw [mkM_get] at e
    rw [mkT_get]
    cases e1 : ms.find? (fun p => p.1 == o) with
    | none => rw [e1] at e; cases e
    | some p =>
      have h3 := List.find?_some e1
      obtain ⟨a, b⟩ := okM_get h2 p (List.mem_of_find?_eq_some e1)
      have h3 : p.1 = o := by simpa using h3
      refine ⟨?_, by omega⟩
      cases e2 : os.find? (fun p => p.1 == o) with
      | none => rfl
      | some q =>
        have h4 := List.find?_some e2
        have h4 : q.1 = o := by simpa using h4
        exact absurd (h4.trans h3.symm) (b q (List.mem_of_find?_eq_some e2))
/-- What is listed is there, what is not is let go. -/
theorem lst_gn {H : XH} (hk : H.ok ρ) {nx : Nat} {os : OL} {ms : ML} {fs : XSd} (h1 : hasOs H os = true) (h2 : hasMs H ms = true) (hn : H.nx ≤ nx) (hg : H.fs.g ≤ nx) (h4 : okM nx os ms = true) : Gn (hpx ρ H) (hpx ρ (lst nx os ms fs)) := by
  intro o
  have hl : hpx ρ (lst nx os ms fs) o = (match (mkT os).get o with | some ob => .arr ob.ver (ob.cells ρ) | none => match (mkM ms).get o with | none => (if o < nx then .gone else hp ρ.φ o) | some es => .mpo (mAv ρ es.1) es.2) := rfl
  rw [hl, mkT_get, mkM_get]
  cases e1 : os.find? (fun p => p.1 == o) with
  | some p =>
    left
    have hp : p.1 = o := by have := List.find?_some e1; simpa using this
    obtain ⟨ob, _, h⟩ := hasO_ok (ρ := ρ) (hasOs_get h1 p (List.mem_of_find?_eq_some e1))
    rw [hp] at h
    rw [h]
    simp only [Option.map_some, lenX_eq, cells_new]
  | none =>
    simp only [Option.map_none]
    cases e2 : ms.find? (fun p => p.1 == o) with
    | some p =>
      left
      have hp : p.1 = o := by have := List.find?_some e2; simpa using this
      obtain ⟨q, a, b, c⟩ := hasMs_get (ρ := ρ) h2 p (List.mem_of_find?_eq_some e2)
      rw [hp] at a
      rw [hpx_m hk a, b, c]
      rfl
    | none =>
      simp only [Option.map_none]
      by_cases ho : o < nx
      · right; rw [if_pos ho]
      · left
        rw [if_neg ho, hpx_bey hk.1 hk.2.2 hn hg o (by omega)]
/-! ### known calls -/
def MemoOK (P : Program) (fs : List (SE × SE)) (m : Memo) : Prop := okM m.nx m.os m.ms = true ∧ okO m.nx1 m.os1 = true ∧ okM m.nx1 m.os1 m.ms1 = true ∧ ∀ (ρ : Env), FactsOK ρ fs → 1000000000 ≤ ρ.N → ∀ s : XSd, Ev P m.f (m.args.map (XV.av ρ)) (hpx ρ (m.inH fs)) (m.v.av ρ) (hpx ρ (lst m.nx1 m.os1 m.ms1 s))
theorem chkM_ok {P : Program} {fs : List (SE × SE)} {run : XCall} (hrun : ∀ ρ, FactsOK ρ fs → CallOK ρ P run) {m : Memo} (h : chkM fs run m = true) : MemoOK P fs m := by
  unfold chkM at h
  simp only [Bool.and_eq_true] at h
  obtain ⟨h1, h2, h3, h4, h⟩ := h
  refine ⟨h2, h3, h4, fun ρ hf hN s => ?_⟩
  split at h
  · rename_i v H e
    simp only [Bool.and_eq_true] at h
    obtain ⟨a1, a2, a3, a4, a5⟩ := h
    have hin : (m.inH fs).ok ρ := lst_ok (fs := ⟨fs, .e, 1000000000, false, 0⟩) h1 h2 ⟨hf, hN⟩
    obtain ⟨k, ev⟩ := (hrun ρ hf).at e hin
    rw [sameV_ok _ _ a1] at ev
    exact ev.weak (fun o => .inl rfl) (lst_gn k a2 a3 (Nat.le_of_ble_eq_true a4) (Nat.le_of_ble_eq_true a5) h4)
  · cases h
def MemosOK (P : Program) (fs : List (SE × SE)) : List Memo → Prop
  | [] => True
  | m :: r => MemoOK P fs m ∧ MemosOK P fs r
theorem memX_ok {P : Program} {fs : List (SE × SE)} (hf : FactsOK ρ fs) : ∀ {ms : List Memo}, MemosOK P fs ms → ∀ {f args} {H : XH} {r : XV × XH}, memX ms f args H = some r → H.ok ρ → r.2.ok ρ ∧ Ev P f (args.map (XV.av ρ)) (hpx ρ H) (r.1.av ρ) (hpx ρ r.2)
  | [], _, f, args, H, r, h, _ => by simp [memX] at h
  | m :: ms, hm, f, args, H, r, h, hk => by
    simp only [memX] at h
    cases hc : (Nat.beq m.f f && hitM m args H) with
    | false => rw [hc] at h; exact memX_ok hf hm.2 h hk
    | true =>
      rw [hc] at h
      simp only [cond_true, Option.some.injEq] at h
      subst h
      simp only [hitM, Bool.and_eq_true] at hc
      obtain ⟨b1, b2, b3, b4, b5, b6, b7⟩ := hc
      have e1 := Nat.eq_of_beq_eq_true b1
      have e2 := Nat.eq_of_beq_eq_true b2
      have e3 := Nat.le_of_ble_eq_true b3
      have e4 := Nat.eq_of_beq_eq_true b4
      obtain ⟨c1, c2, c3, c4⟩ := hm.1
      have hN : 1000000000 ≤ ρ.N := by rw [← e4]; exact hk.2.1.2
      refine ⟨lst_ok (fs := H.fs) c2 c3 hk.2.1, ?_⟩
      have ev := c4 ρ hf hN H.fs
      rw [e1] at ev
      rw [sameV_ok.sameVs_ok (ρ := ρ) args m.args b5]
      exact ev.weak (lst_gn (fs := ⟨fs, .e, 1000000000, false, 0⟩) hk b6 b7 (by omega) (by omega) c1) (fun o => .inl rfl)
theorem ovA_ok {P : Program} {fs : List (SE × SE)} (hf : FactsOK ρ fs) {ov : FuncId → List XV → Option (Option XV)} (hov : OvOK ρ P ov) {ms : List Memo} (hms : MemosOK P fs ms) : OvH ρ P (ovA ov ms) := by
  intro f args H r e φ N h hk
  unfold ovA at e
  split at e
  · rename_i v e1
    cases e
    exact ⟨hk, hov f args v e1 _⟩
  · cases e
  · split at e
    · rename_i r' e2
      cases e
      have := memX_ok (ρ := ρ.fr φ N h) (facts_fr.2 hf) hms e2 hk
      simp only [av_fr] at this
      exact this
    · cases e
end
end Go.Ab
/- The heap taken for one with other versions, objects forgotten; results frozen. -/
namespace Go.Ab
set_option linter.constructorNameAsVariable false
set_option linter.unusedSimpArgs false
set_option linter.unusedVariables false
open Go.RowKit
set_option linter.unusedVariables false
set_option linter.unusedSimpArgs false

/-- The same value over another heap: versions turned along with their objects, or forgotten. -/
inductive RV (σ σ' : Hp) : AV → AV → Prop
  | junk (x) : RV σ σ' x .junk
  | same {x} (h : x.blw 0 = true) : RV σ σ' x x
  | ptr {o ver ver' off cs cs'} (h : σ o = .arr ver cs) (h' : σ' o = .arr ver' cs') : RV σ σ' (.ptr o ver off) (.ptr o ver' off)
  | ref {o ver ver' off n e cs cs'} (h : σ o = .arr ver cs) (h' : σ' o = .arr ver' cs') (hl : cs'.length = cs.length) : RV σ σ' (.ref o ver off n e) (.ref o ver' off n e)
  | pgone {o ver ver' off} (h : σ' o = .gone) : RV σ σ' (.ptr o ver off) (.ptr o ver' off)
  | rgone {o ver ver' off n e} (h : σ' o = .gone) : RV σ σ' (.ref o ver off n e) (.ref o ver' off n e)
  | frz {o ver off n e cs} {xs : List AV} (h : σ o = .arr ver cs) (h' : ∀ v c, σ' o ≠ .arr v c) (hn : xs.length = n) (hz : ∀ i (h : i < xs.length), (xs[i]).cells.length = szOf e) (hc : off + n * szOf e ≤ cs.length)
      (hx : ∀ i j (hi : i < xs.length) (hj : j < (xs[i]).cells.length) (hk : off + i * szOf e + j < cs.length), RV σ σ' cs[off + i * szOf e + j] ((xs[i]).cells[j])) : RV σ σ' (.ref o ver off n e) (.sl false (szOf e) xs)
  | pfz {o ver off cs} {xs : List AV} (h : σ o = .arr ver cs) (h' : ∀ v c, σ' o ≠ .arr v c) (hl : xs.length ≤ cs.length) (hx : ∀ j (hj : j < xs.length) (hk : j < cs.length), RV σ σ' cs[j] xs[j]) : RV σ σ' (.ptr o ver off) (.cptr xs off)
  | agg {xs ys : List AV} (hl : xs.length = ys.length) (h : ∀ j (h1 : j < xs.length) (h2 : j < ys.length), RV σ σ' xs[j] ys[j]) : RV σ σ' (.agg xs) (.agg ys)
  | tup {xs ys : List AV} (hl : xs.length = ys.length) (h : ∀ j (h1 : j < xs.length) (h2 : j < ys.length), RV σ σ' xs[j] ys[j]) : RV σ σ' (.tup xs) (.tup ys)
  | iface {t x y} (h : RV σ σ' x y) : RV σ σ' (.iface t x) (.iface t y)
  | fn {f} {xs ys xs' ys' : List AV} (hl : xs.length = ys.length) (h : ∀ j (h1 : j < xs.length) (h2 : j < ys.length), RV σ σ' xs[j] ys[j])
      (hl' : xs'.length = ys'.length) (h' : ∀ j (h1 : j < xs'.length) (h2 : j < ys'.length), RV σ σ' xs'[j] ys'[j]) : RV σ σ' (.fn f xs xs') (.fn f ys ys')

/-- Does the object go, and does the cell belong to it? -/
def goesAt (g : Gh) (σ σ' : Hp) (b o : Nat) : Prop := ∃ i ver cs, σ i = .arr ver cs ∧ (∀ v c, σ' i ≠ .arr v c) ∧ (g.L i).b = b ∧ ∃ j, j < (g.L i).cap ∧ (g.L i).off + j = o
open Classical in
/-- The cells of what goes are there for good. -/
noncomputable def pmX (g : Gh) (σ σ' : Hp) (w : World) : Pm := fun b o => match g.pm b o with
  | some v => some v
  | none => if goesAt g σ σ' b o then w.cell? ⟨b, o, none⟩ else none
theorem pmX_le {g σ σ' w} : ∀ b o v, g.pm b o = some v → pmX g σ σ' w b o = some v := fun b o v e => by simp only [pmX, e]
theorem VR.rv {g : Gh} {σ σ' : Hp} {w : World} (hw : WRel g σ w) {x y : AV} (k : RV σ σ' x y) : ∀ {u : Value}, VR g.pm g.L σ x u → VR (pmX g σ σ' w) g.L σ' y u := by
  induction k with
  | junk => intro u h; exact .junk
  | same hb => intro u h; exact (h.agree (σ' := σ') (L' := g.L) hb (fun o ho => by omega)).mono ⟨pmX_le, fun _ => ObExt.refl _ _⟩
  | ptr h1 h2 =>
    intro u h
    cases h with
    | ptr hp =>
      refine .ptr ?_
      unfold PtrOK at hp ⊢
      rw [h1] at hp
      rw [h2]
      exact ⟨Nat.le_refl _, fun _ => hp.2 rfl⟩
  | ref h1 h2 hl =>
    intro u h
    cases h with
    | refz hs hp => exact .refz hs (by unfold VerOK; rw [h2]; exact Nat.le_refl _)
    | ref hn hs hp =>
      refine .ref hn hs ?_
      unfold RefOK at hp ⊢
      rw [h1] at hp
      rw [h2]
      have := hp.2 rfl
      exact ⟨Nat.le_refl _, fun _ => ⟨this.1, by rw [hl]; exact this.2.1, this.2.2⟩⟩
  | pgone h1 =>
    intro u h
    cases h with
    | ptr hp => refine .ptr ?_; unfold PtrOK; rw [h1]; trivial
  | rgone h1 =>
    intro u h
    cases h with
    | ref hn hs hp => refine .ref hn hs ?_; unfold RefOK; rw [h1]; trivial
    | refz hs hp => exact .refz hs (by unfold VerOK; rw [h1]; trivial)
  | @frz o ver off n e cs xs h1 h1' hn hsz hc hx ih =>
    intro u h
    cases h with
    | @refz _ _ _ _ a hs hp =>
      have : xs = [] := List.eq_nil_of_length_eq_zero hn
      subst this
      exact .slz
    | @ref _ _ _ _ _ a cap hcap hs hp =>
      unfold RefOK at hp
      rw [h1] at hp
      obtain ⟨rfl, hb2, _, hcp⟩ := hp.2 rfl
      have k := hw.ob o ver cs h1
      have cell : ∀ i j, i < xs.length → j < szOf e → ∃ v, pmX g σ σ' w (g.L o).b ((g.L o).off + off + i * szOf e + j) = some v ∧ ∀ (h : off + i * szOf e + j < cs.length), VR g.pm g.L σ cs[off + i * szOf e + j] v := fun i j hi hj => by
        have hlt : off + i * szOf e + j < cs.length := by
          have : (i + 1) * szOf e ≤ n * szOf e := Nat.mul_le_mul_right _ (by omega)
          rw [Nat.add_mul, Nat.one_mul] at this
          omega
        obtain ⟨v, hv, hr⟩ := k.there (off + i * szOf e + j) (Nat.lt_of_lt_of_le hlt k.len)
        have hpm := k.pm (off + i * szOf e + j) (Nat.lt_of_lt_of_le hlt k.len)
        have ea : (g.L o).off + off + i * szOf e + j = (g.L o).off + (off + i * szOf e + j) := by omega
        refine ⟨v, ?_, hr⟩
        rw [ea]
        simp only [pmX, hpm]
        rw [if_pos ⟨o, ver, cs, h1, h1', rfl, _, Nat.lt_of_lt_of_le hlt k.len, rfl⟩]
        exact hv
      subst hn
      refine .sl (fun i j => (pmX g σ σ' w (g.L o).b ((g.L o).off + off + i * szOf e + j)).getD .nilFunc) hcap nofun hsz (fun i j hi hj => ?_) (fun i hi j hj => ?_)
      · obtain ⟨v, hv, _⟩ := cell i j hi hj
        rw [hv]; rfl
      · have hj' : j < szOf e := by rw [← hsz i hi]; exact hj
        obtain ⟨v, hv, hr⟩ := cell i j hi hj'
        have hlt : off + i * szOf e + j < cs.length := by
          have : (i + 1) * szOf e ≤ xs.length * szOf e := Nat.mul_le_mul_right _ (by omega)
          rw [Nat.add_mul, Nat.one_mul] at this
          omega
        show VR (pmX g σ σ' w) g.L σ' (xs[i].cells[j]) ((pmX g σ σ' w (g.L o).b ((g.L o).off + off + i * szOf e + j)).getD .nilFunc)
        rw [hv, Option.getD_some]
        exact ih i j hi hj hlt (hr hlt)
  | @pfz o ver off cs xs h1 h1' hl hx ih =>
    intro u h
    cases h with
    | @ptr _ _ _ a hp =>
      unfold PtrOK at hp
      rw [h1] at hp
      have ha := hp.2 rfl
      have k := hw.ob o ver cs h1
      have cell : ∀ j (hj : j < xs.length), ∃ v, pmX g σ σ' w (g.L o).b ((g.L o).off + j) = some v ∧ ∀ (h : j < cs.length), VR g.pm g.L σ cs[j] v := fun j hj => by
        have hlt : j < (g.L o).cap := Nat.lt_of_lt_of_le (by omega) k.len
        obtain ⟨v, hv, hr⟩ := k.there j hlt
        refine ⟨v, ?_, hr⟩
        simp only [pmX, k.pm j hlt]
        rw [if_pos ⟨o, ver, cs, h1, h1', rfl, _, hlt, rfl⟩]
        exact hv
      rw [ha]
      refine .cptr (fun j => (pmX g σ σ' w (g.L o).b ((g.L o).off + j)).getD .nilFunc) (fun j hj => ?_) (fun j hj => ?_)
      · obtain ⟨v, hv, _⟩ := cell j hj
        rw [hv]; rfl
      · obtain ⟨v, hv, hr⟩ := cell j hj
        show VR (pmX g σ σ' w) g.L σ' xs[j] ((pmX g σ σ' w (g.L o).b ((g.L o).off + j)).getD .nilFunc)
        rw [hv, Option.getD_some]
        exact ih j hj (by omega) (hr (by omega))
  | agg hl _ ih => intro u h; cases h with | agg a b => exact .agg (by omega) (fun j h1 h2 => ih j (by omega) h1 (b j (by omega) h2))
  | tup hl _ ih => intro u h; cases h with | tup a b => exact .tup (by omega) (fun j h1 h2 => ih j (by omega) h1 (b j (by omega) h2))
  | iface _ ih => intro u h; cases h with | iface h => exact .iface (ih h)
  | fn hl _ hl' _ ih ih' => intro u h; cases h with | fn a b c d => exact .fn (by omega) (by omega) (fun j h1 h2 => ih j (by omega) h1 (c j (by omega) h2)) (fun j h1 h2 => ih' j (by omega) h1 (d j (by omega) h2))

/-- One heap may be taken for another. -/
structure RH (σ σ' : Hp) : Prop where
  ob : ∀ o ver' cs', σ' o = .arr ver' cs' → ∃ ver cs, σ o = .arr ver cs ∧ cs'.length = cs.length ∧ ∀ j (h : j < cs.length) (h' : j < cs'.length), RV σ σ' cs[j] cs'[j]
  mo : ∀ o es it, σ' o ≠ .mpo es it
theorem WRel.rv {g σ σ'} {w : World} (hw : WRel g σ w) (h : RH σ σ') : WRel { g with pm := pmX g σ σ' w } σ' w := by
  refine ⟨fun b o v e => ?_, hw.tm, hw.tmf, fun b o v e => ?_, hw.low, hw.B0, hw.tab, hw.bk, fun o ver cs e => ?_, fun o o' v1 v2 c1 c2 e1 e2 hne => ?_, fun o es it e => (h.mo o es it e).elim, fun o o' s1 s2 t1 t2 e1 e2 hne => (h.mo _ _ _ e1).elim⟩
  · simp only [pmX] at e
    cases q : g.pm b o with
    | some x => rw [q] at e; cases e; exact hw.pm _ _ _ q
    | none =>
      rw [q] at e
      simp only at e
      split at e
      · exact e
      · cases e
  · simp only [pmX] at e
    cases q : g.pm b o with
    | some x => rw [q] at e; cases e; exact hw.disj _ _ _ q
    | none =>
      rw [q] at e
      simp only at e
      split at e
      · rename_i ho
        obtain ⟨i, ver, cs, e1, _, rfl, j, hj, rfl⟩ := ho
        exact (hw.ob i ver cs e1).tm j hj
      · cases e
  · obtain ⟨ver1, cs1, e1, e2, e3⟩ := h.ob o ver cs e
    have k := hw.ob o ver1 cs1 e1
    refine ⟨k.low, by rw [e2]; exact k.len, fun j hj => ?_, k.free, fun j hj => ?_, k.tm⟩
    · obtain ⟨v, hv, hr⟩ := k.there j hj
      exact ⟨v, hv, fun hj' => (hr (by omega)).rv hw (e3 j (by omega) hj')⟩
    · show pmX g σ σ' w (g.L o).b ((g.L o).off + j) = none
      simp only [pmX, k.pm j hj]
      rw [if_neg]
      rintro ⟨i, ver2, cs2, f1, f2, f3, j2, f4, f5⟩
      have hne : i ≠ o := fun e' => by subst e'; exact f2 _ _ e
      exact hw.sep i o _ _ _ _ f1 e1 hne f3 j2 j f4 hj f5
  · obtain ⟨_, _, a1, _⟩ := h.ob o _ _ e1
    obtain ⟨_, _, a2, _⟩ := h.ob o' _ _ e2
    exact hw.sep o o' _ _ _ _ a1 a2 hne
/-- What was there at the call's start: let go, or the same object still. -/
def Old (S0 S S' : List Ob) : Prop := ∀ o, hp S0 o = .virgin ∨ hp S' o = .gone ∨ ∃ ver cs cs', hp S o = .arr ver cs ∧ hp S' o = .arr ver cs' ∧ cs'.length = cs.length
/-- What one frame and heap say another says. -/
theorem wk_rv {S0 : List Ob} {fr fr' : Fr} {S S' : List Ob} (h0 : Old S0 S S') (h : RH (hp S) (hp S')) (hf : ∀ t, RV (hp S) (hp S') (Fr.get fr t) (Fr.get fr' t)) : Wk S0 fr S fr' S' := by
  intro g0 n a w hat
  obtain ⟨hd, g, h1, h2, h3⟩ := hat
  refine ⟨hd, { g with pm := pmX g (hp S) (hp S') w }, ⟨⟨fun b o v e => pmX_le b o v (h1.ext.pm b o v e), fun o => ?_⟩, h1.tm, h1.B0, h1.w0⟩, h2.rv h, ?_⟩
  · have k := h1.ext.ob o
    rcases h0 o with e | e | ⟨ver, cs, cs', e1, e2, e3⟩
    · rw [e]; exact trivial
    · rw [e]; cases hp S0 o <;> simp [ObExt]
    · rw [e1] at k
      show ObExt (hp S0 o) (g0.L o) (hp S' o) (g.L o)
      rw [e2]
      cases e : hp S0 o with
      | arr v c => rw [e] at k; simp only [ObExt] at k ⊢; rw [e3]; exact k
      | _ => rw [e] at k; first | exact k | exact trivial | (simp only [ObExt] at k)
  · exact ⟨h3.1, fun t => (h3.2 t).rv h2 (hf t)⟩

/-! ### results frozen -/
theorem noHp_rh (σ : Hp) : RH σ noHp := ⟨fun o ver cs e => (by cases e), fun o es it e => (by cases e)⟩
/-- A call from no heap: its value with what it points to as lists. -/
theorem PureEv_fz {P : Program} {f : FuncId} {args : List AV} {v v' : AV} {σ' : Hp} (h : Ev P f args noHp v σ') (hz : RV σ' noHp v v') : PureEv P f args v' := by
  intro g w vals hw hv
  refine (h g w vals hw hv).mono ?_
  rintro e w' ⟨u, g', rfl, hle, hw', hu⟩
  exact ⟨u, { g' with pm := pmX g' σ' noHp w' }, rfl, ⟨⟨fun b o v e => pmX_le b o v (hle.ext.pm b o v e), fun o => trivial⟩, hle.tm, hle.B0, hle.w0⟩, hw'.rv (noHp_rh σ'), hu.rv hw' hz⟩
/-! ### calls that look -/
theorem WRel.belowK {g σ} {w w' : World} (h : WRel g σ w) (k : Below w.heap.size w w') : WRel g σ w' := by
  have hc : ∀ b o v, w.cell? ⟨b, o, none⟩ = some v → w'.cell? ⟨b, o, none⟩ = some v := fun b o v e => by
    rw [k.cell (lt_of_cell e)]; exact e
  refine ⟨fun b o v e => hc _ _ _ (h.pm b o v e), fun b o v e => hc _ _ _ (h.tm b o v e), fun b o v e => by
    rw [k.frozen (h.tm_lt e)]; exact h.tmf b o v e, h.disj, h.low.trans (k.mono h.B0), Nat.le_trans h.B0 k.size, h.tab, h.bk.same (fun b x e => by rw [k.block b (get_lt e)]; exact e), fun o ver cs e => ?_, h.sep, fun o es it e => (h.mo o es it e).keep (Ext.refl _ _ _) rfl rfl (fun b x e _ => by rw [k.block b (get_lt e)]; exact e), h.ms⟩
  have q := h.ob o ver cs e
  refine ⟨q.low, q.len, fun j hj => ?_, fun j hj => ?_, q.pm, q.tm⟩
  · obtain ⟨v, hv, hr⟩ := q.there j hj
    exact ⟨v, hc _ _ _ hv, hr⟩
  · obtain ⟨v, hv, _⟩ := q.there j hj
    rw [k.frozen (lt_of_cell hv)]
    exact q.free j hj
/-- A call known upon values, here upon objects that read as these; its answer is a truth value. -/
theorem PureEv.look {P : Program} {f : FuncId} {args args' : List AV} {b : Bool} {σ : Hp} (h : PureEv P f args' (.bool b)) (hl : args.length = args'.length) (ha : ∀ j (h1 : j < args.length) (h2 : j < args'.length), RV σ noHp args[j] args'[j]) : Ev P f args σ (.bool b) σ := by
  intro g w vals hw hv
  let gE : Gh := { pm := pmX g σ noHp w, tm := fun _ _ => none, L := g.L, B0 := w.heap.size, w0 := w }
  have hr := hw.rv (noHp_rh σ)
  have hwE : WRel gE noHp w := by
    refine ⟨hr.pm, (fun b o v e => by cases e), (fun b o v e => by cases e), (fun _ _ _ _ => rfl), Below.refl _ _, Nat.le_refl _, fun b p e => ?_, BkOK.refl _, (fun o ver cs e => by simp [noHp] at e), (fun o o' v v' c c' e => by simp [noHp] at e), (fun o es it e => by simp [noHp] at e), (fun o o' es es' it it' e => by simp [noHp] at e)⟩
    obtain ⟨h1, cs, t, fz, h2, h3⟩ := hw.tab b p e
    exact ⟨Nat.lt_of_lt_of_le h1 hw.B0, cs, t, fz, by rw [hw.low.block b h1]; exact h2, h3⟩
  refine (h gE w vals hwE ⟨by rw [hv.1, hl], fun j a b => ?_⟩).mono ?_
  · exact (hv.2 j (by omega) b).rv hw (ha j (by omega) a)
  · rintro e w' ⟨u, g', rfl, hle, hw', hu⟩
    have hlow := hw'.low
    rw [hle.B0, hle.w0] at hlow
    refine ⟨u, g, rfl, Gh.le.refl _ _, hw.belowK hlow, ?_⟩
    cases hu
    exact .bool
end Go.Ab
/- Loops by invariants in the evaluator: a state matched against a pattern, whose unknown numbers are then other ones. -/
namespace Go.Ab
set_option linter.constructorNameAsVariable false
set_option linter.unusedSimpArgs false
set_option linter.unusedVariables false
open Go.RowKit
set_option linter.unusedVariables false
set_option linter.unusedSimpArgs false
def SE.sb (s : Nat → SE) : SE → SE
  | .num n => .num n
  | .var i => s i
  | .bop o k a b => .bop o k (a.sb s) (b.sb s)
  | .cv k a => .cv k (a.sb s)
def Env.sb (ρ : Env) (s : Nat → SE) : Env := ⟨fun i => (s i).val ρ, ρ.t, ρ.φ, ρ.N, ρ.hφ⟩
theorem sb_val {ρ : Env} {s : Nat → SE} : ∀ e : SE, (e.sb s).val ρ = e.val (ρ.sb s)
  | .num n => rfl
  | .var i => rfl
  | .bop o k a b => by simp only [SE.sb, SE.val, sb_val a, sb_val b]
  | .cv k a => by simp only [SE.sb, SE.val, sb_val a]
/-! Values that name no object: the pattern's, of the other numbers, is the value. -/
mutual
def mtC (s : Nat → SE) : XV → XV → Bool
  | .int k n, .int k' n' => keq k k' && ieq n n'
  | .sym k e, .sym k' e' => keq k k' && (e.sb s).eq e'
  | .sym k e, .int k' n' => keq k k' && (e.sb s).eq (.num n')
  | .bool a, .bool b => beqB a b
  | .str a, .str b => leq a b
  | .nilp, .nilp => true
  | .nils, .nils => true
  | .nilf, .nilf => true
  | .nili, .nili => true
  | .sl e n a, .sl e' n' b => beqB e e' && (Nat.beq n n' && mtCs s a b)
  | .slt e n a, .slt e' n' b => beqB e e' && (Nat.beq n n' && mtCs s a b)
  | .agg a, .agg b => mtCs s a b
  | .cptr a f, .cptr b f' => Nat.beq f f' && mtCs s a b
  | .tup a, .tup b => mtCs s a b
  | _, _ => false
def mtCs (s : Nat → SE) : List XV → List XV → Bool
  | [], [] => true
  | x :: xs, y :: ys => mtC s x y && mtCs s xs ys
  | _, _ => false
end
theorem blwL_app {n : Nat} {a b : List AV} (h : blwL n a = true) (k : blwL n b = true) : blwL n (a ++ b) = true := by
  rw [blwL_iff] at *
  intro x hx
  rcases List.mem_append.1 hx with e | e
  · exact h x e
  · exact k x e
section
variable {ρ : Env} {s : Nat → SE}
theorem mtC_ok (ht : blwL 0 ρ.t = true) : ∀ (x y : XV), mtC s x y = true → x.av (ρ.sb s) = y.av ρ ∧ (y.av ρ).blw 0 = true
  | .int k n, y, h => by
    cases y <;> simp only [mtC, Bool.and_eq_true, Bool.false_eq_true] at h
    rw [ieq_eq] at h
    exact ⟨by simp only [XV.av]; rw [keq_eq h.1, show n = _ by simpa using h.2], rfl⟩
  | .sym k e, y, h => by
    cases y <;> simp only [mtC, Bool.and_eq_true, Bool.false_eq_true] at h
    · have := SE.eq_val (ρ := ρ) h.2
      exact ⟨by simp only [XV.av]; rw [keq_eq h.1, ← sb_val, this]; rfl, rfl⟩
    · have := SE.eq_val (ρ := ρ) h.2
      exact ⟨by simp only [XV.av]; rw [keq_eq h.1, ← sb_val, this], rfl⟩
  | .bool a, y, h => by
    cases y <;> simp only [mtC, Bool.false_eq_true] at h
    rw [beqB_eq] at h
    exact ⟨by simp only [XV.av]; rw [show a = _ by simpa using h], rfl⟩
  | .str a, y, h => by
    cases y <;> simp only [mtC, Bool.false_eq_true] at h
    rw [leq_eq] at h
    refine ⟨?_, rfl⟩
    have h' := eq_of_beq h
    simp only [XV.av, strB]; rw [h']
  | .nilp, y, h => by cases y <;> simp only [mtC, Bool.false_eq_true] at h; exact ⟨rfl, rfl⟩
  | .nils, y, h => by cases y <;> simp only [mtC, Bool.false_eq_true] at h; exact ⟨rfl, rfl⟩
  | .nilf, y, h => by cases y <;> simp only [mtC, Bool.false_eq_true] at h; exact ⟨rfl, rfl⟩
  | .nili, y, h => by cases y <;> simp only [mtC, Bool.false_eq_true] at h; exact ⟨rfl, rfl⟩
  | .sl e n a, y, h => by
    cases y <;> simp only [mtC, Bool.and_eq_true, Bool.false_eq_true] at h
    rename_i e' n' b
    rw [beqB_eq] at h
    obtain ⟨h1, h2⟩ := mtCs_ok ht a b h.2.2
    refine ⟨?_, ?_⟩
    · simp only [XV.av, avs_eq]; rw [show e = e' by simpa using h.1, Nat.eq_of_beq_eq_true h.2.1, h1]
    · simp only [XV.av, avs_eq, AV.blw]; exact h2
  | .slt e n a, y, h => by
    cases y <;> simp only [mtC, Bool.and_eq_true, Bool.false_eq_true] at h
    rename_i e' n' b
    rw [beqB_eq] at h
    obtain ⟨h1, h2⟩ := mtCs_ok ht a b h.2.2
    refine ⟨?_, ?_⟩
    · simp only [XV.av, avs_eq]; rw [show e = e' by simpa using h.1, Nat.eq_of_beq_eq_true h.2.1, h1]; rfl
    · simp only [XV.av, avs_eq, AV.blw]; exact blwL_app h2 ht
  | .agg a, y, h => by
    cases y <;> simp only [mtC, Bool.false_eq_true] at h
    rename_i b
    obtain ⟨h1, h2⟩ := mtCs_ok ht a b h
    exact ⟨by simp only [XV.av, avs_eq]; rw [h1], by simp only [XV.av, avs_eq, AV.blw]; exact h2⟩
  | .cptr a f, y, h => by
    cases y <;> simp only [mtC, Bool.and_eq_true, Bool.false_eq_true] at h
    rename_i b f'
    obtain ⟨h1, h2⟩ := mtCs_ok ht a b h.2
    exact ⟨by simp only [XV.av, avs_eq]; rw [h1, Nat.eq_of_beq_eq_true h.1], by simp only [XV.av, avs_eq, AV.blw]; exact h2⟩
  | .tup a, y, h => by
    cases y <;> simp only [mtC, Bool.false_eq_true] at h
    rename_i b
    obtain ⟨h1, h2⟩ := mtCs_ok ht a b h
    exact ⟨by simp only [XV.av, avs_eq]; rw [h1], by simp only [XV.av, avs_eq, AV.blw]; exact h2⟩
  | .ptr _ _ _, y, h => by cases y <;> simp [mtC] at h
  | .ref _ _ _ _ _, y, h => by cases y <;> simp [mtC] at h
  | .lenT _, y, h => by cases y <;> simp [mtC] at h
  | .fn _ _ _, y, h => by cases y <;> simp [mtC] at h
  | .iface _ _, y, h => by cases y <;> simp [mtC] at h
  | .mp _, y, h => by cases y <;> simp [mtC] at h
  | .itr _, y, h => by cases y <;> simp [mtC] at h
  | .lit _, y, h => by cases y <;> simp [mtC] at h
  | .junk, y, h => by cases y <;> simp [mtC] at h
where mtCs_ok (ht : blwL 0 ρ.t = true) : ∀ (xs ys : List XV), mtCs s xs ys = true → xs.map (XV.av (ρ.sb s)) = ys.map (XV.av ρ) ∧ blwL 0 (ys.map (XV.av ρ)) = true
  | [], ys, h => by cases ys <;> simp [mtCs] at h; exact ⟨rfl, rfl⟩
  | x :: xs, ys, h => by
    cases ys <;> simp only [mtCs, Bool.and_eq_true, Bool.false_eq_true] at h
    rename_i y ys
    obtain ⟨a, b⟩ := mtC_ok ht x y h.1
    obtain ⟨c, d⟩ := mtCs_ok ht xs ys h.2
    exact ⟨by simp only [List.map_cons]; rw [a, c], by simp only [List.map_cons, blwL, Bool.and_eq_true]; exact ⟨b, d⟩⟩
end
end Go.Ab
