/- append and copy. -/
import Derived.Test.YtiocagilhbomgaaWlA7
namespace Go.Ab
open Go.RowKit
set_option linter.unusedVariables false
set_option linter.unusedSimpArgs false

def strCells (s : ByteArray) : List AV := s.data.toList.map fun b => .int .u8 b.toNat

/-- The flat cells that an operand of append or copy hands over: how many elements, the cells, which object is read. -/
def Src (esh : Option Nat) (x : AV) (σ : Hp) (n : Nat) (cells : List AV) (rd : List Nat) : Prop :=
  match x with
  | .nils | .snn _ => n = 0 ∧ cells = [] ∧ rd = []
  | .sl _ sz xs => sz = szOf esh ∧ n = xs.length ∧ cells = xs.flatMap AV.cells ∧ rd = []
  | .ref o ver off m e => e = esh ∧ n = m ∧ rd = [o] ∧ ∃ cs, σ o = .arr ver cs ∧ cells = (cs.drop off).take (m * szOf esh)
  | .str s => esh = none ∧ n = s.size ∧ cells = strCells s ∧ rd = []
  | _ => False

theorem flat_get (sz : Nat) : ∀ (xs : List AV), (∀ i (h : i < xs.length), (xs[i]).cells.length = sz) → (xs.flatMap AV.cells).length = xs.length * sz ∧
    ∀ i (hi : i < xs.length) j (hj : j < (xs[i]).cells.length) (h : i * sz + j < (xs.flatMap AV.cells).length), (xs.flatMap AV.cells)[i * sz + j] = (xs[i]).cells[j]
  | [], _ => by simp
  | x :: xs, hz => by
    have h0 := hz 0 (by simp)
    simp at h0
    obtain ⟨i1, i2⟩ := flat_get sz xs (fun i h => by have := hz (i + 1) (by simpa using h); simpa using this)
    refine ⟨by simp [h0, i1, Nat.add_mul]; omega, fun i hi j hj h => ?_⟩
    cases i with
    | zero =>
      simp at hj
      simp [hj]
    | succ i =>
      simp at hj
      simp only [List.flatMap_cons, List.getElem_cons_succ]
      rw [List.getElem_append_right (by rw [h0, Nat.add_mul]; omega)]
      have := i2 i (by simpa using hi) j hj (by rw [i1]; have := hz (i+1) hi; simp at this; have : i * sz + sz ≤ xs.length * sz := by rw [← Nat.succ_mul]; exact Nat.mul_le_mul_right _ (by simp at hi; omega)
                                                omega)
      rw [← this]
      congr 1
      rw [h0, Nat.add_mul]; omega

theorem run_firstCells {P : Program} {g σ w esh x ux n cells rd} (hw : WRel g σ w) (hx : VR g.pm g.L σ x ux) (h : Src esh x σ n cells rd) :
    (Builtin.lenOf ux).run P w = .ok n w ∧ cells.length = n * szOf esh ∧ ∃ us : List Value, (Builtin.firstCells (szOf esh) n ux).run P w = .ok us.toArray w ∧ us.length = cells.length ∧
      ∀ j (a : j < cells.length) (b : j < us.length), VR g.pm g.L σ (cells[j]) (us[j]) := by
  unfold Src at h
  split at h
  · obtain ⟨rfl, rfl, _⟩ := h
    cases hx
    exact ⟨by simp [Builtin.lenOf], by simp, [], by simp [Builtin.firstCells], rfl, by simp⟩
  · obtain ⟨rfl, rfl, _⟩ := h
    cases hx <;> exact ⟨by simp [Builtin.lenOf], by simp, [], by simp [Builtin.firstCells, loadCells, loadCellsFrom], rfl, by simp⟩
  · rename_i ex sz xs
    obtain ⟨rfl, rfl, rfl, _⟩ := h
    cases hx with
    | slnil => exact ⟨by simp [Builtin.lenOf], by simp, [], by simp [Builtin.firstCells], rfl, by simp⟩
    | slz => exact ⟨by simp [Builtin.lenOf], by simp, [], by simp [Builtin.firstCells, loadCells, loadCellsFrom], rfl, by simp⟩
    | sl us hc hex hz hp hv =>
      rename_i b o cap
      obtain ⟨f1, f2⟩ := flat_get (szOf esh) xs hz
      have hidx : ∀ j, j < xs.length * szOf esh → 0 < szOf esh := fun j hj => by
        rcases Nat.eq_zero_or_pos (szOf esh) with h | h
        · simp [h] at hj
        · exact h
      have hdm : ∀ j, j < xs.length * szOf esh → j / szOf esh < xs.length ∧ j % szOf esh < szOf esh ∧ j / szOf esh * szOf esh + j % szOf esh = j := fun j hj =>
        ⟨Nat.div_lt_of_lt_mul (by rw [Nat.mul_comm]; exact hj), Nat.mod_lt _ (hidx j hj), Nat.div_add_mod' _ _⟩
      refine ⟨by simp [Builtin.lenOf], f1, (List.range (xs.length * szOf esh)).map (fun j => us (j / szOf esh) (j % szOf esh)), ?_, by simp [f1], fun j a b => ?_⟩
      · exact run_firstCells_some w (szOf esh) xs.length ⟨b, o, none⟩ xs.length cap _ (by simp) (fun j v hj => by
          rw [List.getElem?_map] at hj
          simp only [Option.map_eq_some_iff] at hj
          obtain ⟨j', hj', rfl⟩ := hj
          have hlt : j < xs.length * szOf esh := by
            have := List.getElem?_eq_some_iff.1 hj'
            simpa using this.1
          have : j' = j := by
            have := List.getElem?_eq_some_iff.1 hj'
            obtain ⟨_, e⟩ := this
            simpa using e.symm
          subst this
          obtain ⟨d1, d2, d3⟩ := hdm j' hlt
          have := hw.pm _ _ _ (hp (j' / szOf esh) (j' % szOf esh) d1 d2)
          rw [Addr.add_lit, ← this]
          congr 2
          omega)
      · simp at b
        obtain ⟨d1, d2, d3⟩ := hdm j b
        have e1 := hv (j / szOf esh) d1 (j % szOf esh) (by rw [hz]; exact d2)
        have e2 := f2 (j / szOf esh) d1 (j % szOf esh) (by rw [hz]; exact d2) (by rw [d3]; exact a)
        simp only [List.getElem_map, List.getElem_range]
        rw [← e2] at e1
        simpa only [d3] using e1
  · rename_i o ver off m e
    obtain ⟨rfl, rfl, _, cs, hσ, rfl⟩ := h
    cases hx with
    | @refnil _ _ _ _ a _ =>
      exact ⟨by simp [Builtin.lenOf], by simp, [], by cases a <;> simp [Builtin.firstCells, loadCells, loadCellsFrom], by simp, fun j a => by simp at a⟩
    | ref hn hs hr =>
      rename_i a cap
      simp only [RefOK, hσ] at hr
      obtain ⟨_, rfl, r2, r3, r4⟩ : _ ∧ _ := ⟨trivial, hr.2 trivial⟩
      have k := hw.ob o ver cs hσ
      have hch : ∀ j, ∃ v, j < cs.length → w.cell? ⟨(g.L o).b, (g.L o).off + j, none⟩ = some v ∧ ∀ hj : j < cs.length, VR g.pm g.L σ (cs[j]) v := fun j => by
        by_cases hj : j < cs.length
        · obtain ⟨v, a, b⟩ := k.there j (by have := k.len; omega); exact ⟨v, fun _ => ⟨a, b⟩⟩
        · exact ⟨undef, fun h => absurd h hj⟩
      have hus := fun j => Classical.choose_spec (hch j)
      refine ⟨by simp [Builtin.lenOf], by simp; omega, (List.range (n * szOf e)).map (fun j => Classical.choose (hch (off + j))), ?_, by simp; omega, fun j a b => ?_⟩
      · exact run_firstCells_some w (szOf e) n _ n cap _ (by simp) (fun j v hj => by
          rw [List.getElem?_map] at hj
          simp only [Option.map_eq_some_iff] at hj
          obtain ⟨j', hj', rfl⟩ := hj
          obtain ⟨hlt, e2⟩ := List.getElem?_eq_some_iff.1 hj'
          simp at hlt e2
          subst e2
          have := (hus (off + j) (by omega)).1
          rw [Addr.add_lit, ← this]
          congr 2
          omega)
      · simp at a b
        have := (hus (off + j) (by omega)).2 (by omega)
        simpa using this
  · rename_i s
    obtain ⟨rfl, rfl, rfl, _⟩ := h
    cases hx
    refine ⟨by simp [Builtin.lenOf], by simp [strCells, szOf], s.data.toList.map (fun b => .int .u8 b.toNat), ?_, by simp [strCells], fun j a b => ?_⟩
    · have : s.extract 0 s.size = s := by
        apply ByteArray.ext
        simp
      simp only [Builtin.firstCells, this, Sem.run_pure]
      congr 1
      apply Array.ext' 
      simp
    · simp only [strCells, List.getElem_map]
      exact .int
  · exact h.elim

/-- Cells that nobody has are written over. -/
theorem WRel.setCells_free {g σ} {b : Nat} : ∀ (vs : List Value) (o : Nat) {w : World} (_ : WRel g σ w), g.B0 ≤ b →
    (∀ j, j < vs.length → g.pm b (o + j) = none ∧ g.tm b (o + j) = none ∧ (∃ v, w.cell? ⟨b, o + j, none⟩ = some v) ∧
      ∀ o' ver' cs', σ o' = .arr ver' cs' → ∀ j', j' < (g.L o').cap → ¬ ((g.L o').b = b ∧ (g.L o').off + j' = o + j)) →
    WRel g σ (w.setCells b o vs)
  | [], _, _, hw, _, _ => hw
  | v :: vs, o, w, hw, hB, h => by
    obtain ⟨h1, h2, ⟨u, h3⟩, h4⟩ := h 0 (by simp)
    simp only [Nat.add_zero] at h1 h2 h3 h4
    have hcell := fun b' o' => cell?_setCell_iff w b o v b' o' h3
    have hw' : WRel g σ (w.setCell ⟨b, o, none⟩ v) := by
      refine ⟨fun b' o' v' e => ?_, fun b' o' v' e => ?_, fun b' o' v' e => by rw [World.frozen?_setCell]; exact hw.tmf _ _ _ e, hw.disj, hw.low.setCell (p := ⟨b, o, none⟩) hB v, by simpa using hw.B0, fun i ver cs e => ?_, hw.sep⟩
      · rw [hcell, if_neg]
        · exact hw.pm _ _ _ e
        · rintro ⟨rfl, rfl⟩; rw [h1] at e; cases e
      · rw [hcell, if_neg]
        · exact hw.tm _ _ _ e
        · rintro ⟨rfl, rfl⟩; rw [h2] at e; cases e
      · have k := hw.ob i ver cs e
        refine ⟨k.low, k.len, fun j hj => ?_, fun j hj => by rw [World.frozen?_setCell]; exact k.free j hj, k.pm, k.tm⟩
        obtain ⟨u', hu', hr⟩ := k.there j hj
        refine ⟨u', ?_, hr⟩
        rw [hcell, if_neg]
        · exact hu'
        · exact h4 i _ _ e j hj
    rw [World.setCells]
    refine WRel.setCells_free vs (o + 1) hw' hB (fun j hj => ?_)
    obtain ⟨a1, a2, ⟨u', a3⟩, a4⟩ := h (j + 1) (by simpa using hj)
    rw [show o + (j + 1) = o + 1 + j by omega] at a1 a2 a3 a4
    refine ⟨a1, a2, ⟨u', ?_⟩, a4⟩
    rw [hcell, if_neg (by omega)]
    exact a3

set_option maxHeartbeats 1000000 in
theorem run_append_fits {P : Program} {t tx ty elem : TypeId} {esh : Option Nat} {d : TypeDesc} {n sLen sCap : Nat} {base : Option Addr} {ux : Value} {us : List Value} {w : World}
    (ht : P.underlying t = some (.slice elem)) (htx : P.underlying tx = some d) (hd : (∃ e', d = .slice e') ∨ d = .string) (he : eshOf P elem = some esh)
    (hlen : (Builtin.lenOf ux).run P w = .ok n w) (hf : (Builtin.firstCells (szOf esh) n ux).run P w = .ok us.toArray w)
    (hroom : sLen + n ≤ sCap) {w' : World}
    (hst : (match base with | some a => storeCells (a.add (sLen * szOf esh)) us | none => pure () : Sem Unit).run P w = .ok () w') :
    (Builtin.append_ #[t, tx] ty #[.slice base sLen sCap, ux]).run P w = .ok (.slice base (sLen + n) sCap) w' := by
  obtain ⟨inf, hi, hsz⟩ := eshOf_info he
  have h1 := run_underlying ht w
  have h2 := run_underlying htx w
  have h3 := run_sizeOf (P := P) hi w
  rw [hsz] at h3
  cases base with
  | none =>
    simp only [Sem.run_pure, Result.ok.injEq, true_and] at hst
    subst hst
    rcases hd with ⟨e', rfl⟩ | rfl <;> simp [Builtin.append_, h1, h2, h3, hlen, hroom, hf]
  | some a =>
    simp only at hst
    rcases hd with ⟨e', rfl⟩ | rfl <;> simp [Builtin.append_, h1, h2, h3, hlen, hroom, hf, hst]

set_option maxHeartbeats 1000000 in
theorem run_append_grows {P : Program} {t tx ty elem : TypeId} {esh : Option Nat} {d : TypeDesc} {n sLen sCap : Nat} {base : Option Addr} {ux : Value} {us olds : List Value} {w : World} {z : Value} {inf : TypeInfo}
    (ht : P.underlying t = some (.slice elem)) (htx : P.underlying tx = some d) (hd : (∃ e', d = .slice e') ∨ d = .string) (he : eshOf P elem = some esh) (hi : P.info? elem = some inf) (hz0 : inf.zero = some z)
    (hlen : (Builtin.lenOf ux).run P w = .ok n w) (hf : (Builtin.firstCells (szOf esh) n ux).run P w.drew = .ok us.toArray w.drew)
    (hfo : (Builtin.firstCells (szOf esh) sLen (.slice base sLen sCap)).run P w.drew = .ok olds.toArray w.drew)
    (hroom : sCap < sLen + n) (hbytes : (sLen + n) * inf.bytes ≤ 140737488355328) (h63 : sLen + n ≤ 9223372036854775807) :
    (Builtin.append_ #[t, tx] ty #[.slice base sLen sCap, ux]).run P w =
      .ok (.slice (some ⟨w.heap.size, 0, none⟩) (sLen + n) (grownCap w (sLen + n) sCap elem))
        (w.drew.alloc (.cells ((olds ++ us).toArray ++ Builtin.zeroCells z.cells (grownCap w (sLen + n) sCap elem - (sLen + n))) elem)) := by
  obtain ⟨inf', hi', hsz⟩ := eshOf_info he
  rw [hi] at hi'; cases hi'
  have hn : ¬ (sLen + n ≤ sCap) := by omega
  have h63' : ¬ (9223372036854775807 < ((sLen : Int) + (n : Int))) := by omega
  have h48 : Builtin.nextslicecap (sLen + n) sCap * inf.bytes ≤ 281474976710656 := growslice_fits hroom hbytes
  have h48' : ¬ (281474976710656 < Builtin.nextslicecap (sLen + n) sCap * inf.bytes) := by omega
  have h1 := run_underlying ht w
  have h2 := run_underlying htx w
  have h3 := run_sizeOf (P := P) hi w
  rw [hsz] at h3
  have e1 : ∀ n', olds.toArray ++ (us.toArray ++ Builtin.zeroCells z.cells n') = (olds ++ us).toArray ++ Builtin.zeroCells z.cells n' := fun n' => by
    apply Array.ext'; simp
  rcases hd with ⟨e', rfl⟩ | rfl <;> simp [Builtin.append_, h1, h2, h3, hlen, hn, h63', h48', typeInfo, hi, zeroValue, hz0, Question.forced, hf, hfo, newRow, grownCap, e1]
end Go.Ab
