/- Small operations, structs and slices that are laid out. -/
import Derived.Test.YtiocagilhbomgaaWlA5
namespace Go.Ab
open Go.RowKit
set_option linter.unusedVariables false
set_option linter.unusedSimpArgs false

/-! ### small ones -/
def partOf (sh : Option Nat) (cs : List AV) (off : Nat) (v : AV) : Prop :=
  match sh with
  | none => off < cs.length ∧ v = cs.getD off .junk
  | some n => off + n ≤ cs.length ∧ v = .agg ((cs.drop off).take n)

def VL (pm : Pm) (L : Nat → Loc) (σ : Hp) (cs : List AV) (vs : Array Value) : Prop :=
  vs.size = cs.length ∧ ∀ j (h : j < cs.length) (h' : j < vs.size), VR pm L σ (cs[j]) (vs[j])

theorem VL.mono {pm pm' L L' σ σ'} (e : Ext pm L σ pm' L' σ') {cs vs} (h : VL pm L σ cs vs) : VL pm' L' σ' cs vs := ⟨h.1, fun j a b => (h.2 j a b).mono e⟩

theorem run_part {P : Program} {pm L σ} {t : TypeId} {sh : Option Nat} (ht : eshOf P t = some sh) {cs : List AV} {vs : Array Value} (h : VL pm L σ cs vs) {off : Nat} {v : AV} (hv : partOf sh cs off v) (w : World) :
    ∃ u, (part t vs off).run P w = .ok u w ∧ VR pm L σ v u := by
  obtain ⟨inf, hinf, hsz⟩ := eshOf_info ht
  have hl := h.1
  cases sh with
  | none =>
    obtain ⟨h1, rfl⟩ := hv
    have hlt : off < vs.size := by omega
    exact ⟨vs[off], by simp [part, run_isAgg ht, hlt], by simpa [h1] using h.2 off h1 hlt⟩
  | some n =>
    obtain ⟨h1, rfl⟩ := hv
    simp only [szOf, Option.getD_some] at hsz
    refine ⟨.agg (vs.extract off (off + n)), by simp [part, run_isAgg ht, run_sizeOf hinf, hsz], .agg (by simp; omega) (fun j a b => ?_)⟩
    simp at a b
    simpa using h.2 (off + j) (by omega) (by omega)

theorem sound_fld {P g σ w s fi x u v fields f sh} (hw : WRel g σ w) (hu : P.underlying s = some (.struct fields)) (hf : fields[fi]? = some f) (hs : eshOf P f.type = some sh)
    (hx : VR g.pm g.L σ x u) (h : match x with | .agg cs => partOf sh cs f.offset v | _ => False) : Goes P g σ w (do pure (.value (← Instr.field s u fi))) v none := by
  split at h
  · cases hx with
    | agg hl hv =>
      obtain ⟨r, h1, h2⟩ := run_part hs ⟨hl, hv⟩ h w
      exact Goes.val hw (u := r) (by simp [Instr.field, run_underlying hu, hf, asAgg, h1]) h2
  · exact h.elim

def StIdxS (x i v : AV) : Prop :=
  match x, i with
  | .str s, .int _ n => 0 ≤ n ∧ n < s.size ∧ v = .int .u8 (s[n.toNat]?.getD 0).toNat
  | _, _ => False

def StIdxA (len : Nat) (sh : Option Nat) (x i v : AV) : Prop :=
  match x, i with
  | .agg cs, .int _ n => 0 ≤ n ∧ n < len ∧ partOf sh cs (n.toNat * szOf sh) v
  | _, _ => False

theorem sound_idx_str {P g σ w t x i ux ui v} (hw : WRel g σ w) (ht : P.underlying t = some .string) (hx : VR g.pm g.L σ x ux) (hi : VR g.pm g.L σ i ui)
    (h : StIdxS x i v) : Goes P g σ w (do pure (.value (← Instr.index t ux ui))) v none := by
  unfold StIdxS at h
  split at h
  · rename_i s k n
    obtain ⟨h0, h1, rfl⟩ := h
    cases hx; cases hi
    have hlt : n.toNat < s.size := by omega
    refine Goes.val hw (u := .int .u8 (s[n.toNat]?.getD 0).toNat) ?_ .int
    have e : s[n.toNat]? = some (s[n.toNat]'hlt) := by simp [hlt]
    simp [Instr.index, asIntOf, run_underlying ht, h0, e]
  · exact h.elim

theorem sound_idx_arr {P g σ w t x i ux ui v len elem sh} (hw : WRel g σ w) (ht : P.underlying t = some (.array len elem)) (he : eshOf P elem = some sh) (hx : VR g.pm g.L σ x ux) (hi : VR g.pm g.L σ i ui)
    (h : StIdxA len sh x i v) : Goes P g σ w (do pure (.value (← Instr.index t ux ui))) v none := by
  obtain ⟨inf, hinf, hsz⟩ := eshOf_info he
  unfold StIdxA at h
  split at h
  · rename_i cs k n
    obtain ⟨h0, h1, h2⟩ := h
    cases hi
    cases hx with
    | agg hl hv =>
      obtain ⟨r, r1, r2⟩ := run_part he ⟨hl, hv⟩ h2 w
      exact Goes.val hw (u := r) (by simp [Instr.index, asIntOf, run_underlying ht, h0, h1, run_sizeOf hinf, hsz, r1]) r2
  · exact h.elim

def StExt (i : Nat) (x v : AV) : Prop := match x with | .tup vs => i < vs.length ∧ v = vs.getD i .junk | _ => False

theorem sound_ext {P g σ w x u i v} (hw : WRel g σ w) (hx : VR g.pm g.L σ x u) (h : StExt i x v) :
    Goes P g σ w (do pure (.value (← Instr.extract u i))) v none := by
  unfold StExt at h
  split at h
  · obtain ⟨h1, rfl⟩ := h
    cases hx with
    | tup hl hv =>
      rename_i us
      have hlt : i < us.size := by omega
      exact Goes.val hw (u := us[i]) (by simp [Instr.extract, hlt]) (by simpa [h1] using hv i h1 hlt)
  · exact h.elim

inductive LenC where
  | str | sl | arr (n : Nat) | map
  deriving DecidableEq

def StLen (c : LenC) (x v : AV) : Prop :=
  match c, x with
  | .str, .str s => v = .int .i64 s.size
  | .sl, .nils => v = .int .i64 0
  | .sl, .sl _ _ xs => v = .int .i64 xs.length
  | .sl, .ref _ _ _ n _ => v = .int .i64 n
  | .arr n, _ => v = .int .i64 n
  | _, _ => False

def LenC.fits (P : Program) (t : TypeId) : LenC → Prop
  | .str => P.underlying t = some .string
  | .sl => ∃ e, P.underlying t = some (.slice e)
  | .arr n => (∃ e, P.underlying t = some (.array n e)) ∨ ∃ a e, P.underlying t = some (.pointer a) ∧ P.underlying a = some (.array n e)
  | .map => False

theorem sound_len {P g σ w c t ty x u v} (hw : WRel g σ w) (hc : LenC.fits P t c) (hx : VR g.pm g.L σ x u) (h : StLen c x v) :
    Goes P g σ w (do pure (.value (← Builtin.len_ #[t] ty #[u]))) v none := by
  have key : ∀ n : Int, v = .int .i64 n → (Builtin.len_ #[t] ty #[u]).run P w = .ok (.int .i64 n) w → Goes P g σ w (do pure (.value (← Builtin.len_ #[t] ty #[u]))) v none := fun n e hr => by
    subst e; exact Goes.val hw hr .int
  unfold StLen at h
  split at h
  · cases hx; exact key _ h (by simp [Builtin.len_, run_underlying hc, goInt])
  · obtain ⟨e, hc⟩ := hc
    cases hx; exact key _ h (by simp [Builtin.len_, run_underlying hc, goInt])
  · obtain ⟨e, hc⟩ := hc
    cases hx <;> first | exact key _ h (by simp [Builtin.len_, run_underlying hc, goInt]) | exact key 0 h (by simp [Builtin.len_, run_underlying hc, goInt])
  · obtain ⟨e, hc⟩ := hc
    cases hx
    · exact key _ h (by simp [Builtin.len_, run_underlying hc, goInt])
    · exact key 0 h (by simp [Builtin.len_, run_underlying hc, goInt])
  · rcases hc with ⟨e, hc⟩ | ⟨a, e, hc, hc'⟩
    · refine key _ h ?_
      cases u <;> simp [Builtin.len_, run_underlying hc, goInt]
    · refine key _ h ?_
      cases u <;> simp [Builtin.len_, run_underlying hc, run_underlying hc', goInt]
  · exact h.elim

def StSls (lo hi : Option AV) (x v : AV) : Prop := match x with | .str s => ∃ l h, loN lo = some l ∧ hiN s.size hi = some h ∧ l ≤ h ∧ h ≤ s.size ∧ v = .str (s.extract l h) | _ => False

theorem sound_sls {P g σ w t x ux lo hi lo' hi' v} (hw : WRel g σ w) (ht : P.underlying t = some .string)
    (hx : VR g.pm g.L σ x ux) (hlo : OVR g σ lo lo') (hhi : OVR g σ hi hi')
    (h : StSls lo hi x v) :
    Goes P g σ w (do pure (.value (← Instr.sliceAt t ux lo' hi' none))) v none := by
  unfold StSls at h
  split at h
  · rename_i s
    obtain ⟨l, h, e1, e2, h1, h2, rfl⟩ := h
    cases hx
    have hb := run_bounds (P := P) false hlo hhi e1 e2 h1 h2 (Nat.le_refl _) w
    exact Goes.val hw (u := .string (s.extract l h)) (by simp [Instr.sliceAt, Instr.slice, run_underlying ht, hb]) .str
  · exact h.elim

theorem sound_mki {P g σ w t x u v} (hw : WRel g σ w) (ht : P.concrete t = true) (hx : VR g.pm g.L σ x u) (h : v = .iface t x) :
    Goes P g σ w (do pure (.value (← Instr.makeInterface t u))) v none := by
  subst h
  exact Goes.val hw (run_makeInterface w t u ht) (.iface hx)

/-! ### structs and slices that are laid out -/
theorem VL.set {pm L σ cs vs x u} (h : VL pm L σ cs vs) (hx : VR pm L σ x u) (i : Nat) : VL pm L σ (cs.set i x) (vs.setIfInBounds i u) := by
  refine ⟨by simpa using h.1, fun j a b => ?_⟩
  simp at a b
  by_cases hij : i = j
  · subst hij; simpa using hx
  · rw [List.getElem_set_ne hij, Array.getElem_setIfInBounds_ne (by simpa using b) hij]
    exact h.2 j a b

theorem VL.splice {pm L σ} : ∀ (xs : List AV) (us : List Value) (off : Nat) {cs vs} (_ : VL pm L σ cs vs), us.length = xs.length → (∀ j (a : j < xs.length) (b : j < us.length), VR pm L σ (xs[j]) (us[j])) → ∀ k,
    VL pm L σ (Go.Ab.splice cs (off + k) xs) ((us.zipIdx k).foldl (fun cs (c, j) => cs.setIfInBounds (off + j) c) vs)
  | [], [], _, _, _, h, _, _, _ => by simpa [Go.Ab.splice] using h
  | x :: xs, u :: us, off, cs, vs, h, hl, hv, k => by
    simp only [Go.Ab.splice, List.zipIdx_cons, List.foldl_cons]
    exact VL.splice xs us off (h.set (hv 0 (by simp) (by simp)) _) (by simpa using hl) (fun j a b => hv (j + 1) (by simpa using a) (by simpa using b)) (k + 1)
  | [], _ :: _, _, _, _, _, hl, _, _ => by simp at hl
  | _ :: _, [], _, _, _, _, hl, _, _ => by simp at hl

def AV.nj : AV → Bool
  | .junk => false
  | _ => true

/-- The parts of a struct or a slice, laid into its zero cells: place, size, value. -/
def fillA (cs : List AV) : List (Nat × Nat × AV) → Option (List AV)
  | [] => some cs
  | (off, size, x) :: r => if x.nj && x.cells.length == size && decide (off + size ≤ cs.length) then fillA (splice cs off x.cells) r else none

theorem run_fill {pm L σ} (place : Nat → Option (Nat × Nat)) : ∀ (ps : List (Nat × Nat × AV)) (qs : List (Nat × Value)) {cs : List AV} {vs : Array Value} {cs' : List AV},
    VL pm L σ cs vs → ps.length = qs.length → (∀ j (a : j < ps.length) (b : j < qs.length), place (qs[j]).1 = some ((ps[j]).1, (ps[j]).2.1) ∧ VR pm L σ (ps[j]).2.2 (qs[j]).2) →
    fillA cs ps = some cs' → ∃ vs', Instr.fill place vs qs = some vs' ∧ VL pm L σ cs' vs'
  | [], [], cs, vs, cs', h, _, _, e => by simp [fillA] at e; subst e; exact ⟨vs, rfl, h⟩
  | (off, size, x) :: ps, (i, u) :: qs, cs, vs, cs', h, hl, hv, e => by
    simp only [fillA] at e
    split at e
    · rename_i hc
      simp only [Bool.and_eq_true, beq_iff_eq, decide_eq_true_eq] at hc
      obtain ⟨⟨hnj, hsz⟩, hoff⟩ := hc
      obtain ⟨hp, hx⟩ := hv 0 (by simp) (by simp)
      simp at hp hx
      obtain ⟨c1, c2⟩ := hx.cells (by rintro rfl; simp [AV.nj] at hnj)
      have hs := VL.splice x.cells u.cells.toList off h (by simpa using c1) (fun j a b => by simpa using c2 j a (by simpa using b)) 0
      have ih := run_fill place ps qs hs (by simpa using hl) (fun j a b => hv (j + 1) (by simpa using a) (by simpa using b)) e
      obtain ⟨vs', e1, e2⟩ := ih
      refine ⟨vs', ?_, e2⟩
      simp only [Instr.fill, hp]
      rw [if_neg]
      · rw [← e1]
        congr 1
        rw [← Array.foldl_toList]
        simp [Array.toList_zipIdx]
      · have := h.1
        simp
        omega
    · cases e
  | [], _ :: _, _, _, _, _, hl, _, _ => by simp at hl
  | _ :: _, [], _, _, _, _, hl, _, _ => by simp at hl

/-- Flat cells, cut into elements. -/
def chunk (n : Nat) : Nat → List AV → List AV
  | 0, _ => []
  | k + 1, cs => .agg (cs.take n) :: chunk n k (cs.drop n)

def elemsOf (esh : Option Nat) (k : Nat) (cs : List AV) : List AV :=
  match esh with
  | none => cs.take k
  | some n => chunk n k cs

theorem chunk_length (n : Nat) : ∀ (k : Nat) (cs : List AV), (chunk n k cs).length = k
  | 0, _ => rfl
  | k + 1, cs => by simp [chunk, chunk_length n k]

theorem chunk_get (n : Nat) : ∀ (k : Nat) (cs : List AV) (i : Nat) (h : i < (chunk n k cs).length), (chunk n k cs)[i] = .agg ((cs.drop (i * n)).take n)
  | 0, _, i, h => by simp [chunk] at h
  | k + 1, cs, 0, h => by simp [chunk]
  | k + 1, cs, i + 1, h => by
    simp only [chunk, List.getElem_cons_succ]
    rw [chunk_get n k (cs.drop n) i (by simpa [chunk] using h), List.drop_drop, Nat.add_mul, Nat.one_mul, Nat.add_comm]

theorem elemsOf_length {esh k} {cs : List AV} (h : k * szOf esh ≤ cs.length) : (elemsOf esh k cs).length = k := by
  cases esh with
  | none => simp [elemsOf, szOf] at *; omega
  | some n => simp [elemsOf, chunk_length]

theorem AV.cells_one {x : AV} (h : x.one = true) : x.cells = [x] := by cases x <;> simp_all [AV.one, AV.cells]

/-- An element's cells are a piece of the flat ones. -/
theorem elemsOf_cells {esh k} {cs : List AV} (h : k * szOf esh ≤ cs.length) (h1 : cs.all AV.one = true) (i : Nat) (hi : i < (elemsOf esh k cs).length) :
    ((elemsOf esh k cs)[i]).cells = (cs.drop (i * szOf esh)).take (szOf esh) := by
  cases esh with
  | none =>
    have hi' := hi
    simp only [elemsOf, List.length_take] at hi'
    have hlt : i < cs.length := by omega
    simp only [elemsOf, szOf, Option.getD_none, Nat.mul_one]
    rw [AV.cells_one (List.all_eq_true.1 h1 _ (by simp))]
    rw [List.take_one, List.head?_drop]
    simp [hlt]
  | some n =>
    simp only [elemsOf, szOf, Option.getD_some] at *
    rw [chunk_get]; rfl

/-- Cells that are told for good read as a slice of elements. -/
theorem VR.told {pm L σ} {esh k cap} {cs : List AV} {b o : Nat} {us : Nat → Value} {ex : Bool} (h : k * szOf esh ≤ cs.length) (h1 : cs.all AV.one = true)
    (hp : ∀ j, j < k * szOf esh → pm b (o + j) = some (us j)) (hv : ∀ j (hj : j < cs.length), j < k * szOf esh → VR pm L σ (cs[j]) (us j)) (hc : k ≤ cap) (he : ex = true → cap = k) :
    VR pm L σ (.sl ex (szOf esh) (elemsOf esh k cs)) (.slice (some ⟨b, o, none⟩) k cap) := by
  have hl := elemsOf_length (esh := esh) (k := k) (cs := cs) h
  have hcells := elemsOf_cells (esh := esh) (k := k) (cs := cs) h h1
  have hle : ∀ i, i < k → i * szOf esh + szOf esh ≤ k * szOf esh := fun i hi => by
    rw [← Nat.succ_mul]; exact Nat.mul_le_mul_right _ hi
  have key := VR.sl (pm := pm) (L := L) (σ := σ) (ex := ex) (sz := szOf esh) (xs := elemsOf esh k cs) (b := b) (o := o) (cap := cap) (fun i j => us (i * szOf esh + j)) (by omega) (by intro e; rw [he e, hl]) (fun i hi => by
      rw [hcells i hi]; have := hle i (by omega); simp; omega) (fun i j hi hj => by
      have := hle i (by omega)
      have := hp (i * szOf esh + j) (by omega)
      rwa [← Nat.add_assoc] at this) (fun i hi j hj => by
      have := hle i (by omega)
      have hj' := hj
      rw [hcells i hi] at hj'
      simp at hj'
      have := hv (i * szOf esh + j) (by omega) (by omega)
      simpa [hcells i hi] using this)
  rwa [hl] at key
end Go.Ab
