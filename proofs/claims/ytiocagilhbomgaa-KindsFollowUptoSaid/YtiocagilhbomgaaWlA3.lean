/- Operations with their types resolved (ROp), what each does to abstract values (St), and that the model's operation does just that: memory. -/
import Derived.Test.YtiocagilhbomgaaWlA2
namespace Go.Ab
open Go.RowKit
set_option linter.unusedVariables false
set_option linter.unusedSimpArgs false

inductive Opd where
  | t (i : Nat)
  | v (x : AV)
  deriving Inhabited

abbrev Fm := Nat → AV

def ev (fr : Fm) : Opd → AV
  | .t i => fr i
  | .v x => x

structure FRel (g : Gh) (σ : Hp) (n : Nat) (fr : Fm) (a : Act) : Prop where
  size : a.tmps.size = n
  get : ∀ t, VR g.pm g.L σ (fr t) (a.tmps.getD t undef)

theorem FRel.mono {g g' σ σ' n fr a} (h : FRel g σ n fr a) (k : g.le σ g' σ') : FRel g' σ' n fr a :=
  ⟨h.size, fun t => (h.get t).mono k.ext⟩

theorem FRel.put {g σ n fr a d v u} (h : FRel g σ n fr a) (hd : d < n) (hv : VR g.pm g.L σ v u) : FRel g σ n (upd fr d v) (a.put (some d) u) := by
  refine ⟨by simpa [Act.put] using h.size, fun t => ?_⟩
  have hs := h.size
  simp only [Act.put]
  by_cases e : t = d
  · subst e; simpa [Array.getD, hs, hd] using hv
  · have := h.get t
    rw [upd_ne _ _ e]
    simp only [Array.getD_eq_getD_getElem?, Array.getElem?_setIfInBounds] at this ⊢
    rwa [if_neg (fun h => e h.symm)]

/-- Constants. -/
def ofLit1 : Value → Option AV
  | .int k n => some (.int k n)
  | .bool b => some (.bool b)
  | .string s => some (.str s)
  | .pointer none => some .nilp
  | .slice none 0 0 => some .nils
  | .map none => some .nilm
  | .nilFunc => some .nilf
  | .nilIface => some .nili
  | _ => none
def ofLits : List Value → Option (List AV)
  | [] => some []
  | v :: r => match ofLit1 v, ofLits r with
    | some x, some xs => some (x :: xs)
    | _, _ => none
def ofLit : Value → Option AV
  | .agg cs => (ofLits cs.toList).map .agg
  | .tuple vs => if vs.size = 0 then some (.tup []) else none
  | v => ofLit1 v

theorem ofLit1_VR {pm L σ} {v : Value} {x : AV} (h : ofLit1 v = some x) : VR pm L σ x v := by
  unfold ofLit1 at h
  split at h <;> cases h <;> constructor

theorem ofLits_VR {pm L σ} : ∀ {vs : List Value} {xs : List AV}, ofLits vs = some xs → vs.length = xs.length ∧ ∀ j (h : j < xs.length) (h' : j < vs.length), VR pm L σ (xs[j]) (vs[j])
  | [], xs, h => by simp [ofLits] at h; subst h; simp
  | v :: r, xs, h => by
    simp only [ofLits] at h
    split at h
    · rename_i x ys h1 h2
      cases h
      obtain ⟨i1, i2⟩ := ofLits_VR (pm := pm) (L := L) (σ := σ) h2
      refine ⟨by simp [i1], fun j hj hj' => ?_⟩
      cases j with
      | zero => exact ofLit1_VR h1
      | succ j => exact i2 j (by simpa using hj) (by simpa using hj')
    · cases h

theorem ofLit_VR {pm L σ} {v : Value} {x : AV} (h : ofLit v = some x) : VR pm L σ x v := by
  unfold ofLit at h
  split at h
  · rename_i cs
    simp only [Option.map_eq_some_iff] at h
    obtain ⟨xs, h1, rfl⟩ := h
    obtain ⟨h2, h3⟩ := ofLits_VR (pm := pm) (L := L) (σ := σ) h1
    refine .agg (by simpa using h2) (fun j h h' => ?_)
    have := h3 j h (by simpa using h')
    simpa using this
  · split at h
    · rename_i hh; cases h; exact .tup (by simpa only [List.length_nil] using hh) (by simp)
    · cases h
  · exact ofLit1_VR h

def rOpd : Operand → Option Opd
  | .tmp t => some (.t t)
  | .const v => (ofLit v).map .v
  | .func f => some (.v (.fn (.func f) [] []))
  | .global _ => none

theorem rOpd_VR {g σ n fr} {a : Act} (h : FRel g σ n fr a) {x : Operand} {y : Opd} (e : rOpd x = some y) : VR g.pm g.L σ (ev fr y) (a.eval x) := by
  cases x <;> simp only [rOpd] at e
  · cases e; exact h.get _
  · simp only [Option.map_eq_some_iff] at e
    obtain ⟨z, h1, rfl⟩ := e
    exact ofLit_VR h1
  · cases e
  · cases e; exact .fn rfl rfl (by simp) (by simp)

/-- The shape of a type's values: 'some n': n cells together; 'none': one cell. -/
def eshOf (P : Program) (t : TypeId) : Option (Option Nat) :=
  match P.underlying t, P.info? t with
  | some (.struct _), some i => some (some i.size)
  | some (.array _ _), some i => some (some i.size)
  | some _, some i => if i.size = 1 then some none else none
  | _, _ => none

theorem run_isAgg {P : Program} {t : TypeId} {sh : Option Nat} (h : eshOf P t = some sh) (w : World) : (isAgg t).run P w = .ok sh.isSome w := by
  unfold eshOf at h
  cases hd : P.underlying t with
  | none => simp [hd] at h
  | some d =>
    cases hi : P.info? t with
    | none => cases d <;> simp [hd, hi] at h
    | some i =>
      cases d <;> simp only [hd, hi] at h <;> (try split at h) <;> cases h <;> simp [isAgg, run_underlying hd]

theorem eshOf_info {P : Program} {t : TypeId} {sh : Option Nat} (h : eshOf P t = some sh) : ∃ i, P.info? t = some i ∧ i.size = szOf sh := by
  unfold eshOf at h
  split at h
  · rename_i hi; cases h; exact ⟨_, hi, rfl⟩
  · rename_i hi; cases h; exact ⟨_, hi, rfl⟩
  · rename_i i _ _ _ hi
    split at h
    · cases h; exact ⟨_, hi, by simpa [szOf]⟩
    · cases h
  · cases h

theorem run_sizeOf {P : Program} {t : TypeId} {i : TypeInfo} (h : P.info? t = some i) (w : World) : (sizeOf t).run P w = .ok i.size w := by
  simp [sizeOf, typeInfo, h]

theorem run_loadVar_one {P : Program} {t : TypeId} (h : eshOf P t = some none) {w : World} {a : Addr} {v : Value} (hv : w.cell? a = some v) :
    (loadVar t a).run P w = .ok v w := by
  simp [loadVar, run_isAgg h, hv]

theorem run_loadVar_agg {P : Program} {t : TypeId} {n : Nat} (h : eshOf P t = some (some n)) {w : World} {b o : Nat} {us : Nat → Value}
    (hv : ∀ j, j < n → w.cell? ⟨b, o + j, none⟩ = some (us j)) :
    (loadVar t ⟨b, o, none⟩).run P w = .ok (.agg ((List.range n).map us).toArray) w := by
  obtain ⟨i, hi, hn⟩ := eshOf_info h
  have hl := run_loadCells (P := P) w ⟨b, o, none⟩ n us (fun j hj => by rw [Addr.add_lit]; exact hv j hj)
  simp only [szOf, Option.getD_some] at hn
  simp only [loadVar, Sem.run_bind, run_isAgg h, Result.andThen_ok, Option.isSome_some, if_true, run_sizeOf hi, hn, hl]
  simp [hl]

def ap (σ : Hp) : Option (Nat × Ob) → Hp
  | none => σ
  | some (o, x) => upd σ o x

def OpRes (res : Next) (u : Value) : Prop := res = .value u ∨ (res = .skip ∧ u = undef)

/-- What the model's operation must come to. -/
def Goes (P : Program) (g : Gh) (σ : Hp) (w : World) (s : Sem Next) (v : AV) (δ : Option (Nat × Ob)) : Prop :=
  ∃ res u w' g', s.run P w = .ok res w' ∧ OpRes res u ∧ WRel g' (ap σ δ) w' ∧ g.le σ g' (ap σ δ) ∧ VR g'.pm g'.L (ap σ δ) v u

theorem Goes.val {P g σ w} {s : Sem Value} {v : AV} {u : Value} (hw : WRel g σ w) (hr : s.run P w = .ok u w) (hv : VR g.pm g.L σ v u) :
    Goes P g σ w (do pure (.value (← s))) v none :=
  ⟨.value u, u, w, g, by simp [hr], .inl rfl, hw, Gh.le.refl _ _, hv⟩

theorem Goes.val' {P g g' σ w w'} {s : Sem Value} {v : AV} {u : Value} {δ} (hr : s.run P w = .ok u w') (hw : WRel g' (ap σ δ) w') (hl : g.le σ g' (ap σ δ)) (hv : VR g'.pm g'.L (ap σ δ) v u) :
    Goes P g σ w (do pure (.value (← s))) v δ :=
  ⟨.value u, u, w', g', by simp [hr], .inl rfl, hw, hl, hv⟩

/-! ### load -/
def StLoad (sh : Option Nat) (x : AV) (σ : Hp) (v : AV) (rd : List Nat) : Prop :=
  match x with
  | .ptr o ver off => rd = [o] ∧ ∃ cs, σ o = .arr ver cs ∧ (match sh with | none => off < cs.length ∧ v = cs.getD off .junk | some n => off + n ≤ cs.length ∧ v = .agg ((cs.drop off).take n))
  | .cptr cs off => rd = [] ∧ (match sh with | none => off < cs.length ∧ v = cs.getD off .junk | some n => off + n ≤ cs.length ∧ v = .agg ((cs.drop off).take n))
  | _ => False

theorem VR_cells {pm L σ} {cs : List AV} {n off : Nat} {us : Nat → Value} (hn : off + n ≤ cs.length) (h : ∀ j (hj : j < cs.length), VR pm L σ (cs[j]) (us j)) :
    VR pm L σ (.agg ((cs.drop off).take n)) (.agg ((List.range n).map fun j => us (off + j)).toArray) := by
  refine .agg (by simp; omega) (fun j h1 h2 => ?_)
  simp at h1 h2
  simpa using h (off + j) (by omega)

theorem load_ok {P g σ w sh x u t v rd} (hw : WRel g σ w) (ht : eshOf P t = some sh) (hx : VR g.pm g.L σ x u) (h : StLoad sh x σ v rd) :
    ∃ a r, u = .pointer (some a) ∧ (loadVar t a).run P w = .ok r w ∧ VR g.pm g.L σ v r := by
  unfold StLoad at h
  split at h
  · rename_i o ver off
    obtain ⟨_, cs, hσ, h⟩ := h
    cases hx with
    | ptr hp =>
      rename_i a
      have k := hw.ob o ver cs hσ
      simp only [PtrOK, hσ] at hp
      obtain ⟨_, rfl⟩ : _ ∧ a = _ := ⟨trivial, hp.2 trivial⟩
      have hc : ∀ j, (hj : j < cs.length) → ∃ v, w.cell? ⟨(g.L o).b, (g.L o).off + j, none⟩ = some v ∧ VR g.pm g.L σ (cs[j]) v := fun j hj => by
        obtain ⟨v, h1, h2⟩ := k.there j (by have := k.len; omega)
        exact ⟨v, h1, h2 hj⟩
      cases sh with
      | none =>
        obtain ⟨h1, rfl⟩ := h
        obtain ⟨v, hv, hr⟩ := hc off h1
        refine ⟨_, v, rfl, run_loadVar_one ht hv, ?_⟩
        simpa [h1] using hr
      | some n =>
        obtain ⟨h1, rfl⟩ := h
        have hch : ∀ j, ∃ v, j < cs.length → w.cell? ⟨(g.L o).b, (g.L o).off + j, none⟩ = some v ∧ ∀ hj : j < cs.length, VR g.pm g.L σ (cs[j]) v := fun j => by
          by_cases hj : j < cs.length
          · obtain ⟨v, a, b⟩ := hc j hj; exact ⟨v, fun _ => ⟨a, fun _ => b⟩⟩
          · exact ⟨undef, fun h => absurd h hj⟩
        let us : Nat → Value := fun j => Classical.choose (hch j)
        have hus := fun j => Classical.choose_spec (hch j)
        refine ⟨_, .agg ((List.range n).map fun j => us (off + j)).toArray, rfl, ?_, VR_cells h1 fun j hj => (hus j hj).2 hj⟩
        have := run_loadVar_agg (P := P) ht (w := w) (b := (g.L o).b) (o := (g.L o).off + off) (us := fun j => us (off + j)) (fun j hj => by
          have := (hus (off + j) (by omega)).1
          rwa [show (g.L o).off + off + j = (g.L o).off + (off + j) by omega])
        exact this
  · rename_i cs off
    obtain ⟨_, h⟩ := h
    cases hx with
    | cptr us hp hv =>
      rename_i b o
      have hc : ∀ j, j < cs.length → w.cell? ⟨b, o + j, none⟩ = some (us j) := fun j hj => hw.pm _ _ _ (hp j hj)
      cases sh with
      | none =>
        obtain ⟨h1, rfl⟩ := h
        refine ⟨_, us off, rfl, run_loadVar_one ht (hc off h1), ?_⟩
        simpa [h1] using hv off h1
      | some n =>
        obtain ⟨h1, rfl⟩ := h
        refine ⟨_, .agg ((List.range n).map fun j => us (off + j)).toArray, rfl, ?_, VR_cells h1 fun j hj => hv j hj⟩
        have := run_loadVar_agg (P := P) ht (w := w) (b := b) (o := o + off) (us := fun j => us (off + j)) (fun j hj => by
          have := hc (off + j) (by omega)
          rwa [show o + off + j = o + (off + j) by omega])
        exact this
  · exact h.elim

theorem sound_load {P g σ w sh x u t v rd} (hw : WRel g σ w) (ht : eshOf P t = some sh) (hx : VR g.pm g.L σ x u) (h : StLoad sh x σ v rd) :
    Goes P g σ w (do pure (.value (← Instr.loadAt t u))) v none := by
  obtain ⟨a, r, rfl, h1, h2⟩ := load_ok hw ht hx h
  exact Goes.val hw (by simp [Instr.loadAt, Instr.sureAddr, h1]) h2

/-! ### store -/
def splice (cs : List AV) : Nat → List AV → List AV
  | _, [] => cs
  | off, x :: r => splice (cs.set off x) (off + 1) r

theorem splice_length : ∀ (xs : List AV) (cs : List AV) (off : Nat), (splice cs off xs).length = cs.length
  | [], _, _ => rfl
  | x :: r, cs, off => by rw [splice, splice_length r]; simp

theorem VR.cells {pm L σ} {x : AV} {u : Value} (h : VR pm L σ x u) (hj : x ≠ .junk) : u.cells.size = x.cells.length ∧ ∀ j (h1 : j < x.cells.length) (h2 : j < u.cells.size), VR pm L σ (x.cells[j]) (u.cells[j]) := by
  cases h with
  | agg hl hv => exact ⟨by simpa [AV.cells, Value.cells] using hl, fun j h1 h2 => hv j h1 h2⟩
  | junk => exact (hj rfl).elim
  | _ => exact ⟨rfl, fun j h1 h2 => by simp [AV.cells] at h1; subst h1; simp [AV.cells, Value.cells]; constructor <;> assumption⟩

/-- Several cells of an object are written, in a row. -/
theorem WRel.stores {o ver : Nat} : ∀ (xs : List AV) (vs : List Value) {g σ} {w : World} {cs : List AV} (_ : WRel g σ w) (_ : σ o = .arr ver cs) (off : Nat),
    off + xs.length ≤ (g.L o).cap → vs.length = xs.length → (∀ j (h1 : j < xs.length) (h2 : j < vs.length), VR g.pm g.L σ (xs[j]) (vs[j])) →
    WRel g (upd σ o (.arr ver (splice cs off xs))) (w.setCells (g.L o).b ((g.L o).off + off) vs) ∧ g.le σ g (upd σ o (.arr ver (splice cs off xs)))
  | [], [], g, σ, w, cs, hw, e, off, _, _, _ => by
    have : upd σ o (.arr ver cs) = σ := by funext i; by_cases h : i = o <;> simp [upd, h, e]
    simp only [splice, World.setCells, this]
    exact ⟨hw, Gh.le.refl _ _⟩
  | x :: r, v :: vs, g, σ, w, cs, hw, e, off, hc, hl, hv => by
    obtain ⟨h1, h2⟩ := hw.store e off (by simp at hc; omega) x v (hv 0 (by simp) (by simp))
    have ih := WRel.stores r vs h1 (o := o) (ver := ver) (cs := cs.set off x) (by simp) (off + 1) (by simp at hc; omega) (by simpa using hl) (fun j a b => by
      have := hv (j + 1) (by simpa using a) (by simpa using b)
      simp at this
      exact this.mono h2.ext)
    obtain ⟨i1, i2⟩ := ih
    have hu : upd (upd σ o (.arr ver (cs.set off x))) o (.arr ver (splice (cs.set off x) (off + 1) r)) = upd σ o (.arr ver (splice cs off (x :: r))) := by
      funext i; by_cases h : i = o <;> simp [upd, h, splice]
    rw [hu] at i1 i2
    refine ⟨?_, h2.trans i2⟩
    rw [World.setCells]
    rwa [show (g.L o).off + (off + 1) = (g.L o).off + off + 1 by omega] at i1
  | [], _ :: _, _, _, _, _, _, _, _, _, hl, _ => by simp at hl
  | _ :: _, [], _, _, _, _, _, _, _, _, hl, _ => by simp at hl

def StStore (n : Nat) (a x : AV) (σ : Hp) (v : AV) (rd : List Nat) (δ : Option (Nat × Ob)) : Prop :=
  match a with
  | .ptr o ver off => rd = [] ∧ v = .tup [] ∧ ∃ cs, σ o = .arr ver cs ∧ x.cells.length = n ∧ off + n ≤ cs.length ∧ x.cells.all AV.one = true ∧ δ = some (o, .arr ver (splice cs off x.cells))
  | _ => False

theorem AV.ne_junk_of_one {x : AV} (h : x.cells.all AV.one = true) : x ≠ .junk := by rintro rfl; simp [AV.cells, AV.one] at h

theorem VR.cells_one {pm L σ} {x : AV} {u : Value} (h : VR pm L σ x u) (h1 : x.cells.all AV.one = true) : ∀ v ∈ u.cells.toList, v.oneCell' = true := by
  obtain ⟨hs, hv⟩ := h.cells (AV.ne_junk_of_one h1)
  intro v hv'
  obtain ⟨j, hj, rfl⟩ := List.getElem_of_mem hv'
  simp at hj
  have := hv j (by omega) hj
  simp only [Array.getElem_toList]
  refine this.one ?_
  exact List.all_eq_true.1 h1 _ (List.getElem_mem _)

theorem sound_store {P g σ w n a x ua ux t i v rd δ} (hw : WRel g σ w) (hi : P.info? t = some i) (hn : i.size = n) (ha : VR g.pm g.L σ a ua) (hx : VR g.pm g.L σ x ux) (h : StStore n a x σ v rd δ) :
    Goes P g σ w (do Instr.storeAt t ua ux; pure .skip) v δ := by
  unfold StStore at h
  split at h
  · rename_i o ver off
    obtain ⟨_, rfl, cs, hσ, hl, hoff, hone, rfl⟩ := h
    cases ha with
    | ptr hp =>
      rename_i ad
      have k := hw.ob o ver cs hσ
      simp only [PtrOK, hσ] at hp
      obtain ⟨_, rfl⟩ : _ ∧ ad = _ := ⟨trivial, hp.2 trivial⟩
      obtain ⟨hs, hv⟩ := hx.cells (AV.ne_junk_of_one hone)
      have hst := WRel.stores x.cells ux.cells.toList hw hσ off (by have := k.len; omega) (by simpa using hs) (fun j h1 h2 => by simpa using hv j h1 (by simpa using h2))
      have hrun := run_storeCells_cells (P := P) (g.L o).b ((g.L o).off + off) ux.cells.toList 0 w (fun j hj => by
          simp at hj
          obtain ⟨v, hv, _⟩ := k.there (off + j) (by have := k.len; omega)
          rw [show (g.L o).off + off + 0 + j = (g.L o).off + (off + j) by omega, hv]; rfl) (fun j hj => by
          simp at hj
          have := k.free (off + j) (by have := k.len; omega)
          rwa [show (g.L o).off + off + 0 + j = (g.L o).off + (off + j) by omega]) (hx.cells_one hone)
      refine ⟨.skip, undef, _, g, ?_, .inr ⟨rfl, rfl⟩, hst.1, hst.2, .tup rfl (by simp)⟩
      simp only [Nat.add_zero] at hrun
      have hsz : ux.cells.size = i.size := by omega
      simp [Instr.storeAt, Instr.sureAddr, storeVar, run_sizeOf hi, hsz, hrun]
  · exact h.elim

/-! ### new objects -/
theorem ap_some (σ : Hp) (o : Nat) (x : Ob) : ap σ (some (o, x)) = upd σ o x := rfl

def StNew (cs : List AV) (σ : Hp) (v : AV) (rd : List Nat) (δ : Option (Nat × Ob)) : Prop :=
  rd = [] ∧ ((∃ o, σ o = .virgin ∧ v = .ptr o 0 0 ∧ δ = some (o, .arr 0 cs)) ∨ (v = .cptr cs 0 ∧ δ = none))

theorem PtrOK_new {g : Gh} {σ : Hp} {o : Nat} {cs : List AV} {l : Loc} {off : Nat} : PtrOK (upd g.L o l) (upd σ o (.arr 0 cs)) o 0 off ⟨l.b, l.off + off, none⟩ := by
  simp [PtrOK]

theorem sound_new {P g σ w v rd δ} {cs : List AV} {c : Array Value} {t : TypeId} (hw : WRel g σ w) (hl : c.size = cs.length) (hc : ∀ j (h : j < cs.length) (h' : j < c.size), VR g.pm g.L σ (cs[j]) (c[j]))
    (h : StNew cs σ v rd δ) : Goes P g σ w (do pure (.value (.pointer (some (← newRow t c))))) v δ := by
  obtain ⟨_, h | h⟩ := h
  · obtain ⟨o, hv, rfl, rfl⟩ := h
    obtain ⟨h1, h2⟩ := hw.alloc_ob (o := o) (ver := 0) c t cs (by simp [hv, ObExt]) (by omega) hc
    exact ⟨_, _, _, _, by simp [newRow], .inl rfl, h1, h2, .ptr (PtrOK_new (l := ⟨w.heap.size, 0, c.size⟩) (off := 0))⟩
  · obtain ⟨rfl, rfl⟩ := h
    obtain ⟨g', h1, h2, h3⟩ := hw.alloc_tell c t
    refine ⟨.value (.pointer (some ⟨w.heap.size, 0, none⟩)), _, _, g', by simp [newRow], .inl rfl, h1, h2, ?_⟩
    have := VR.cptr (pm := g'.pm) (L := g'.L) (σ := ap σ none) (cs := cs) (off := 0) (b := w.heap.size) (o := 0) (fun j => c.getD j undef) (fun j hj => by
      have := h3 j (by omega)
      simpa [Array.getD, show j < c.size by omega] using this) (fun j hj => by
      have := hc j hj (by omega)
      simpa [Array.getD, show j < c.size by omega] using this.mono (σ' := ap σ none) h2.ext)
    simpa using this

end Go.Ab
