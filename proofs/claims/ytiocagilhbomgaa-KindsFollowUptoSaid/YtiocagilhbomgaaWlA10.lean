/- copy, bytes and strings, equality of structs, the least and the greatest. -/
import Derived.Test.YtiocagilhbomgaaWlA9
namespace Go.Ab
open Go.RowKit
set_option linter.unusedVariables false
set_option linter.unusedSimpArgs false

/-! ### copy -/
def StCpy (esh : Option Nat) (s x : AV) (σ : Hp) (v : AV) (rd : List Nat) (δ : Option (Nat × Ob)) : Prop :=
  ∃ n cells rdx, Src esh x σ n cells rdx ∧ cells.all AV.one = true ∧
    match s with
    | .ref o ver off m e => e = esh ∧ n ≤ m ∧ v = .int .i64 n ∧ rd = rdx ∧ ∃ cs, σ o = .arr ver cs ∧ δ = some (o, .arr ver (splice cs off cells))
    | .nils => n = 0 ∧ v = .int .i64 0 ∧ rd = rdx ∧ δ = none
    | _ => False

theorem sound_cpy {P g σ w t tx ty elem esh s x us ux v rd δ} (hw : WRel g σ w)
    (ht : P.underlying t = some (.slice elem)) (he : eshOf P elem = some esh)
    (hs : VR g.pm g.L σ s us) (hx : VR g.pm g.L σ x ux) (h : StCpy esh s x σ v rd δ) :
    Goes P g σ w (do pure (.value (← Builtin.copy_ #[t, tx] ty #[us, ux]))) v δ := by
  obtain ⟨n, cells, rdx, hsrc, hone, h⟩ := h
  obtain ⟨l1, l2, vs, l3, l4, l5⟩ := run_firstCells (P := P) hw hx hsrc
  obtain ⟨inf, hi, hsz⟩ := eshOf_info he
  have h3 := run_sizeOf (P := P) hi w
  rw [hsz] at h3
  split at h
  · rename_i o ver off m e
    obtain ⟨rfl, hnm, rfl, _, cs, hσ, rfl⟩ := h
    cases hs with
    | @refnil _ _ _ _ a _ =>
      have hn0 : n = 0 := by omega
      subst hn0
      have : vs = [] := by
        have : vs.length = 0 := by omega
        exact List.eq_nil_of_length_eq_zero this
      subst this
      have hc0 : cells = [] := List.eq_nil_of_length_eq_zero (by omega)
      subst hc0
      have hmin : Nat.min 0 0 = 0 := rfl
      refine Goes.val' (u := .int .i64 0) (g' := g) (w' := w) ?_ ?_ ?_ .int
      · cases a <;> simp [Builtin.copy_, run_underlying ht, l1, h3, goInt, l3, storeCells]
      · have : ap σ (some (o, .arr ver (splice cs off []))) = σ := by
          funext i; simp only [ap_some, splice]; by_cases hi : i = o
          · subst hi; simp [hσ]
          · rw [upd_ne _ _ hi]
        rw [this]; exact hw
      · have : ap σ (some (o, .arr ver (splice cs off []))) = σ := by
          funext i; simp only [ap_some, splice]; by_cases hi : i = o
          · subst hi; simp [hσ]
          · rw [upd_ne _ _ hi]
        rw [this]; exact Gh.le.refl _ _
    | ref hnc hsp hr =>
      rename_i a cap
      simp only [RefOK, hσ] at hr
      obtain ⟨_, rfl, r2, r3, r4⟩ : _ ∧ _ := ⟨trivial, hr.2 trivial⟩
      have k := hw.ob o ver cs hσ
      have hle : n * szOf e ≤ m * szOf e := Nat.mul_le_mul_right _ hnm
      have hst := WRel.stores cells vs hw hσ off (by have := k.len; omega) l4 l5
      have hrun := run_storeCells_cells (P := P) (g.L o).b ((g.L o).off + off) vs 0 w (fun j hj => by
          obtain ⟨v, hv, _⟩ := k.there (off + j) (by have := k.len; omega)
          rw [show (g.L o).off + off + 0 + j = (g.L o).off + (off + j) by omega, hv]; rfl) (fun j hj => by
          have := k.free (off + j) (by have := k.len; omega)
          rwa [show (g.L o).off + off + 0 + j = (g.L o).off + (off + j) by omega]) (fun u hu => by
              obtain ⟨j, hj, rfl⟩ := List.getElem_of_mem hu
              exact (l5 j (by omega) hj).one (List.all_eq_true.1 hone _ (List.getElem_mem _)))
      simp only [Nat.add_zero] at hrun
      refine Goes.val' (u := .int .i64 n) ?_ hst.1 hst.2 .int
      have hmin : Nat.min n m = n := Nat.min_eq_left hnm
      simp [Builtin.copy_, run_underlying ht, l1, hmin, h3, l3, hrun, goInt]
  · obtain ⟨rfl, rfl, _, rfl⟩ := h
    cases hs
    refine Goes.val hw (u := .int .i64 0) ?_ .int
    have : vs = [] := by
      have : vs.length = 0 := by omega
      exact List.eq_nil_of_length_eq_zero this
    subst this
    have hmin : Nat.min 0 0 = 0 := rfl
    simp [Builtin.copy_, run_underlying ht, l1, h3, goInt, l3]
  · exact h.elim

/-! ### bytes and strings -/
theorem foldl_push : ∀ (l : List UInt8) (s : ByteArray), (l.map (fun b => (b.toNat : Int))).foldl (fun r n => r.push (UInt8.ofNat n.toNat)) s = ⟨s.data ++ l.toArray⟩
  | [], s => by cases s; simp
  | b :: l, s => by
    simp only [List.map_cons, List.foldl_cons]
    rw [foldl_push l]
    cases s
    simp [ByteArray.push, UInt8.ofNat_toNat]

def StB2s (x : AV) (σ : Hp) (v : AV) (rd : List Nat) : Prop :=
  ∃ n s, Src none x σ n (strCells s) rd ∧ (match x with | .str _ => False | _ => True) ∧ v = .str s

theorem strCells_length (s : ByteArray) : (strCells s).length = s.size := by simp [strCells]

theorem sound_b2s {P g σ w src dst e x u v rd} (hw : WRel g σ w) (hs : P.underlying src = some (.slice e)) (he : P.underlying e = some (.int .u8)) (hd : P.underlying dst = some .string)
    (hx : VR g.pm g.L σ x u) (h : StB2s x σ v rd) : Goes P g σ w (do pure (.value (← convert src dst u))) v none := by
  obtain ⟨n, s, hsrc, hns, rfl⟩ := h
  obtain ⟨l1, l2, vs, l3, l4, l5⟩ := run_firstCells (P := P) hw hx hsrc
  simp only [szOf, Option.getD_none, Nat.mul_one] at l2 l3
  rw [strCells_length] at l2 l4
  have hvs : vs = (s.data.toList.map (fun b => (b.toNat : Int))).map (Value.int .u8) := by
    apply List.ext_getElem
    · simp [l4]
    · intro j h1 h2
      have := l5 j (by rw [strCells_length]; omega) h1
      simp only [strCells, List.getElem_map] at this
      simp only [List.getElem_map]
      generalize vs[j] = q at this
      cases this
      rfl
  have hfold : (s.data.toList.map (fun b => (b.toNat : Int))).foldl (fun r n => r.push (UInt8.ofNat n.toNat)) ByteArray.empty = s := by
    rw [foldl_push]
    cases s
    simp [ByteArray.empty, ByteArray.emptyWithCapacity]
    rfl
  have key : ∀ a len cap, u = .slice a len cap → Goes P g σ w (do pure (.value (← convert src dst u))) (.str s) none := fun a len cap e1 => by
    subst e1
    refine Goes.val hw (u := .string s) ?_ .str
    rw [run_convert_bytes_string w src dst e a len cap hs he hd]
    simp [Builtin.lenOf] at l1
    subst l1
    cases a with
    | none =>
      have : s = ByteArray.empty := by
        simp [Builtin.firstCells] at l3
        subst l3
        simp at l4
        have h0 : s.data.toList = [] := by
          apply List.eq_nil_of_length_eq_zero
          simpa using l4.symm
        rw [h0] at hfold
        exact hfold.symm
      subst this
      simp [Conv.bytesToString]
    | some a =>
      have := run_bytesToString (P := P) w a len cap (s.data.toList.map (fun b => (b.toNat : Int))) (by rw [← hvs]; simpa [Builtin.firstCells] using l3)
      rw [this, hfold]
  unfold Src at hsrc
  split at hsrc
  · cases hx; exact key _ _ _ rfl
  · cases hx <;> exact key _ _ _ rfl
  · cases hx <;> exact key _ _ _ rfl
  · cases hx <;> exact key _ _ _ rfl
  · exact hns.elim
  · exact hsrc.elim

/-- A byte slice that a string's bytes were laid into: told for good. -/
def StS2b (x v : AV) : Prop :=
  match x with
  | .str s => v = .sl false 1 (strCells s)
  | _ => False

theorem strCells_one (s : ByteArray) : (strCells s).all AV.one = true := by
  rw [List.all_eq_true]
  intro x hx
  simp only [strCells, List.mem_map] at hx
  obtain ⟨_, _, rfl⟩ := hx
  rfl

theorem sound_s2b {P g σ w src dst e x u v} (hw : WRel g σ w) (hs : P.underlying src = some .string) (he : P.underlying e = some (.int .u8)) (hd : P.underlying dst = some (.slice e))
    (hx : VR g.pm g.L σ x u) (h : StS2b x v) : Goes P g σ w (do pure (.value (← convert src dst u))) v none := by
  unfold StS2b at h
  split at h
  · rename_i s
    subst h
    cases hx
    have hcap : s.size ≤ grownCap w s.size 0 e := grownCap_ge w s.size 0 e
    have hcs : (bytesRow s (grownCap w s.size 0 e)).size = grownCap w s.size 0 e := by simp [bytesRow]; omega
    obtain ⟨g', h1, h2, h3⟩ := hw.drew.alloc_tell (bytesRow s (grownCap w s.size 0 e)) e ((bytesRow s (grownCap w s.size 0 e)).size, (bytesRow s (grownCap w s.size 0 e)).size + 1)
    refine Goes.val' (run_bytes_of_string w src dst e s hs hd he) h1 h2 ?_
    have hpm : ∀ j, j < s.size → g'.pm w.heap.size (0 + j) = some (.int .u8 (s.data.getD j 0).toNat) := fun j hj => by
      have := h3 j (by omega)
      rw [Nat.zero_add]
      have hj' : j < s.data.size := by simpa using hj
      have e2 : g'.pm w.heap.size j = some ((bytesRow s (grownCap w s.size 0 e))[j]'(by omega)) := this
      rw [e2]
      simp only [bytesRow]
      rw [Array.getElem_append_left (by simpa using hj')]
      simp only [Array.getElem_map, Array.getD_eq_getD_getElem?, Array.getElem?_eq_getElem hj', Option.getD_some]
    have := VR.told (pm := g'.pm) (L := g'.L) (σ := ap σ none) (esh := none) (k := s.size) (cap := grownCap w s.size 0 e) (cs := strCells s) (b := w.heap.size) (o := 0) (us := fun j => .int .u8 (s.data.getD j 0).toNat) (ex := false)
      (by simp [szOf, strCells_length]) (strCells_one s) (fun j hj => hpm j (by simpa [szOf] using hj)) (fun j hj _ => by
        have hj' : j < s.data.size := by simpa [strCells] using hj
        simp only [strCells, List.getElem_map, Array.getElem_toList, Array.getD_eq_getD_getElem?, Array.getElem?_eq_getElem hj', Option.getD_some]
        exact .int) hcap (by simp)
    simpa [elemsOf, szOf, ← strCells_length] using this
  · exact h.elim

/-! ### the least and the greatest -/
def StMin (mx : Bool) (x y v : AV) : Prop :=
  match x, y with
  | .int k a, .int _ b => v = .int k (if mx then (if b > a then b else a) else (if b < a then b else a))
  | _, _ => False

theorem sound_min {P g σ w ts ty x y ux uy v} (hw : WRel g σ w) (hx : VR g.pm g.L σ x ux) (hy : VR g.pm g.L σ y uy) (h : StMin false x y v) :
    Goes P g σ w (do pure (.value (← Builtin.min_ ts ty #[ux, uy]))) v none := by
  unfold StMin at h
  split at h
  · cases hx; cases hy; subst h
    exact Goes.val hw (run_min_int2 w ts ty _ _ _ _) .int
  · exact h.elim

theorem sound_max {P g σ w ts ty x y ux uy v} (hw : WRel g σ w) (hx : VR g.pm g.L σ x ux) (hy : VR g.pm g.L σ y uy) (h : StMin true x y v) :
    Goes P g σ w (do pure (.value (← Builtin.max_ ts ty #[ux, uy]))) v none := by
  unfold StMin at h
  split at h
  · cases hx; cases hy; subst h
    exact Goes.val hw (run_max_int2 w ts ty _ _ _ _) .int
  · exact h.elim

/-! ### equality of flat structs -/
inductive FK where
  | int | bool | str
  deriving DecidableEq

def fkOf (P : Program) (t : TypeId) : Option FK :=
  match P.underlying t with
  | some (.int _) => some .int
  | some .bool => some .bool
  | some .string => some .str
  | _ => none

def flatFields (P : Program) : Nat → List Field → List FK → Bool
  | _, [], [] => true
  | i, f :: r, k :: ks => f.offset == i && f.name != "_" && fkOf P f.type == some k && eshOf P f.type == some none && flatFields P (i + 1) r ks
  | _, _, _ => false

/-- Of these kinds in every cell. -/
def alike : List FK → List AV → List AV → Bool
  | [], [], [] => true
  | .int :: ks, .int k _ :: xs, .int k' _ :: ys => k == k' && alike ks xs ys
  | .bool :: ks, .bool _ :: xs, .bool _ :: ys => alike ks xs ys
  | .str :: ks, .str _ :: xs, .str _ :: ys => alike ks xs ys
  | _, _, _ => false

theorem run_eqFields {P : Program} {pm L σ} {us vs : Array Value} (w : World) (d : Nat) : ∀ (fs : List Field) (ks : List FK) (xs ys : List AV) (i : Nat),
    (us.size = i + xs.length ∧ ∀ j (h : j < xs.length) (h' : i + j < us.size), VR pm L σ (xs[j]) (us[i + j])) →
    (vs.size = i + ys.length ∧ ∀ j (h : j < ys.length) (h' : i + j < vs.size), VR pm L σ (ys[j]) (vs[i + j])) →
    flatFields P i fs ks = true → alike ks xs ys = true → (Op.eqFields (d + 1) us vs fs).run P w = .ok (sameAll xs ys) w
  | [], ks, xs, ys, i, hx, hy, hf, ha => by
    cases ks <;> simp [flatFields] at hf
    cases xs <;> cases ys <;> simp [alike] at ha
    simp [Op.eqFields, sameAll]
  | f :: fs, ks, xs, ys, i, hx, hy, hf, ha => by
    cases ks with
    | nil => simp [flatFields] at hf
    | cons k ks =>
      simp only [flatFields, Bool.and_eq_true, beq_iff_eq, bne_iff_ne] at hf
      obtain ⟨⟨⟨⟨rfl, hname⟩, hty⟩, hesh⟩, hr⟩ := hf
      cases xs with
      | nil => cases k <;> simp [alike] at ha
      | cons a xs =>
        cases ys with
        | nil => cases k <;> cases a <;> simp [alike] at ha
        | cons b ys =>
          obtain ⟨hx1, hx2⟩ := hx
          obtain ⟨hy1, hy2⟩ := hy
          simp at hx1 hy1
          have hlu : f.offset < us.size := by omega
          have hlv : f.offset < vs.size := by omega
          have hru := hx2 0 (by simp) (by omega)
          have hrv := hy2 0 (by simp) (by omega)
          simp at hru hrv
          have hal : alike ks xs ys = true := by
            cases k <;> cases a <;> first | (simp only [alike, Bool.false_eq_true] at ha; done) | (cases b <;> first | (simp only [alike, Bool.false_eq_true] at ha; done) | (simp only [alike, Bool.and_eq_true] at ha; exact ha.2) | (simp only [alike] at ha; exact ha))
          have ih := run_eqFields (P := P) (us := us) (vs := vs) w d fs ks xs ys (f.offset + 1) ⟨by omega, fun j h h' => by
              have := hx2 (j + 1) (by simpa using h) (by omega)
              simpa [Nat.add_assoc, Nat.add_comm 1] using this⟩ ⟨by omega, fun j h h' => by
              have := hy2 (j + 1) (by simpa using h) (by omega)
              simpa [Nat.add_assoc, Nat.add_comm 1] using this⟩ hr hal
          have hu : (part f.type us f.offset).run P w = .ok us[f.offset] w := by simp [part, run_isAgg hesh, hlu]
          have hv : (part f.type vs f.offset).run P w = .ok vs[f.offset] w := by simp [part, run_isAgg hesh, hlv]
          generalize us[f.offset] = u at hru hu
          generalize vs[f.offset] = v at hrv hv
          have heq : (Op.equalIn (d + 1) f.type u v).run P w = .ok (a.same b) w := by
            unfold fkOf at hty
            cases k
            · cases a <;> cases b <;> simp [alike] at ha
              obtain ⟨rfl, _⟩ := ha
              cases hru; cases hrv
              split at hty <;> first | (cases hty; done) | skip
              rename_i hut
              simp only [AV.same, beq_self_eq_true, Bool.true_and]
              exact run_equalIn_int (P := P) w d f.type _ _ _ _ hut
            · cases a <;> cases b <;> simp [alike] at ha
              cases hru; cases hrv
              split at hty <;> first | (cases hty; done) | skip
              rename_i hut
              exact run_equalIn_bool w d f.type _ _ hut
            · cases a <;> cases b <;> simp [alike] at ha
              cases hru; cases hrv
              split at hty <;> first | (cases hty; done) | skip
              rename_i hut
              exact run_equalIn_string w d f.type _ _ hut
          simp only [Op.eqFields, ne_eq, hname, not_false_eq_true, if_true, Sem.run_bind, hu, hv, Result.andThen_ok, heq, sameAll]
          cases hab : a.same b
          · simp
          · simpa using ih

def StEqs (ks : List FK) (op : BinOp) (x y v : AV) : Prop :=
  match x, y with
  | .agg xs, .agg ys => alike ks xs ys = true ∧ eqOf op (sameAll xs ys) = some v
  | _, _ => False

theorem sound_eqs {P g σ w ks op xt x y ux uy v} {ox oy : Operand} {fields : Array Field} (hw : WRel g σ w) (ht : P.underlying xt = some (.struct fields)) (hk : flatFields P 0 fields.toList ks = true) (hs : P.stoodInHeld xt = false) (hg : P.eqGuardType P.depth xt = false)
    (hx : VR g.pm g.L σ x ux) (hy : VR g.pm g.L σ y uy) (h : StEqs ks op x y v) :
    Goes P g σ w (do pure (.value (← (do eqGuard op xt ox oy ux uy; binOp op xt ux uy)))) v none := by
  unfold StEqs at h
  split at h
  · obtain ⟨ha, h⟩ := h
    cases hx with
    | agg hlx hvx =>
      cases hy with
      | agg hly hvy =>
        have hfo : P.fieldsOf xt = fields := by simp [Program.fieldsOf, ht]
        rename_i us vs
        have hq := run_equalIn_struct (P := P) w 9999 xt us vs (by rw [hfo]; exact ht) hs
        have hr := run_eqFields (P := P) w 9998 fields.toList ks _ _ 0 ⟨by rw [hlx]; omega, fun j h h' => by simpa using hvx j h (by omega)⟩ ⟨by rw [hly]; omega, fun j h h' => by simpa using hvy j h (by omega)⟩ hk ha
        obtain ⟨h1, h2⟩ := run_eqOf (P := P) (t := xt) (x := .agg _) (y := .agg _) w h trivial (by rw [Op.equal]; exact (by rw [hfo] at hq; exact hq.trans hr))
        exact Goes.val hw (u := v.val1) (by simp [run_eqGuard_agg w op xt ox oy _ _ hg, h1]) (VR.val1 h2)
  · exact h.elim
end Go.Ab
