/- Heaps of a number of objects that is not known: given by a function. -/
import Derived.Test.YtgoejecjmodjiaaDoorWlH2
import Derived.Test.YtgoejecjmodjiaaDoorRows
import Derived.Test.YtgoejecjmodjiaaDoorChecked
import Derived.Shelf.Spec.TrailingZeros
namespace Go.Ab
open Go Go.RowKit
set_option linter.unusedVariables false
set_option linter.unusedSimpArgs false
def ofF (n : Nat) (f : Nat → Ob) : List Ob := (List.range n).map f
section
variable {n m : Nat} {f g : Nat → Ob}
theorem ofF_len : (ofF n f).length = n := by simp [ofF]
theorem hp_ofF {i : Nat} (h : i < n) : hp (ofF n f) i = f i := by simp [hp, ofF, List.getD_eq_getElem?_getD, h]
theorem ofF_get {i : Nat} (h : i < (ofF n f).length) : (ofF n f)[i] = f i := by simp [ofF]
theorem ofF_congr (h : ∀ i, i < n → f i = g i) : ofF n f = ofF n g := List.map_congr_left (fun i hi => h i (by simpa using hi))
theorem upd_eq {α : Type} {f : Nat → α} {o : Nat} {x : α} : upd f o x o = x := by simp [upd]
theorem upd_at {α : Type} {f : Nat → α} {o i : Nat} {x : α} (h : i = o) : upd f o x i = x := by simp [upd, h]
theorem upd_no {α : Type} {f : Nat → α} {o i : Nat} {x : α} (h : i ≠ o) : upd f o x i = f i := by simp [upd, h]
theorem setAt_len (x : Ob) : ∀ (S : List Ob) (o : Nat), o ≤ S.length → (setAt S o x).length = max S.length (o + 1)
  | [], 0, _ => rfl
  | [], n + 1, h => by simp at h
  | y :: s, 0, _ => by simp only [setAt, List.length_cons]; omega
  | y :: s, n + 1, h => by
    have := setAt_len x s n (by simpa using h)
    simp only [setAt, List.length_cons, this]; omega
theorem list_hp_ext {S S' : List Ob} (hl : S.length = S'.length) (h : ∀ i, i < S.length → hp S i = hp S' i) : S = S' := by
  apply List.ext_getElem hl
  intro i h1 h2
  have := h i h1
  rwa [hp_get h1, hp_get h2] at this
/-- An object is written, or a new one is put behind the others. -/
theorem setAt_ofF {o : Nat} {x : Ob} (h : o ≤ n) : setAt (ofF n f) o x = ofF (max n (o + 1)) (upd f o x) := by
  refine list_hp_ext (by rw [setAt_len _ _ _ (by rw [ofF_len]; exact h), ofF_len, ofF_len]) (fun i hi => ?_)
  rw [setAt_len _ _ _ (by rw [ofF_len]; exact h), ofF_len] at hi
  rw [hp_setAt, hp_ofF hi]
  by_cases hio : i = o
  · rw [upd_at hio, upd_at hio]
  · rw [upd_no hio, upd_no hio, hp_ofF (by omega)]
theorem setAt_lt {o : Nat} {x : Ob} (h : o < n) : setAt (ofF n f) o x = ofF n (upd f o x) := by
  rw [setAt_ofF (by omega), show max n (o + 1) = n by omega]
theorem setAt_new {x : Ob} : setAt (ofF n f) n x = ofF (n + 1) (upd f n x) := by
  rw [setAt_ofF (Nat.le_refl _), show max n (n + 1) = n + 1 by omega]
theorem setAt_newS {S : List Ob} {x : Ob} : setAt S S.length x = S ++ [x] := by
  induction S with
  | nil => rfl
  | cons y s ih => simp only [List.length_cons, setAt, ih, List.cons_append]
theorem ofF_put {S : List Ob} {n o : Nat} {f : Nat → Ob} {x : Ob} (h : S = ofF n f) (ho : o < n) : setAt S o x = ofF n (upd f o x) := by subst h; exact setAt_lt ho
theorem ofF_hp {S : List Ob} : S = ofF S.length (hp S) := list_hp_ext (by rw [ofF_len]) (fun i hi => by rw [hp_ofF hi])
end
/-! ### renaming -/
def idM (n : Nat) (m : Nat → Option Nat) : RMap := (List.range n).map (fun i => (m i).map (fun o => (o, 0)))
theorem rmAt_idM {n : Nat} {m : Nat → Option Nat} {i : Nat} (h : i < n) : rmAt (idM n m) i = (m i).map (fun o => (o, 0)) := by
  simp [rmAt, idM, h]
theorem rmAt_ge {n : Nat} {m : Nat → Option Nat} {i : Nat} (h : n ≤ i) : rmAt (idM n m) i = none := by
  simp [rmAt, idM, h]
theorem nodup_of_inj {n : Nat} {m : Nat → Option Nat} (h : ∀ i j o, i < n → j < n → m i = some o → m j = some o → i = j) : rnInj (idM n m) = true := by
  simp only [rnInj, decide_eq_true_eq]
  have e : ((idM n m).filterMap id).map (·.1) = (List.range n).filterMap m := by
    simp only [idM, List.filterMap_map, List.map_filterMap]
    congr 1
    funext i
    cases hm : m i <;> simp [hm]
  rw [e]
  have hnd : (List.range n).Nodup := List.nodup_range
  have hmem : ∀ x ∈ List.range n, x < n := fun x hx => by simpa using hx
  generalize List.range n = l at hnd hmem
  induction l with
  | nil => simp
  | cons a l ih =>
    have h1 := List.nodup_cons.1 hnd
    have h2 := ih h1.2 (fun x hx => hmem x (List.mem_cons_of_mem _ hx))
    cases hm : m a with
    | none => rw [List.filterMap_cons_none hm]; exact h2
    | some o =>
      rw [List.filterMap_cons_some hm, List.nodup_cons]
      refine ⟨fun hin => ?_, h2⟩
      obtain ⟨b, hb, hbo⟩ := List.mem_filterMap.1 hin
      have := h a b o (hmem a List.mem_cons_self) (hmem b (List.mem_cons_of_mem _ hb)) hm hbo
      subst this
      exact h1.1 hb
abbrev WR (n : Nat) (m : Nat → Option Nat) (S : List Ob) (f : Nat → Ob) : Rn := wkR (idM n m) S (ofF n f)
/-- What a new object must be. -/
def OkOb (n : Nat) (m : Nat → Option Nat) (S : List Ob) (f : Nat → Ob) (i : Nat) : Prop :=
  match m i with
  | some o => ∃ v cs v' cs', hp S o = .arr v cs ∧ f i = .arr v' cs' ∧ RnL (WR n m S f) 0 cs cs'
  | none => ∃ v', f i = .arr v' []
theorem rnAll_of {Q : Nat → Ob → Prop} : ∀ {l : List Ob} {i : Nat}, (∀ j (h : j < l.length), Q (i + j) l[j]) → rnAll Q i l
  | [], _, _ => trivial
  | x :: r, i, h => ⟨h 0 (by simp), rnAll_of (fun j hj => by
      have := h (j + 1) (by simpa using hj)
      simpa [show i + (j + 1) = i + 1 + j by omega] using this)⟩
theorem gwk_of {S : List Ob} {n : Nat} {m : Nat → Option Nat} {f : Nat → Ob} (hi : ∀ i j o, i < n → j < n → m i = some o → m j = some o → i = j) (h : ∀ i, i < n → OkOb n m S f i) :
    GWk [] S (ofF n f) (RnV (WR n m S f)) := by
  refine gwk_rn (idM n m) (nodup_of_inj hi) (Nat.zero_le _) (rnAll_of (fun j hj => ?_))
  rw [ofF_len] at hj
  rw [ofF_get, Nat.zero_add]
  have k := h j hj
  unfold OkOb at k
  have e := rmAt_idM (m := m) hj
  cases hm : m j with
  | none =>
    rw [hm] at k e
    obtain ⟨v', e2⟩ := k
    rw [e2]
    exact rn_obN e rfl rfl
  | some o =>
    rw [hm] at k e
    obtain ⟨v, cs, v', cs', e1, e2, e3⟩ := k
    rw [e2]
    exact rn_ob e e1 e3 rfl
theorem wk_of {S : List Ob} {n : Nat} {m : Nat → Option Nat} {f : Nat → Ob} {fr fr' : Fr} (hi : ∀ i j o, i < n → j < n → m i = some o → m j = some o → i = j) (h : ∀ i, i < n → OkOb n m S f i)
    (hf : rnF (WR n m S f) fr fr') : Wk [] fr S fr' (ofF n f) := (gwk_of hi h).wk (rnF_get hf)
/-- No object gets another number. -/
theorem inj_some : ∀ {n : Nat} (i j o : Nat), i < n → j < n → some i = some o → some j = some o → i = j := fun i j o _ _ h1 h2 => by cases h1; cases h2; rfl
section
variable {S : List Ob} {n : Nat} {m : Nat → Option Nat} {f : Nat → Ob}
theorem wr_ptr {i o v v' off : Nat} {cs cs' : List AV} (hi : i < n) (hm : m i = some o) (h1 : hp S o = .arr v cs) (h2 : f i = .arr v' cs') : RnV (WR n m S f) (.ptr o v off) (.ptr i v' off) :=
  .ptr ⟨0, cs, cs', by rw [rmAt_idM hi, hm]; rfl, h1, by rw [hp_ofF hi]; exact h2, by omega⟩
theorem wr_ref {i o v v' k : Nat} {e : Option Nat} {cs cs' : List AV} (hi : i < n) (hm : m i = some o) (h1 : hp S o = .arr v cs) (h2 : f i = .arr v' cs') (hk : k * szOf e ≤ cs'.length) : RnV (WR n m S f) (.ref o v 0 k e) (.ref i v' 0 k e) :=
  .ref ⟨0, cs, cs', by rw [rmAt_idM hi, hm]; rfl, h1, by rw [hp_ofF hi]; exact h2, by omega, by omega⟩
theorem wr_refE {i o v v' k k' : Nat} {e : Option Nat} {cs cs' : List AV} (hkk : k = k') (hi : i < n) (hm : m i = some o) (h1 : hp S o = .arr v cs) (h2 : f i = .arr v' cs') (hk : k' * szOf e ≤ cs'.length) : RnV (WR n m S f) (.ref o v 0 k e) (.ref i v' 0 k' e) := by
  subst hkk; exact wr_ref hi hm h1 h2 hk
theorem wr_nil {i v' : Nat} {e : Option Nat} {cs' : List AV} (hi : i < n) (h2 : f i = .arr v' cs') : RnV (WR n m S f) .nils (.ref i v' 0 0 e) := .nil ⟨cs', by rw [hp_ofF hi]; exact h2⟩
theorem ok_some {i o v v' : Nat} {cs cs' : List AV} (hm : m i = some o) (h1 : hp S o = .arr v cs) (h2 : f i = .arr v' cs') (h3 : RnL (WR n m S f) 0 cs cs') : OkOb n m S f i := by
  unfold OkOb; rw [hm]; exact ⟨v, cs, v', cs', h1, h2, h3⟩
theorem ok_none {i v' : Nat} (hm : m i = none) (h2 : f i = .arr v' []) : OkOb n m S f i := by
  unfold OkOb; rw [hm]; exact ⟨v', h2⟩
theorem rnl_get {R : Rn} {cs cs' : List AV} (h1 : cs'.length ≤ cs.length) (h : ∀ (j : Nat) (a : j < cs.length) (b : j < cs'.length), RnV R cs[j] cs'[j]) : RnL R 0 cs cs' :=
  ⟨by omega, fun j a b => by simp only [Nat.zero_add] at a ⊢; exact h j a b⟩
/-- Lists of the same length whose cells are one each. -/
theorem rnl_map {R : Rn} {α β : Type} {a : α → AV} {b : β → AV} {xs : List α} {ys : List β} (hl : ys.length = xs.length) (h : ∀ j (h1 : j < xs.length) (h2 : j < ys.length), RnV R (a xs[j]) (b ys[j])) : RnL R 0 (xs.map a) (ys.map b) :=
  rnl_get (by simp [hl]) (fun j h1 h2 => by simp only [List.getElem_map]; exact h j (by simpa using h1) (by simpa using h2))
theorem rnl_range {R : Rn} {k : Nat} {a b : Nat → AV} (h : ∀ j, j < k → RnV R (a j) (b j)) : RnL R 0 ((List.range k).map a) ((List.range k).map b) :=
  rnl_map rfl (fun j h1 _ => by simp only [List.getElem_range]; exact h j (by simpa using h1))
end
section
variable {P : Program} {S0 : List Ob} {ow : List Nat} {fr : Fr} {S : List Ob} {log : List LE}
/-- A call on a part of the heap. -/
theorem E_callFF {d f args rs} {K : Fr → List Ob → List LE → Prop} {T T' S' : List Ob} {us us' : List AV} {r r' : AV} (c : Ev P f us (hp T) r (hp T')) (M : List Nat) (e : evL (Fr.get fr) args = us') (hM : M.length = T.length) (inj : M.Nodup) (hT : T.length ≤ T'.length) (hS : S'.length = S.length + (T'.length - T.length))
    (hin : rnAll (FrIn M T S) 0 T) (hout : rnAll (FrOut M T T' S S') 0 T') (hoth : ∀ i, i < S.length → i ∉ M → hp S' i = hp S i) (hal : us'.length = us.length) (ha : RnL (frI M T S) 0 us' us) (hr : RnV (frO M T T' S S') r r')
    (h : VTops P ow rs ((d, r') :: fr) S' (.eff S S' :: log) K) : VTops P ow (⟨some d, none, .call f args⟩ :: rs) fr S log K :=
  E_callE (c.frame M hM inj hT hS hin hout hoth hal ha hr) e h
theorem E_callFF0 {f args rs} {K : Fr → List Ob → List LE → Prop} {T T' S' : List Ob} {us us' : List AV} {r r' : AV} (c : Ev P f us (hp T) r (hp T')) (M : List Nat) (e : evL (Fr.get fr) args = us') (hM : M.length = T.length) (inj : M.Nodup) (hT : T.length ≤ T'.length) (hS : S'.length = S.length + (T'.length - T.length))
    (hin : rnAll (FrIn M T S) 0 T) (hout : rnAll (FrOut M T T' S S') 0 T') (hoth : ∀ i, i < S.length → i ∉ M → hp S' i = hp S i) (hal : us'.length = us.length) (ha : RnL (frI M T S) 0 us' us) (hr : RnV (frO M T T' S S') r r')
    (h : VTops P ow rs fr S' (.eff S S' :: log) K) : VTops P ow (⟨none, none, .call f args⟩ :: rs) fr S log K := by
  rw [VTops_call0, e]
  exact kCall_ev (c.frame M hM inj hT hS hin hout hoth hal ha hr) h
end
end Go.Ab
/- The library's count of the zeros at a word's end, over this program. -/
namespace Go.Proofs.YtgoejecjmodjiaaDoor
open Go Go.Ab Go.RowKit
set_option linter.unusedVariables false
set_option linter.unusedSimpArgs false
def laysTz_ren : Go.Shelf.Ren := ⟨fun | 29 => 81 | n => n, fun | 0 => 0 | 22 => 32 | 25 => 23 | 54 => 146 | n => n, fun | 1 => 0 | n => n⟩
theorem laysTz : Lays7.n29 Tryd.prog laysTz_ren := {
  mixed := by kernel_rfl
  f29 := Tryd.func81.trans (congrArg some (by kernel_rfl))
  t0 := Tryd.underlying0
  a0 := Tryd.isAgg0
  z0 := Tryd.sizeOf0
  v0 := Tryd.zeroValue0
  i0 := by kernel_rfl
  t3 := Tryd.underlying3
  a3 := Tryd.isAgg3
  z3 := Tryd.sizeOf3
  v3 := Tryd.zeroValue3
  i3 := by kernel_rfl
  t4 := Tryd.underlying4
  a4 := Tryd.isAgg4
  z4 := Tryd.sizeOf4
  v4 := Tryd.zeroValue4
  i4 := by kernel_rfl
  t5 := Tryd.underlying5
  a5 := Tryd.isAgg5
  z5 := Tryd.sizeOf5
  v5 := Tryd.zeroValue5
  i5 := by kernel_rfl
  t22 := Tryd.underlying32
  a22 := Tryd.isAgg32
  z22 := Tryd.sizeOf32
  v22 := Tryd.zeroValue32
  i22 := by kernel_rfl
  t25 := Tryd.underlying23
  a25 := Tryd.isAgg23
  z25 := Tryd.sizeOf23
  v25 := Tryd.zeroValue23
  i25 := by kernel_rfl
  t54 := Tryd.underlying146
  a54 := Tryd.isAgg146
  z54 := Tryd.sizeOf146
  g1 := by kernel_rfl }
def math_bits_TrailingZeros64_s (x : Int) : Option Int := if 0 ≤ x ∧ x < 18446744073709551616 then some (Lib.ctz 64 x.toNat : Int) else none
theorem math_bits_TrailingZeros64_ev {x : Int} {r : Int} (h : math_bits_TrailingZeros64_s x = some r) : PureEv Tryd.prog 81 [.int .u64 x] (.int .i64 r) := by
  unfold math_bits_TrailingZeros64_s at h
  split at h
  case isFalse => cases h
  rename_i hl
  cases h
  intro g w vals hw hv
  obtain ⟨u, rfl, hu⟩ : ∃ u, vals = #[u] ∧ VR g.pm g.L noHp (.int .u64 x) u := by
    obtain ⟨hs, hvv⟩ := hv
    obtain ⟨ll⟩ := vals
    match ll, hs with
    | [u], _ => exact ⟨u, rfl, hvv 0 (by simp) (by simp)⟩
  cases hu
  have hx : (x : Int) = (x.toNat : Int) := by omega
  have hT : TabAt (laysTz_ren.g 1) Lib.deBruijn64tab w := by
    obtain ⟨hb, cs, t, fz, e, q⟩ := hw.tab 0 _ rfl
    subst q
    intro j hj
    have := hw.low.block 0 hb
    simp only [World.cell?, show laysTz_ren.g 1 = 0 from rfl, this, e]
    have e1 : tzT = Lib.deBruijn64tab.map fun n => ((n : Nat) : Int) := by decide
    have hall : (List.map (fun z => Value.int IntKind.u8 z) tzT).toArray[j]? = some (.int .u8 (Lib.deBruijn64tab.getD j 0 : Nat)) := by
      rw [e1]
      simp [List.getElem?_map, List.getD_eq_getElem?_getD, List.getElem?_eq_getElem hj]
    exact hall
  have := Any7.bits_TrailingZeros64 laysTz x.toNat (by omega) w (fun _ => hT)
  rw [← hx] at this
  refine Calls.mono this ?_
  rintro e w' ⟨rfl, rfl⟩
  exact ⟨_, g, rfl, Gh.le.refl _ _, hw, .int⟩
end Go.Proofs.YtgoejecjmodjiaaDoor
