/- Lists as objects and as frozen values: the steps. -/
import Derived.Test.YtiocagilhbomgaaWlF4
namespace Go.Ab
open Go.RowKit
set_option linter.unusedVariables false
set_option linter.unusedSimpArgs false

def flat {α : Type} (f : α → AV) (l : List α) : List AV := l.flatMap fun x => (f x).cells

/-- How things are laid into cells. -/
structure Enc {α : Type} (f : α → AV) (esh : Option Nat) : Prop where
  sz : ∀ x, (f x).cells.length = szOf esh
  one : ∀ x, (f x).cells.all AV.one = true
  form : ∀ x, match esh with | none => (f x).cells = [f x] | some _ => f x = .agg (f x).cells
  blw : ∀ x n, (f x).blw n = true

section
variable {α : Type} {f : α → AV} {esh : Option Nat}
theorem flat_append (l m : List α) : flat f (l ++ m) = flat f l ++ flat f m := by simp [flat]
theorem flat_cons (x : α) (l : List α) : flat f (x :: l) = (f x).cells ++ flat f l := rfl
theorem flat_nil : flat f [] = [] := rfl
theorem map_cells (l : List α) : (l.map f).flatMap AV.cells = flat f l := by simp [flat, List.flatMap_map]
theorem Enc.length (he : Enc f esh) : ∀ l : List α, (flat f l).length = l.length * szOf esh
  | [] => by simp [flat]
  | x :: l => by rw [flat_cons, List.length_append, he.sz, he.length l, List.length_cons, Nat.add_mul]; omega
theorem Enc.all (he : Enc f esh) : ∀ l : List α, (flat f l).all AV.one = true
  | [] => rfl
  | x :: l => by rw [flat_cons, List.all_append, he.one, he.all l]; rfl
theorem Enc.blwf (he : Enc f esh) (n : Nat) : ∀ l : List α, blwL n (flat f l) = true
  | [] => rfl
  | x :: l => by
    rw [flat_cons]
    have : ∀ a b : List AV, blwL n a = true → blwL n b = true → blwL n (a ++ b) = true := fun a b h1 h2 => by
      rw [blwL_iff] at *; intro x hx; rcases List.mem_append.1 hx with h | h; exact h1 _ h; exact h2 _ h
    exact this _ _ (cells_below (he.blw x n)) (he.blwf n l)
theorem Enc.blwm (he : Enc f esh) (n : Nat) (l : List α) : blwL n (l.map f) = true := blwL_map (fun a => he.blw a n) l
theorem Enc.drop (he : Enc f esh) : ∀ (l : List α) (i : Nat), (flat f l).drop (i * szOf esh) = flat f (l.drop i)
  | l, 0 => by simp
  | [], i + 1 => by simp [flat]
  | x :: l, i + 1 => by
    rw [flat_cons, Nat.add_mul, Nat.one_mul, Nat.add_comm, ← List.drop_drop, List.drop_left' (he.sz x), he.drop l i]; rfl
theorem Enc.take (he : Enc f esh) : ∀ (l : List α) (i : Nat), (flat f l).take (i * szOf esh) = flat f (l.take i)
  | l, 0 => by simp [flat]
  | [], i + 1 => by simp [flat]
  | x :: l, i + 1 => by
    rw [flat_cons, Nat.add_mul, Nat.one_mul, Nat.add_comm (i * szOf esh), List.take_succ_cons, flat_cons, ← he.take l i]
    rw [← he.sz x, List.take_append, List.take_of_length_le (by omega)]
    congr 2; omega
theorem Enc.elems (he : Enc f esh) (l : List α) : elemsOf esh l.length (flat f l) = l.map f := by
  have hf := he.form
  have hs := he.sz
  cases esh with
  | none =>
    have : flat f l = l.map f := by
      induction l with
      | nil => rfl
      | cons x l ih => rw [flat_cons, hf x, ih]; rfl
    rw [this]; exact List.take_of_length_le (by simp)
  | some n =>
    show chunk n l.length (flat f l) = _
    clear he
    induction l with
    | nil => rfl
    | cons x l ih =>
      have hx : (f x).cells.length = n := hs x
      simp only [List.length_cons, chunk, flat_cons]
      rw [List.take_left' hx, List.drop_left' hx, ih, ← hf x]; rfl
theorem Enc.repl (he : Enc f esh) (x : α) (n : Nat) : repl n (f x).cells = flat f (List.replicate n x) := by
  unfold Ab.repl flat
  induction n with
  | zero => rfl
  | succ n ih => rw [List.replicate_succ, List.replicate_succ, List.flatten_cons, ih]; rfl
/-- The cells of one element. -/
theorem Enc.at (he : Enc f esh) {l : List α} {n : Nat} {y : α} (hy : l[n]? = some y) : ∃ a b, flat f l = a ++ (f y).cells ++ b ∧ a.length = n * szOf esh ∧ l = l.take n ++ y :: l.drop (n + 1) := by
  obtain ⟨hn, rfl⟩ := List.getElem?_eq_some_iff.1 hy
  have h1 : l = l.take n ++ l[n] :: l.drop (n + 1) := by rw [← List.drop_eq_getElem_cons hn, List.take_append_drop]
  refine ⟨flat f (l.take n), flat f (l.drop (n + 1)), ?_, ?_, h1⟩
  · conv => lhs; rw [h1]
    rw [flat_append, flat_cons, List.append_assoc]
  · rw [he.length, List.length_take, Nat.min_eq_left (by omega)]

theorem vPart_at {a c b : List AV} {sh : Option Nat} {fo : Nat} {v : AV} (h : vPart sh c fo = some v) : vPart sh (a ++ c ++ b) (a.length + fo) = some v := by
  unfold vPart at *
  cases sh with
  | none =>
    simp only at h ⊢
    split at h
    · rename_i hlt
      cases h
      rw [if_pos (by simp; omega)]
      congr 1
      simp only [List.getD_eq_getElem?_getD]
      rw [List.append_assoc, List.getElem?_append_right (by omega), List.getElem?_append_left (by omega)]
      congr 3; omega
    · cases h
  | some n =>
    simp only at h ⊢
    split at h
    · rename_i hlt
      cases h
      rw [if_pos (by simp; omega)]
      congr 2
      rw [List.append_assoc, ← List.drop_drop, List.drop_left, List.drop_append_of_le_length (by omega), List.take_append_of_le_length (by simp; omega)]
    · cases h

theorem splice_at : ∀ (xs : List AV) {a c b : List AV} {fo : Nat}, fo + xs.length ≤ c.length → splice (a ++ c ++ b) (a.length + fo) xs = a ++ splice c fo xs ++ b := by
  intro xs
  induction xs with
  | nil => intro a c b fo _; simp [splice]
  | cons x xs ih =>
    intro a c b fo h
    simp only [splice]
    simp only [List.length_cons] at h
    rw [show (a ++ c ++ b).set (a.length + fo) x = a ++ c.set fo x ++ b by
      rw [List.append_assoc, List.set_append_right _ _ (by omega), List.set_append_left _ _ (by omega), ← List.append_assoc]
      congr 3; omega]
    rw [show a.length + fo + 1 = a.length + (fo + 1) by omega]
    exact ih (by simp; omega)
end

/-! ### weaker values -/
def awL : List AV → List AV → Prop
  | [], [] => True
  | x :: xs, y :: ys => AVw x y ∧ awL xs ys
  | _, _ => False
theorem awL_len : ∀ {xs ys : List AV}, awL xs ys → xs.length = ys.length
  | [], [], _ => rfl
  | _ :: xs, _ :: ys, h => congrArg (· + 1) (awL_len h.2)
theorem awL_get : ∀ {xs ys : List AV}, awL xs ys → ∀ j (h1 : j < xs.length) (h2 : j < ys.length), AVw xs[j] ys[j]
  | [], _, _, j, h1, _ => by simp at h1
  | x :: xs, y :: ys, h, 0, _, _ => h.1
  | x :: xs, y :: ys, h, j + 1, h1, h2 => awL_get h.2 j (by simpa using h1) (by simpa using h2)
theorem AVw.aggL {xs ys : List AV} (h : awL xs ys) : AVw (.agg xs) (.agg ys) := .agg (awL_len h) (awL_get h)
theorem AVw.tupL {xs ys : List AV} (h : awL xs ys) : AVw (.tup xs) (.tup ys) := .tup (awL_len h) (awL_get h)
theorem AVw.cptrL {xs ys : List AV} {off} (h : awL xs ys) : AVw (.cptr xs off) (.cptr ys off) := .cptr (awL_len h) (awL_get h)
theorem AVw.ex {sz} {xs : List AV} : AVw (.sl true sz xs) (.sl false sz xs) := .sl (by intro e; cases e) rfl (fun _ _ _ => rfl) (fun _ _ _ _ _ _ => .refl _)

section
variable {P : Program} {S0 : List Ob} {ow : List Nat} {fr : Fr} {S : List Ob} {log : List LE} {α : Type} {f : α → AV} {esh : Option Nat}

theorem E_iadF {d x i rs} {K : Fr → List Ob → List LE → Prop} {ex k n} {ys : List α} {y : α} (e : ev (Fr.get fr) x = .sl ex (szOf esh) (ys.map f)) (e1 : ev (Fr.get fr) i = .int k n) (hy : getI ys n = some y)
    (h : VTops P ow rs ((d, .cptr (f y).cells 0) :: fr) S (.acc [] none :: log) K) : VTops P ow (⟨some d, none, .op (.iad none esh x i)⟩ :: rs) fr S log K := by
  obtain ⟨h1, h2, h3⟩ := getI_some hy
  refine E_iad e e1 rfl rfl ⟨h1, h2⟩ (fun y' hy' => ?_)
  rw [h3] at hy'; cases hy'
  exact h
theorem E_iadR {d x i rs} {K : Fr → List Ob → List LE → Prop} {o ver off m k n} (e : ev (Fr.get fr) x = .ref o ver off m esh) (e1 : ev (Fr.get fr) i = .int k n) (hn : 0 ≤ n ∧ n < m)
    (h : VTops P ow rs ((d, .ptr o ver (off + n.toNat * szOf esh)) :: fr) S (.acc [] none :: log) K) : VTops P ow (⟨some d, none, .op (.iad none esh x i)⟩ :: rs) fr S log K := by
  refine E_op0 (v := .ptr o ver (off + n.toNat * szOf esh)) ?_ rfl h
  simp only [opV, e, e1, vIad]
  rw [if_pos ⟨trivial, hn.1, hn.2⟩]; rfl
theorem E_ldR {d a sh rs} {K : Fr → List Ob → List LE → Prop} {o ver p n fo} {l : List α} {y : α} {v v' : AV} (he : Enc f esh) (e : ev (Fr.get fr) a = .ptr o ver p) (ho : hp S o = .arr ver (flat f l)) (hp : p = n * szOf esh + fo) (hy : l[n]? = some y)
    (hv : vPart sh (f y).cells fo = some v) (hw : AVw v v') (h : VTops P ow rs ((d, v') :: fr) S (.acc [o] none :: log) K) : VTops P ow (⟨some d, none, .op (.load sh a)⟩ :: rs) fr S log K := by
  obtain ⟨a', b, h1, h2, _⟩ := he.at hy
  refine E_opw (v := v) (rd := [o]) (δ := none) ?_ hw rfl h
  simp only [opV, e, vLoad]
  rw [show obCells S o ver = some (flat f l) by simp [obCells, ho]]
  simp only [Option.bind_some]
  rw [hp, ← h2, h1, vPart_at hv]; rfl
theorem E_stR {a x nn rs} {K : Fr → List Ob → List LE → Prop} {o ver p n fo} {l : List α} {y y' : α} {S' : List Ob} {xv : AV} (he : Enc f esh) (e : ev (Fr.get fr) a = .ptr o ver p) (ex : ev (Fr.get fr) x = xv) (ho : hp S o = .arr ver (flat f l)) (hp : p = n * szOf esh + fo) (hy : l[n]? = some y)
    (hx : xv.cells.length = nn) (h1 : xv.cells.all AV.one = true) (hfit : fo + nn ≤ szOf esh) (hy' : (f y').cells = splice (f y).cells fo xv.cells) (hS : setAt S o (.arr ver (flat f (l.set n y'))) = S')
    (h : VTops P ow rs fr S' (.acc [o] (some o) :: log) K) : VTops P ow (⟨none, none, .op (.store nn a x)⟩ :: rs) fr S log K := by
  obtain ⟨a', b, q1, q2, q3⟩ := he.at hy
  have hn : n < l.length := (List.getElem?_eq_some_iff.1 hy).1
  refine E_do (v := .tup []) (rd := []) (δ := some (o, .arr ver (flat f (l.set n y')))) ?_ hS h
  simp only [opV, e, ex, vStore]
  rw [show obCells S o ver = some (flat f l) by simp [obCells, ho]]
  simp only [Option.bind_some]
  have hl := he.length l
  have hle : n * szOf esh + szOf esh ≤ l.length * szOf esh := by rw [← Nat.succ_mul]; exact Nat.mul_le_mul_right _ hn
  rw [if_pos ⟨hx, by omega, h1⟩]
  have e3 : splice (flat f l) p xv.cells = flat f (l.set n y') := by
    have hsz := he.sz y
    have : flat f (l.set n y') = a' ++ (f y').cells ++ b := by
      obtain ⟨a2, b2, r1, r2, _⟩ := he.at (l := l.set n y') (n := n) (y := y') (by simp [hn])
      have e4 : a2 = a' := by
        have t1 : (flat f (l.set n y')).take (n * szOf esh) = a2 := by rw [r1, List.append_assoc, List.take_left' r2]
        have t2 : (flat f l).take (n * szOf esh) = a' := by rw [q1, List.append_assoc, List.take_left' q2]
        rw [← t1, ← t2, he.take, he.take]
        congr 1
        exact List.take_set_of_le (by omega)
      have e5 : b2 = b := by
        have t1 : (flat f (l.set n y')).drop ((n + 1) * szOf esh) = b2 := by rw [r1, List.drop_left' (by rw [List.length_append, r2, he.sz, Nat.add_mul]; omega)]
        have t2 : (flat f l).drop ((n + 1) * szOf esh) = b := by rw [q1, List.drop_left' (by rw [List.length_append, q2, he.sz, Nat.add_mul]; omega)]
        rw [← t1, ← t2, he.drop, he.drop]
        congr 1
        exact List.drop_set_of_lt (by omega)
      rw [r1, e4, e5]
    rw [this, hy', hp, ← q2, q1]
    exact splice_at _ (by omega)
  rw [e3]
theorem E_appR {d bytes s x rs} {K : Fr → List Ob → List LE → Prop} {o ver : Nat} {l m : List α} {rdx : List Nat} {S' : List Ob} (he : Enc f esh) (e : ev (Fr.get fr) s = .ref o ver 0 l.length esh) (e2 : vSrc esh (ev (Fr.get fr) x) S = some (m.length, flat f m, rdx))
    (ho : hp S o = .arr ver (flat f l)) (hb : (l.length + m.length) * bytes ≤ 140737488355328 ∧ l.length + m.length ≤ 140737488355328) (hS : setAt S o (.arr (ver + 1) (flat f (l ++ m))) = S')
    (h : VTops P ow rs ((d, .ref o (ver + 1) 0 (l ++ m).length esh) :: fr) S' (.acc (o :: o :: rdx) (some o) :: log) K) : VTops P ow (⟨some d, none, .op (.app esh bytes s x)⟩ :: rs) fr S log K := by
  refine E_op (v := .ref o (ver + 1) 0 (l ++ m).length esh) (rd := o :: rdx) (δ := some (o, .arr (ver + 1) (flat f (l ++ m)))) ?_ rfl hS h
  simp only [opV, vApp, e, e2, Option.bind_some, he.all, if_true]
  rw [if_pos ⟨trivial, hb.1, hb.2⟩]
  have e3 : (flat f l).take (l.length * szOf esh) = flat f l := List.take_of_length_le (by rw [he.length]; exact Nat.le_refl _)
  simp only [obCells, ho, if_true, Option.map_some, List.drop_zero, e3, ← flat_append, List.length_append]
theorem src_sl {ex} (m : List α) : vSrc esh (.sl ex (szOf esh) (m.map f)) S = some (m.length, flat f m, []) := by
  simp only [vSrc, if_true, List.length_map, map_cells]
theorem src_nil : vSrc esh .nils S = some (([] : List α).length, flat f ([] : List α), []) := rfl
theorem src_ref (he : Enc f esh) {o ver} {m : List α} (ho : hp S o = .arr ver (flat f m)) : vSrc esh (.ref o ver 0 m.length esh) S = some (m.length, flat f m, [o]) := by
  have e3 : (flat f m).take (m.length * szOf esh) = flat f m := List.take_of_length_le (by rw [he.length]; exact Nat.le_refl _)
  simp only [vSrc, if_true, obCells, ho, Option.map_some, List.drop_zero, e3]
/-- A new list by append, owned. -/
theorem E_appN {d bytes s x rs} {K : Fr → List Ob → List LE → Prop} {m : List α} {rdx : List Nat} {S' : List Ob} (he : Enc f esh) (how : ow.contains d = true) (e : ev (Fr.get fr) s = .nils ∨ ev (Fr.get fr) s = .sl true (szOf esh) []) (e2 : vSrc esh (ev (Fr.get fr) x) S = some (m.length, flat f m, rdx))
    (hb : m.length * bytes ≤ 140737488355328 ∧ m.length ≤ 140737488355328) (hS : setAt S S.length (.arr 0 (flat f m)) = S')
    (h : VTops P ow rs ((d, .ref S.length 0 0 m.length esh) :: fr) S' (.acc (S.length :: rdx) (some S.length) :: log) K) : VTops P ow (⟨some d, none, .op (.app esh bytes s x)⟩ :: rs) fr S log K := by
  refine E_op (v := .ref S.length 0 0 m.length esh) (rd := rdx) (δ := some (S.length, .arr 0 (flat f m))) ?_ rfl hS h
  have how' : d ∈ ow := by simpa using how
  by_cases hm : m = []
  · subst hm
    rcases e with e | e <;> simp [opV, vApp, e, e2, flat_nil, how']
  · have hm0 : m.length ≠ 0 := fun h => hm (List.eq_nil_of_length_eq_zero h)
    have hl := he.length m
    have hl2 : m.length * szOf esh ≤ (flat f m).length := by omega
    rcases e with e | e <;> simp only [opV, vApp, e, e2, Option.bind_some, he.all, if_true, if_neg hm0] <;> rw [if_pos (by simpa using hb)] <;> simp [vNewSl, withRd, he.all, how', hl, map_cells]
/-- A new list by append, frozen. -/
theorem E_appF {d bytes s x rs} {K : Fr → List Ob → List LE → Prop} {l m : List α} {rdx : List Nat} (he : Enc f esh) (how : ow.contains d = false) (e : (ev (Fr.get fr) s = .nils ∧ l = []) ∨ ev (Fr.get fr) s = .sl true (szOf esh) (l.map f)) (e2 : vSrc esh (ev (Fr.get fr) x) S = some (m.length, flat f m, rdx))
    (hb : (l.length + m.length) * bytes ≤ 140737488355328 ∧ l.length + m.length ≤ 140737488355328)
    (h : VTops P ow rs ((d, .sl false (szOf esh) ((l ++ m).map f)) :: fr) S (.acc rdx none :: log) K) : VTops P ow (⟨some d, none, .op (.app esh bytes s x)⟩ :: rs) fr S log K := by
  have how' : d ∉ ow := by simpa using how
  by_cases hm : m = []
  · subst hm
    rcases e with ⟨e, rfl⟩ | e
    · refine E_opw (v := .nils) (rd := rdx) (δ := none) ?_ (by simpa using AVw.nil) rfl h
      simp [opV, vApp, e, e2, flat_nil, how']
    · refine E_opw (v := .sl true (szOf esh) (l.map f)) (rd := rdx) (δ := none) ?_ (by simpa using AVw.ex) rfl h
      simp [opV, vApp, e, e2, flat_nil, how']
  · have hm0 : m.length ≠ 0 := fun h => hm (List.eq_nil_of_length_eq_zero h)
    refine E_op (v := .sl false (szOf esh) ((l ++ m).map f)) (rd := rdx) (δ := none) ?_ rfl rfl h
    have hl := he.length (l ++ m)
    have hel := he.elems (l ++ m)
    have hal := he.all (l ++ m)
    rw [List.length_append] at hl hel
    rcases e with ⟨e, rfl⟩ | e
    · simp only [List.nil_append, List.length_nil, Nat.zero_add] at *
      simp only [opV, vApp, e, e2, Option.bind_some, he.all, if_true, if_neg hm0]
      rw [if_pos hb]
      simp [vNewSl, withRd, he.all, how', hl, hel]
    · simp only [opV, vApp, e, e2, Option.bind_some, he.all, if_true, if_neg hm0, List.length_map]
      rw [if_pos ⟨trivial, trivial, hb.1, hb.2⟩]
      simp only [map_cells, ← flat_append, vNewSl, withRd, how]
      rw [if_pos ⟨by omega, hal⟩]
      simp only [Bool.false_eq_true, if_false, Option.map_some, hel]
theorem E_slcF {d x lo hi rs} {K : Fr → List Ob → List LE → Prop} {ex} {l : List α} {a b : Nat} (e : ev (Fr.get fr) x = .sl ex (szOf esh) (l.map f)) (h1 : loN (evO (Fr.get fr) lo) = some a) (h2 : hiN l.length (evO (Fr.get fr) hi) = some b) (hab : a ≤ b ∧ b ≤ l.length)
    (h : VTops P ow rs ((d, .sl false (szOf esh) (((l.take b).drop a).map f)) :: fr) S (.acc [] none :: log) K) : VTops P ow (⟨some d, none, .op (.slc esh x lo hi none)⟩ :: rs) fr S log K := by
  refine E_op0 (v := .sl false (szOf esh) (((l.take b).drop a).map f)) ?_ rfl h
  simp only [opV, e, vSlc, h1, List.length_map, h2]
  rw [if_pos ⟨trivial, hab.1, hab.2⟩]
  rw [List.map_drop, List.map_take]; rfl
theorem E_slcR {d x lo hi rs} {K : Fr → List Ob → List LE → Prop} {o ver off n a b : Nat} (e : ev (Fr.get fr) x = .ref o ver off n esh) (h1 : loN (evO (Fr.get fr) lo) = some a) (h2 : hiN n (evO (Fr.get fr) hi) = some b) (hab : a ≤ b ∧ b ≤ n ∧ (a = 0 ∨ a < b))
    (h : VTops P ow rs ((d, .ref o ver (off + a * szOf esh) (b - a) esh) :: fr) S (.acc [] none :: log) K) : VTops P ow (⟨some d, none, .op (.slc esh x lo hi none)⟩ :: rs) fr S log K := by
  refine E_op0 (v := .ref o ver (off + a * szOf esh) (b - a) esh) ?_ rfl h
  simp only [opV, e, vSlc, h1, h2]
  rw [if_pos ⟨trivial, hab.1, hab.2.1, hab.2.2⟩]; rfl
theorem E_mkR {d} {bytes : Nat} {z l c rs} {K : Fr → List Ob → List LE → Prop} {k k' n n'} {S' : List Ob} {x : α} (he : Enc f esh) (how : ow.contains d = true) (e : ev (Fr.get fr) l = .int k n) (e1 : ev (Fr.get fr) c = .int k' n') (hz : (f x).cells = z) (hn : 0 ≤ n ∧ n ≤ n' ∧ n' * bytes ≤ 281474976710656 ∧ n' ≤ 281474976710656)
    (hS : setAt S S.length (.arr 0 (flat f (List.replicate n.toNat x))) = S')
    (h : VTops P ow rs ((d, .ref S.length 0 0 n.toNat esh) :: fr) S' (.acc [S.length] (some S.length) :: log) K) : VTops P ow (⟨some d, none, .op (.mksl esh bytes z l c)⟩ :: rs) fr S log K := by
  refine E_op (v := .ref S.length 0 0 n.toNat esh) (rd := []) (δ := some (S.length, .arr 0 (flat f (List.replicate n.toNat x)))) ?_ rfl hS h
  simp only [opV, vMksl, e, e1]
  rw [if_pos hn]
  subst hz
  have how' : d ∈ ow := by simpa using how
  simp [vNewSl, he.repl, he.all, he.length, how']
theorem E_mkF {d} {bytes : Nat} {z l c rs} {K : Fr → List Ob → List LE → Prop} {k k' n n'} {x : α} (he : Enc f esh) (how : ow.contains d = false) (e : ev (Fr.get fr) l = .int k n) (e1 : ev (Fr.get fr) c = .int k' n') (hz : (f x).cells = z) (hn : 0 ≤ n ∧ n ≤ n' ∧ n' * bytes ≤ 281474976710656 ∧ n' ≤ 281474976710656)
    (h : VTops P ow rs ((d, .sl false (szOf esh) ((List.replicate n.toNat x).map f)) :: fr) S (.acc [] none :: log) K) : VTops P ow (⟨some d, none, .op (.mksl esh bytes z l c)⟩ :: rs) fr S log K := by
  refine E_op0 (v := .sl false (szOf esh) ((List.replicate n.toNat x).map f)) ?_ rfl h
  simp only [opV, vMksl, e, e1]
  rw [if_pos hn]
  subst hz
  have hel := he.elems (List.replicate n.toNat x)
  simp only [List.length_replicate] at hel
  have hl := he.length (List.replicate n.toNat x)
  simp only [List.length_replicate] at hl
  simp only [vNewSl, he.repl, he.all, how]
  rw [if_pos ⟨by omega, trivial⟩]
  simp only [Bool.false_eq_true, if_false, hel]
theorem E_lenR {d x rs} {K : Fr → List Ob → List LE → Prop} {o ver off n e0} (e : ev (Fr.get fr) x = .ref o ver off n e0)
    (h : VTops P ow rs ((d, .int .i64 n) :: fr) S (.acc [] none :: log) K) : VTops P ow (⟨some d, none, .op (.len .sl x)⟩ :: rs) fr S log K := by
  refine E_op0 (v := .int .i64 n) ?_ rfl h
  simp [opV, e, vLen, pv]
end
end Go.Ab

/-! ### native values -/
namespace Go.Ab
open Go.RowKit
def avI (k : IntKind) (x : Int) : AV := .int k x
def avB (x : Bool) : AV := .bool x
def avS (x : ByteArray) : AV := .str x
def avL {α : Type} (sz : Nat) (f : α → AV) (l : List α) : AV := .sl false sz (l.map f)
def avP {α : Type} (f : α → AV) : Option α → AV
  | none => .nilp
  | some x => .cptr (f x).cells 0
theorem encI (k : IntKind) : Enc (avI k) none := ⟨fun _ => rfl, fun _ => rfl, fun _ => rfl, fun _ _ => rfl⟩
theorem encB : Enc avB none := ⟨fun _ => rfl, fun _ => rfl, fun _ => rfl, fun _ _ => rfl⟩
theorem encS : Enc avS none := ⟨fun _ => rfl, fun _ => rfl, fun _ => rfl, fun _ _ => rfl⟩
theorem encL {α : Type} {f : α → AV} {esh : Option Nat} (he : Enc f esh) (sz : Nat) : Enc (avL sz f) none := ⟨fun _ => rfl, fun _ => rfl, fun _ => rfl, fun x n => he.blwm n x⟩
theorem encP {α : Type} {f : α → AV} {esh : Option Nat} (he : Enc f esh) : Enc (avP f) none :=
  ⟨fun x => by cases x <;> rfl, fun x => by cases x <;> rfl, fun x => by cases x <;> rfl, fun x n => by cases x with | none => rfl | some x => exact cells_below (he.blw x n)⟩

def ofStr (s : ByteArray) : List Int := s.data.toList.map fun b => (b.toNat : Int)
def toStr (l : List Int) : Option ByteArray := (bytesOf (l.map (avI .u8))).map fun bs => ⟨bs.toArray⟩
def strI (s : ByteArray) (i : Int) : Option Int := if 0 ≤ i ∧ i < s.size then some ((s[i.toNat]?.getD 0).toNat : Int) else none
def catS (a b : ByteArray) : Option ByteArray := if a.size + b.size ≤ 9223372036854775807 then some (a ++ b) else none
def subS (s : ByteArray) (lo hi : Int) : Option ByteArray := if 0 ≤ lo ∧ lo ≤ hi ∧ hi ≤ s.size then some (s.extract lo.toNat hi.toNat) else none
def subL {α : Type} (l : List α) (lo hi : Int) : Option (List α) := if 0 ≤ lo ∧ lo ≤ hi ∧ hi ≤ l.length then some ((l.take hi.toNat).drop lo.toNat) else none
def appL {α : Type} (bytes : Nat) (l m : List α) : Option (List α) := if (l.length + m.length) * bytes ≤ 140737488355328 ∧ l.length + m.length ≤ 140737488355328 then some (l ++ m) else none
def mkL {α : Type} (bytes : Nat) (n n' : Int) (x : α) : Option (List α) := if 0 ≤ n ∧ n ≤ n' ∧ n' * bytes ≤ 281474976710656 ∧ n' ≤ 281474976710656 then some (List.replicate n.toNat x) else none
def setL {α : Type} (l : List α) (i : Int) (x : α) : Option (List α) := if 0 ≤ i ∧ i < l.length then some (l.set i.toNat x) else none
theorem strI_some {s i v} (h : strI s i = some v) : (0 ≤ i ∧ i < s.size) ∧ v = ((s[i.toNat]?.getD 0).toNat : Int) := by
  unfold strI at h; split at h
  · cases h; exact ⟨by assumption, rfl⟩
  · cases h
theorem catS_some {a b v} (h : catS a b = some v) : a.size + b.size ≤ 9223372036854775807 ∧ v = a ++ b := by
  unfold catS at h; split at h
  · cases h; exact ⟨by assumption, rfl⟩
  · cases h
theorem subS_some {s lo hi v} (h : subS s lo hi = some v) : (0 ≤ lo ∧ lo ≤ hi ∧ hi ≤ s.size) ∧ v = s.extract lo.toNat hi.toNat := by
  unfold subS at h; split at h
  · cases h; exact ⟨by assumption, rfl⟩
  · cases h
theorem subL_some {α : Type} {l : List α} {lo hi v} (h : subL l lo hi = some v) : (0 ≤ lo ∧ lo ≤ hi ∧ hi ≤ l.length) ∧ v = (l.take hi.toNat).drop lo.toNat := by
  unfold subL at h; split at h
  · cases h; exact ⟨by assumption, rfl⟩
  · cases h
theorem appL_some {α : Type} {bytes} {l m v : List α} (h : appL bytes l m = some v) : ((l.length + m.length) * bytes ≤ 140737488355328 ∧ l.length + m.length ≤ 140737488355328) ∧ v = l ++ m := by
  unfold appL at h; split at h
  · cases h; exact ⟨by assumption, rfl⟩
  · cases h
theorem mkL_some {α : Type} {bytes n n'} {x : α} {v} (h : mkL bytes n n' x = some v) : (0 ≤ n ∧ n ≤ n' ∧ n' * bytes ≤ 281474976710656 ∧ n' ≤ 281474976710656) ∧ v = List.replicate n.toNat x := by
  unfold mkL at h; split at h
  · cases h; exact ⟨by assumption, rfl⟩
  · cases h
theorem setL_some {α : Type} {l : List α} {i} {x : α} {v} (h : setL l i x = some v) : (0 ≤ i ∧ i < l.length) ∧ v = l.set i.toNat x := by
  unfold setL at h; split at h
  · cases h; exact ⟨by assumption, rfl⟩
  · cases h
theorem getI_of {α : Type} {l : List α} {i : Nat} {y : α} (h : l[i]? = some y) : getI l (i : Int) = some y := by
  unfold getI; rw [if_pos (by omega)]; simpa using h
theorem loN_int {k n} (h : 0 ≤ n) : loN (some (.int k n)) = some n.toNat := by simp [loN, h]
theorem hiN_int {k n len} (h : 0 ≤ n) : hiN len (some (.int k n)) = some n.toNat := by simp [hiN, h]

section
variable {P : Program} {S0 : List Ob} {ow : List Nat} {fr : Fr} {S : List Ob} {log : List LE} {α : Type} {f : α → AV} {esh : Option Nat}
theorem E_idxS {d x i rs} {K : Fr → List Ob → List LE → Prop} {s k n v} (e : ev (Fr.get fr) x = .str s) (e1 : ev (Fr.get fr) i = .int k n) (hv : strI s n = some v)
    (h : VTops P ow rs ((d, .int .u8 v) :: fr) S (.acc [] none :: log) K) : VTops P ow (⟨some d, none, .op (.idxs x i)⟩ :: rs) fr S log K := by
  obtain ⟨h1, rfl⟩ := strI_some hv
  refine E_op0 (v := .int .u8 ((s[n.toNat]?.getD 0).toNat : Int)) ?_ rfl h
  simp only [opV, e, e1, vIdxS]
  rw [if_pos h1]; rfl
theorem E_cat {d x y t rs} {K : Fr → List Ob → List LE → Prop} {a b v} (e : ev (Fr.get fr) x = .str a) (e1 : ev (Fr.get fr) y = .str b) (hv : catS a b = some v)
    (h : VTops P ow rs ((d, .str v) :: fr) S (.acc [] none :: log) K) : VTops P ow (⟨some d, none, .op (.bin t .add x y)⟩ :: rs) fr S log K := by
  obtain ⟨h1, rfl⟩ := catS_some hv
  refine E_op0 (v := .str (a ++ b)) ?_ rfl h
  simp only [opV, e, e1, vBin]
  rw [if_neg (fun h => h.2 h1)]; rfl
theorem E_sls {d x lo hi rs} {K : Fr → List Ob → List LE → Prop} {s a b v} (e : ev (Fr.get fr) x = .str s) (h1 : 0 ≤ a → loN (evO (Fr.get fr) lo) = some a.toNat) (h2 : 0 ≤ b → hiN s.size (evO (Fr.get fr) hi) = some b.toNat) (hv : subS s a b = some v)
    (h : VTops P ow rs ((d, .str v) :: fr) S (.acc [] none :: log) K) : VTops P ow (⟨some d, none, .op (.sls x lo hi)⟩ :: rs) fr S log K := by
  obtain ⟨h3, rfl⟩ := subS_some hv
  refine E_op0 (v := .str (s.extract a.toNat b.toNat)) ?_ rfl h
  simp only [opV, e, vSls, h1 h3.1, h2 (by omega)]
  rw [if_pos (by omega)]; rfl
theorem E_slcL {d x lo hi rs} {K : Fr → List Ob → List LE → Prop} {ex} {l v : List α} {a b : Int} (e : ev (Fr.get fr) x = .sl ex (szOf esh) (l.map f)) (h1 : 0 ≤ a → loN (evO (Fr.get fr) lo) = some a.toNat) (h2 : 0 ≤ b → hiN l.length (evO (Fr.get fr) hi) = some b.toNat) (hv : subL l a b = some v)
    (h : VTops P ow rs ((d, .sl false (szOf esh) (v.map f)) :: fr) S (.acc [] none :: log) K) : VTops P ow (⟨some d, none, .op (.slc esh x lo hi none)⟩ :: rs) fr S log K := by
  obtain ⟨h3, rfl⟩ := subL_some hv
  exact E_slcF e (h1 h3.1) (h2 (by omega)) (by omega) h
theorem E_b2s {d x rs} {K : Fr → List Ob → List LE → Prop} {ex} {l : List Int} {v} (e : ev (Fr.get fr) x = .sl ex 1 (l.map (avI .u8))) (hv : toStr l = some v)
    (h : VTops P ow rs ((d, .str v) :: fr) S (.acc [] none :: log) K) : VTops P ow (⟨some d, none, .op (.b2s x)⟩ :: rs) fr S log K := by
  unfold toStr at hv
  simp only [Option.map_eq_some_iff] at hv
  obtain ⟨bs, h1, rfl⟩ := hv
  refine E_op0 (v := .str ⟨bs.toArray⟩) ?_ rfl h
  simp only [opV, e, vB2s]
  have : vSrc none (.sl ex 1 (l.map (avI .u8))) S = some (l.length, flat (avI .u8) l, []) := src_sl (esh := none) l
  rw [this]
  have h2 : flat (avI .u8) l = l.map (avI .u8) := by
    clear h1 this e h
    induction l with
    | nil => rfl
    | cons x l ih => rw [flat_cons, ih]; rfl
  simp only [Option.bind_some, h2, h1, Option.map_some]
theorem E_s2b {d x rs} {K : Fr → List Ob → List LE → Prop} {s} (e : ev (Fr.get fr) x = .str s)
    (h : VTops P ow rs ((d, .sl false 1 ((ofStr s).map (avI .u8))) :: fr) S (.acc [] none :: log) K) : VTops P ow (⟨some d, none, .op (.s2b x)⟩ :: rs) fr S log K := by
  refine E_op0 (v := .sl false 1 ((ofStr s).map (avI .u8))) ?_ rfl h
  simp only [opV, e, vS2b, pv, Option.map_some, strCells, ofStr, List.map_map]
  rfl

def awF (fr : Fr) : Fr → Prop
  | [] => True
  | (t, v) :: r => AVw (Fr.get fr t) v ∧ awF fr r
theorem awF_get {fr : Fr} : ∀ {fr' : Fr}, awF fr fr' → ∀ t, AVw (Fr.get fr t) (Fr.get fr' t)
  | [], _, t => .junk _
  | (t', v) :: r, h, t => by
    rw [get_cons]
    split
    · rename_i e; subst e; exact h.1
    · exact awF_get h.2 t
theorem wk_aw {fr' : Fr} (h : awF fr fr') : Wk S0 fr S fr' S := GWk.refl.wk (awF_get h)
end

/-! ### renaming, the terms -/
section
variable {M : RMap} {S S' : List Ob}
theorem rn_ptr {o ver off o' ver' off' k cs cs'} (h1 : rmAt M o' = some (o, k)) (h2 : hp S o = .arr ver cs) (h3 : hp S' o' = .arr ver' cs') (e : off = k + off') : RnV (wkR M S S') (.ptr o ver off) (.ptr o' ver' off') := .ptr ⟨k, cs, cs', h1, h2, h3, e⟩
theorem rn_ref {o ver off n e o' ver' off' k cs cs'} (h1 : rmAt M o' = some (o, k)) (h2 : hp S o = .arr ver cs) (h3 : hp S' o' = .arr ver' cs') (e1 : off = k + off') (h4 : off' + n * szOf e ≤ cs'.length) : RnV (wkR M S S') (.ref o ver off n e) (.ref o' ver' off' n e) := .ref ⟨k, cs, cs', h1, h2, h3, e1, h4⟩
theorem rn_refL {α : Type} {f : α → AV} {e : Option Nat} (he : Enc f e) {o ver o' ver'} {l : List α} (h1 : rmAt M o' = some (o, 0)) (h2 : hp S o = .arr ver (flat f l)) (h3 : hp S' o' = .arr ver' (flat f l)) : RnV (wkR M S S') (.ref o ver 0 l.length e) (.ref o' ver' 0 l.length e) :=
  .ref ⟨0, _, _, h1, h2, h3, rfl, by rw [he.length]; omega⟩
theorem rn_nil {o' ver' e cs'} (h3 : hp S' o' = .arr ver' cs') : RnV (wkR M S S') .nils (.ref o' ver' 0 0 e) := .nil ⟨cs', h3⟩
theorem rn_b {R : Rn} {x : AV} (h : x.blw 0 = true) : RnV R x x := .base h (.refl _)
theorem rn_ob {S0 : List Ob} {o' o k v' cs' v cs} (h1 : rmAt M o' = some (o, k)) (h2 : hp S o = .arr v cs) (h3 : RnL (wkR M S S') k cs cs') (h4 : Nat.ble S0.length o' = true) : RnOb M S0 S S' o' (.arr v' cs') := by
  have h4 := Nat.le_of_ble_eq_true h4
  show match rmAt M o' with | some (o, k) => _ | none => _
  rw [h1]
  exact ⟨v, cs, h2, h3, fun h => by omega⟩
theorem rn_obS {S0 : List Ob} {o' v cs' cs} (h1 : rmAt M o' = some (o', 0)) (h2 : hp S o' = .arr v cs) (h3 : RnL (wkR M S S') 0 cs cs') (h4 : cs'.length = cs.length) : RnOb M S0 S S' o' (.arr v cs') := by
  show match rmAt M o' with | some (o, k) => _ | none => _
  rw [h1]
  exact ⟨v, cs, h2, h3, fun _ => .inl ⟨rfl, .inr ⟨rfl, rfl, h4⟩⟩⟩
theorem rn_obV {S0 : List Ob} {o' o k v' cs' v cs v0 c0} (h1 : rmAt M o' = some (o, k)) (h2 : hp S o = .arr v cs) (h3 : RnL (wkR M S S') k cs cs') (h0 : hp S0 o' = .arr v0 c0) (hv : Nat.blt v0 v' = true) : RnOb M S0 S S' o' (.arr v' cs') := by
  show match rmAt M o' with | some (o, k) => _ | none => _
  rw [h1]
  exact ⟨v, cs, h2, h3, fun _ => .inr ⟨v0, c0, h0, by simpa [Nat.blt_eq] using hv⟩⟩
theorem rn_obN {S0 : List Ob} {o' v' cs'} (h1 : rmAt M o' = none) (h : cs' = []) (h4 : Nat.ble S0.length o' = true) : RnOb M S0 S S' o' (.arr v' cs') := by
  have h4 := Nat.le_of_ble_eq_true h4
  show match rmAt M o' with | some (o, k) => _ | none => _
  rw [h1]
  exact ⟨h, h4⟩
end

/-! ### freezing, the terms -/
section
variable {k0 k : Nat} {S : List Ob}
theorem fz_b {x y : AV} (hb : x.blw k0 = true) (h : AVw x y) : AVw (frz k0 S k x) y := by rw [frz_id hb]; exact h
def fzL (k0 k : Nat) (S : List Ob) : List AV → List AV → Prop
  | [], [] => True
  | x :: xs, y :: ys => AVw (frz k0 S k x) y ∧ fzL k0 k S xs ys
  | _, _ => False
theorem fzL_aw : ∀ {xs ys : List AV}, fzL k0 k S xs ys → awL (xs.map (frz k0 S k)) ys
  | [], [], _ => trivial
  | _ :: _, _ :: _, h => ⟨h.1, fzL_aw h.2⟩
theorem fz_tup {xs ys : List AV} (h : fzL k0 k S xs ys) : AVw (frz k0 S (k + 1) (.tup xs)) (.tup ys) := by
  have h1 := fzL_aw h
  simp only [frz]
  split
  · rename_i hb
    have hb' : blwL k0 xs = true := hb
    rw [frz_map hb'] at h1
    exact .tupL h1
  · exact .tupL h1
theorem fz_agg {xs ys : List AV} (h : fzL k0 k S xs ys) : AVw (frz k0 S (k + 1) (.agg xs)) (.agg ys) := by
  have h1 := fzL_aw h
  simp only [frz]
  split
  · rename_i hb
    have hb' : blwL k0 xs = true := hb
    rw [frz_map hb'] at h1
    exact .aggL h1
  · exact .aggL h1
theorem fz_ptr {o ver off} {xs ys : List AV} (h0 : k0 ≤ o) (ho : hp S o = .arr ver xs) (h : fzL k0 k S xs ys) : AVw (frz k0 S (k + 1) (.ptr o ver off)) (.cptr ys off) := by
  have h1 := fzL_aw h
  have hb : (AV.ptr o ver off).blw k0 = false := by simp [AV.blw]; omega
  simp only [frz, hb, ho, if_true, Bool.false_eq_true, if_false]
  exact .cptrL h1
theorem fz_ref {α : Type} {f : α → AV} {esh : Option Nat} (he : Enc f esh) {o ver} {l : List α} (h0 : k0 ≤ o) (ho : hp S o = .arr ver (flat f l)) : AVw (frz k0 S (k + 1) (.ref o ver 0 l.length esh)) (.sl false (szOf esh) (l.map f)) := by
  have hb : (AV.ref o ver 0 l.length esh).blw k0 = false := by simp [AV.blw]; omega
  have hm : (flat f l).map (frz k0 S k) = flat f l := frz_map (he.blwf k0 l)
  simp only [frz, hb, ho, Bool.false_eq_true, if_false, hm, List.drop_zero]
  rw [if_pos ⟨trivial, by rw [he.length]; omega, he.all l⟩, he.elems]
  exact .refl _
end
end Go.Ab

/-! ### loops that may end the function -/
namespace Go.Ab
open Go.RowKit
def oc {σ β : Type} (f : σ → Option β) : Out σ (Option β) → Option β
  | .fin s => f s
  | .ret v => v
section
variable {P : Program} {S0 : List Ob} {ow : List Nat} {fr : Fr} {S : List Ob} {σ β : Type} {nx bk : Nat → Bool} {F : σ → Fr} {T : σ → List Ob} {Fx : σ → Fr} {Tx : σ → List Ob} {f : σ → Option β} {r : β} {K : Post}
theorem L_rxO {v : Option β} {c : Stp σ (Option β)} {j} (e : c = .ret v) (hj : nx j = false) (hb : bk j = false) (h : v = some r → K (.exit j) fr S) : LPost S0 nx bk F T Fx Tx (oc f) r K c (.exit j) fr S := L_rx e hj hb h
theorem L_rrO {v : Option β} {c : Stp σ (Option β)} (e : c = .ret v) (h : v = some r → K .ret fr S) : LPost S0 nx bk F T Fx Tx (oc f) r K c .ret fr S := L_rr e h
theorem E_whileO {a : FC} {id : Nat} {body : σ → Option (Stp σ (Option β))} {n : Nat} {s0 : σ} (F : σ → Fr) (T : σ → List Ob) (h : (whileN body n s0).bind (oc f) = some r)
    (hw : Wk S0 fr S (F s0) (T s0))
    (hb : ∀ s c, body s = some c → VT P S0 ow a (F s) (T s) (LPost S0 (fun _ => false) (fun j => j == id) F T F T (oc f) r K c))
    (hx : ∀ s fr' S', f s = some r → Wk S0 fr' S' (F s) (T s) → K .normal fr' S') : VT P S0 ow (.block id (.loop a)) fr S K := E_while body F T h hw hb hx
theorem E_rniO {tc ti tn tj id id2 : Nat} {B : FC} {body : Nat → σ → Option (Stp σ (Option β))} {n : Int} {s0 : σ} (F : σ → Fr) (T : σ → List Ob) (h : (rni body n s0).bind (oc f) = some r)
    (h1 : ti ≠ tn) (h2 : tj ≠ tn) (hF : ∀ s, Fr.get (F s) tj = .junk ∧ Fr.get (F s) ti = .junk ∧ Fr.get (F s) tn = .junk ∧ Fr.get (F s) tc = .junk)
    (hw : Wk S0 fr S ((ti, .int .i64 0) :: (tn, .int .i64 n) :: F s0) (T s0))
    (hb : ∀ (i : Nat) s c, (i : Int) < n → body i s = some c → VT P S0 ow B ((tc, .bool true) :: (ti, .int .i64 i) :: (tn, .int .i64 n) :: F s) (T s)
      (LPost S0 (fun j => j == id2) (fun j => j == id) (fun s => (ti, .int .i64 i) :: (tn, .int .i64 n) :: F s) T F T (oc f) r K c))
    (hx : ∀ s fr' S', f s = some r → Wk S0 fr' S' (F s) (T s) → K .normal fr' S') :
    VT P S0 ow (.block id (.loop (.seq (.reg [⟨some tc, none, .op (.bin .none .lss (.t ti) (.t tn))⟩] []) (.seq (.cond (.t tc) .skip (.exit id)) (.seq (.block id2 B) (.reg [⟨some tj, none, .op (.bin .none .add (.t ti) (.v (.int .i64 1)))⟩, ⟨some ti, none, .op (.mv (.t tj))⟩] [])))))) fr S K := E_rni body F T h h1 h2 hF hw hb hx
theorem E_rngO {α : Type} {tc ti tn tj id id2 : Nat} {B : FC} {body : Nat → α → σ → Option (Stp σ (Option β))} {xs : List α} {s0 : σ} (F : σ → Fr) (T : σ → List Ob) (h : (rng body xs s0).bind (oc f) = some r)
    (h1 : ti ≠ tn) (h2 : tj ≠ tn) (hF : ∀ s, Fr.get (F s) tj = .junk ∧ Fr.get (F s) ti = .junk ∧ Fr.get (F s) tn = .junk ∧ Fr.get (F s) tc = .junk)
    (hw : Wk S0 fr S ((ti, .int .i64 0) :: (tn, .int .i64 xs.length) :: F s0) (T s0))
    (hb : ∀ (i : Nat) x s c, xs[i]? = some x → i < xs.length → body i x s = some c → VT P S0 ow B ((tc, .bool true) :: (ti, .int .i64 i) :: (tn, .int .i64 xs.length) :: F s) (T s)
      (LPost S0 (fun j => j == id2) (fun j => j == id) (fun s => (ti, .int .i64 i) :: (tn, .int .i64 xs.length) :: F s) T F T (oc f) r K c))
    (hx : ∀ s fr' S', f s = some r → Wk S0 fr' S' (F s) (T s) → K .normal fr' S') :
    VT P S0 ow (.block id (.loop (.seq (.reg [⟨some tc, none, .op (.bin .none .lss (.t ti) (.t tn))⟩] []) (.seq (.cond (.t tc) .skip (.exit id)) (.seq (.block id2 B) (.reg [⟨some tj, none, .op (.bin .none .add (.t ti) (.v (.int .i64 1)))⟩, ⟨some ti, none, .op (.mv (.t tj))⟩] [])))))) fr S K := E_rng body F T h h1 h2 hF hw hb hx
/-- At a loop's end the state is met again. -/
theorem X_nx {b} {K K0 : Post} {fr' : Fr} {S' : List Ob} {F' : Fr} {T' : List Ob} (hw : Wk S0 fr' S' F' T') (h : VT P S0 ow b F' T' K) : Post.thn (fun fr' S' => ∃ F T, Wk S0 fr' S' F T ∧ VT P S0 ow b F T K) K0 .normal fr' S' := E_nxw hw h
theorem X_jp {k' : σ → Option β} {K0 : Post} {fr' : Fr} {S' : List Ob} {F' : Fr} {T' : List Ob} (s : σ) (h : k' s = some r) (hw : Wk S0 fr' S' F' T') (hw2 : Wk S0 F' T' (F s) (T s)) : Post.thn (fun fr' S' => ∃ s, k' s = some r ∧ Wk S0 fr' S' (F s) (T s)) K0 .normal fr' S' := ⟨s, h, wk_trans hw hw2⟩
theorem X_nn {k : Out σ (Option β) → Option β} {c : Stp σ (Option β)} {fr' : Fr} {S' : List Ob} {F' : Fr} {T' : List Ob} {s : σ} (e : c = .nxt s) (hw : Wk S0 fr' S' F' T') (hw2 : Wk S0 F' T' (F s) (T s)) : LPost S0 nx bk F T Fx Tx k r K c .normal fr' S' := L_nn e (wk_trans hw hw2)
end
end Go.Ab
