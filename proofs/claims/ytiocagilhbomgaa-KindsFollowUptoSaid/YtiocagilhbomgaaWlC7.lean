/- A region whose order is open is sound. -/
import Derived.Test.YtiocagilhbomgaaWlC6
namespace Go.Ab
open Go.RowKit
set_option linter.unusedVariables false
set_option linter.unusedSimpArgs false

theorem filter_lt {p q : Nat → Bool} : ∀ (l : List Nat) (_ : ∀ i ∈ l, q i = true → p i = true) (x : Nat), x ∈ l → p x = true → q x = false → (l.filter q).length < (l.filter p).length
  | [], _, x, h, _, _ => by simp at h
  | y :: l, hpq, x, hx, h1, h2 => by
    have hle : ∀ (l : List Nat), (∀ i ∈ l, q i = true → p i = true) → (l.filter q).length ≤ (l.filter p).length := by
      intro l
      induction l with
      | nil => simp
      | cons z l ih =>
        intro h
        have := ih (fun i hi => h i (by simp [hi]))
        have hz := h z (by simp)
        cases hq : q z <;> cases hp : p z <;> simp [List.filter_cons, hq, hp] <;> first | omega | (rw [hq, hp] at hz; simp at hz)
    rcases List.mem_cons.1 hx with rfl | hx
    · have := hle l (fun i hi => hpq i (by simp [hi]))
      simp [List.filter_cons, h1, h2]; omega
    · have ih := filter_lt l (fun i hi => hpq i (by simp [hi])) x hx h1 h2
      have hz := hpq y (by simp)
      cases hq : q y <;> cases hp : p y <;> simp [List.filter_cons, hq, hp] <;> first | omega | (rw [hq, hp] at hz; simp at hz)

theorem drawOK_get {ops : List Oper} {rs : List ROper} {pairs} (h : drawOK ops rs pairs = true) (hl : rs.length = ops.length) :
    (∀ i o, ops[i]? = some o → ∀ e ∈ o.after.toList, Region.binds .any e = true → e.on < i) ∧
    (∀ i j x y, i < j → ordB (befAll [] ops) i j = false → rs[i]? = some x → rs[j]? = some y →
      (x.c.quiet = true ∨ y.c.quiet = true ∨ (x.c.reads = true ∧ y.c.reads = true) ∨ (i, j) ∈ pairs) ∧ (∀ d, x.dst = some d → d ∉ namesOf y) ∧ (∀ d, y.dst = some d → d ∉ namesOf x)) := by
  unfold drawOK at h
  simp only [List.all_eq_true, List.mem_range, Bool.and_eq_true] at h
  refine ⟨fun i o hi e he hb => ?_, fun i j x y hij ho hx hy => ?_⟩
  · have hlt : i < ops.length := by
      rcases Nat.lt_or_ge i ops.length with h | h
      · exact h
      · rw [List.getElem?_eq_none h] at hi; cases hi
    have := (h i hlt).1
    rw [hi] at this
    simp only [Option.map_some, Option.getD_some, List.all_eq_true, Bool.or_eq_true, Bool.not_eq_true', decide_eq_true_eq] at this
    rcases this e he with h | h
    · rw [hb] at h; cases h
    · exact h
  · have hlj : j < ops.length := by
      rcases Nat.lt_or_ge j rs.length with h | h
      · omega
      · rw [List.getElem?_eq_none h] at hy; cases hy
    have := (h i (by omega)).2 j hlj
    rw [if_pos (by simp [hij, ho]), hx, hy] at this
    simp only [Bool.and_eq_true, Bool.or_eq_true, List.contains_iff_mem] at this
    obtain ⟨⟨h1, h2⟩, h3⟩ := this
    refine ⟨?_, fun d hd => ?_, fun d hd => ?_⟩
    · rcases h1 with ((h1 | h1) | h1) | h1
      · exact .inl h1
      · exact .inr (.inl h1)
      · exact .inr (.inr (.inl h1))
      · exact .inr (.inr (.inr h1))
    · rw [hd] at h2
      simpa using h2
    · rw [hd] at h3
      simpa using h3

section
variable {P : Program} {n : Nat} {ops : Array Oper} {rs : List ROper} {pairs : List (Nat × Nat)} (hr : resOpers P n ops ops.toList = some rs) (hd : drawOK ops.toList rs pairs = true)
  (r : Rec P rs rs.length) (hlog : okLog pairs (r.log rs.length))

def listedP (listed : Array Bool) (i : Nat) : Prop := listed.getD i false = true

def closedP (ops : Array Oper) (ls : Nat → Prop) : Prop := ∀ i (o : Oper), ops.toList[i]? = some o → ls i → ∀ e ∈ o.after.toList, Region.binds .any e = true → ls e.on

/-- An operation that may be next, and another that is ordered with it. -/
theorem next_ordered {ls : Nat → Prop} (hcl : closedP ops ls) {i : Nat} {o : Oper} (ho : ops.toList[i]? = some o) (hni : ¬ ls i)
    (hrd : ∀ e ∈ o.after.toList, Region.binds .any e = true → ls e.on) {j : Nat} (hji : j ≠ i) (hord : ordB (befAll [] ops.toList) (min i j) (max i j) = true) : ls j ↔ j < i := by
  have hcl' : closedP ops (fun k => ls k ∨ k = i) := by
    intro k o' hk hls e he hb
    rcases hls with h | rfl
    · exact .inl (hcl k o' hk h e he hb)
    · rw [ho] at hk; cases hk; exact .inl (hrd e he hb)
  have key : ∀ {ls' : Nat → Prop}, closedP ops ls' → ∀ k, ls' k → ∀ m, ((befAll [] ops.toList).getD k 0).testBit m = true → ls' m := fun {ls'} h => bef_closed ops.toList [] [] rfl h (by simp)
  unfold ordB at hord
  rw [show max (min i j) (max i j) = max i j by omega, show min (min i j) (max i j) = min i j by omega] at hord
  rcases Nat.lt_or_ge j i with h | h
  · rw [show max i j = i by omega, show min i j = j by omega] at hord
    refine ⟨fun _ => h, fun _ => ?_⟩
    rcases key hcl' i (.inr rfl) j hord with h | h
    · exact h
    · omega
  · rw [show max i j = j by omega, show min i j = i by omega] at hord
    exact ⟨fun hj => absurd (key hcl j hj i hord) hni, fun hlt => by omega⟩

include hr hd in
theorem slots_fixed {ls : Nat → Prop} (hcl : closedP ops ls) {i : Nat} {o : Oper} (ho : ops.toList[i]? = some o) (hni : ¬ ls i)
    (hrd : ∀ e ∈ o.after.toList, Region.binds .any e = true → ls e.on) {ro : ROper} (hro : rs[i]? = some ro) {t : Nat} (ht : t ∈ namesOf ro) : ∀ j, j < rs.length → wrT rs t j → j ≠ i → (ls j ↔ j < i) := by
  intro j hj hw hji
  obtain ⟨ro', e1, e2⟩ := hw
  cases hb : ordB (befAll [] ops.toList) (min i j) (max i j) with
  | true => exact next_ordered hcl ho hni hrd hji hb
  | false =>
    exfalso
    obtain ⟨hlen, _⟩ := resOpers_get hr
    have hdr := (drawOK_get hd hlen).2
    rcases Nat.lt_or_ge j i with h | h
    · rw [show max i j = i by omega, show min i j = j by omega] at hb
      exact (hdr j i ro' ro h hb e1 hro).2.1 t e2 ht
    · rw [show max i j = j by omega, show min i j = i by omega] at hb
      exact (hdr i j ro ro' (by omega) hb hro e1).2.2 t e2 ht

/-- What was changed, by an operation that was carried out. -/
theorem changed_by {j : Nat} {ro : ROper} (hj : j < rs.length) (hro : rs[j]? = some ro) {o : Nat} (hw : hp (r.S (j + 1)) o ≠ hp (r.S j) o) :
    StepG P ro.c (r.F j) (hp (r.S j)) (r.val j) (hp (r.S (j + 1))) (lgOf (r.le j)) ∧ (∀ A B, r.le j = .eff A B → A = r.S j ∧ B = r.S (j + 1)) ∧ ro.c.reads = false ∧ ro.c.quiet = false ∧ (∀ fp wr, r.le j = .acc fp wr → wr = some o ∧ o ∈ fp) := by
  rcases r.go j ro hj hro with ⟨_, h1, h2⟩ | ⟨_, _, h2, _⟩
  · refine ⟨h1, h2, ?_, ?_, fun fp wr e => ?_⟩
    · cases h : ro.c.reads with
      | false => rfl
      | true => exact absurd (congrFun (reads_le h h1).1 o) hw
    · cases h : ro.c.quiet with
      | false => rfl
      | true => exact absurd (congrFun (quiet_le h h1).1 o) hw
    · rw [e] at h1
      obtain ⟨c1, c2⟩ := StepG_changes h1
      have : wr = some o := Classical.byContradiction fun hne => hw (c1 o hne)
      exact ⟨this, c2 o this⟩
  · rw [h2] at hw; exact absurd rfl hw

theorem okPair_symm {a b : LE} (h : okPair a b) : okPair b a := by
  cases a <;> cases b <;> simp only [okPair] at h ⊢ <;> first | exact h.elim | exact h | exact ⟨h.2, h.1⟩

include hr hd hlog in
theorem objs_fixed {ls : Nat → Prop} (hcl : closedP ops ls) {i : Nat} {o : Oper} (ho : ops.toList[i]? = some o) (hni : ¬ ls i)
    (hrd : ∀ e ∈ o.after.toList, Region.binds .any e = true → ls e.on) {ro : ROper} (hi : i < rs.length) (hro : rs[i]? = some ro) {ob : Nat}
    (hstep : StepG P ro.c (r.F i) (hp (r.S i)) (r.val i) (hp (r.S (i + 1))) (lgOf (r.le i)))
    (hob : match r.le i with | .acc fp _ => ob ∈ fp | .eff _ _ => True) : ∀ j, j < rs.length → r.W ob j → j ≠ i → (ls j ↔ j < i) := by
  intro j hj hw hji
  cases hb : ordB (befAll [] ops.toList) (min i j) (max i j) with
  | true => exact next_ordered hcl ho hni hrd hji hb
  | false =>
    exfalso
    obtain ⟨hlen, _⟩ := resOpers_get hr
    have hdr := (drawOK_get hd hlen).2
    have hroj : rs[j]? = some rs[j] := List.getElem?_eq_getElem hj
    obtain ⟨c1, c2, c3, c4, c5⟩ := changed_by r hj hroj hw.2
    have hpair : (ro.c.quiet = true ∨ (rs[j]).c.quiet = true ∨ (ro.c.reads = true ∧ (rs[j]).c.reads = true) ∨ okPair (r.le i) (r.le j)) := by
      rcases Nat.lt_or_ge j i with h | h
      · rw [show max i j = i by omega, show min i j = j by omega] at hb
        rcases (hdr j i _ _ h hb hroj hro).1 with q | q | ⟨q, q'⟩ | q
        · exact .inr (.inl q)
        · exact .inl q
        · exact .inr (.inr (.inl ⟨q', q⟩))
        · have := okLog_get hlog j i q
          rw [nthL_log r _ _ hj, nthL_log r _ _ hi] at this
          exact .inr (.inr (.inr (okPair_symm this)))
      · rw [show max i j = j by omega, show min i j = i by omega] at hb
        rcases (hdr i j _ _ (by omega) hb hro hroj).1 with q | q | ⟨q, q'⟩ | q
        · exact .inl q
        · exact .inr (.inl q)
        · exact .inr (.inr (.inl ⟨q, q'⟩))
        · have := okLog_get hlog i j q
          rw [nthL_log r _ _ hi, nthL_log r _ _ hj] at this
          exact .inr (.inr (.inr this))
    rcases hpair with q | q | ⟨_, q⟩ | q
    · have hle := (quiet_le q hstep).2
      cases hli : r.le i with
      | acc fp wr => rw [hli] at hle hob; simp only [lgOf, LG.acc.injEq] at hle; rw [hle.1] at hob; simp at hob
      | eff A B => rw [hli] at hle; simp [lgOf] at hle
    · rw [c4] at q; cases q
    · rw [c3] at q; cases q
    · cases hli : r.le i with
      | acc fp wr =>
        rw [hli] at hob q
        cases hlj : r.le j with
        | acc fp' wr' =>
          rw [hlj] at q
          obtain ⟨e1, e2⟩ := c5 fp' wr' hlj
          subst e1
          exact q.2 hob
        | eff A B =>
          rw [hlj] at q
          obtain ⟨rfl, rfl⟩ := c2 A B hlj
          exact hw.2 (q.2 ob hob)
      | eff A B =>
        rw [hli] at q
        cases hlj : r.le j with
        | acc fp' wr' =>
          rw [hlj] at q
          obtain ⟨e1, e2⟩ := c5 fp' wr' hlj
          rw [q.1] at e1; cases e1
        | eff A' B' => rw [hlj] at q; exact q
end
end Go.Ab
