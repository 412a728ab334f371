/- Objects under other numbers: renaming; a contract on a small heap holds in a bigger one; freezing. -/
import Derived.Test.YtiocagilhbomgaaWlD4
namespace Go.Ab
open Go.RowKit
set_option linter.unusedVariables false
set_option linter.unusedSimpArgs false

structure Rn where
  qp : Nat → Nat → Nat → Nat → Nat → Nat → Prop
  qr : Nat → Nat → Nat → Nat → Option Nat → Nat → Nat → Nat → Prop
  qn : Nat → Nat → Prop

inductive RnV (R : Rn) : AV → AV → Prop
  | base {x y : AV} (hb : x.blw 0 = true) (h : AVw x y) : RnV R x y
  | junk (x) : RnV R x .junk
  | ptr {o ver off o' ver' off'} (h : R.qp o ver off o' ver' off') : RnV R (.ptr o ver off) (.ptr o' ver' off')
  | ref {o ver off n e o' ver' off'} (h : R.qr o ver off n e o' ver' off') : RnV R (.ref o ver off n e) (.ref o' ver' off' n e)
  | nil {o' ver' e} (h : R.qn o' ver') : RnV R .nils (.ref o' ver' 0 0 e)
  | ex {sz o' ver' e} (h : R.qn o' ver') : RnV R (.sl true sz []) (.ref o' ver' 0 0 e)
  | agg {xs ys : List AV} (hl : xs.length = ys.length) (h : ∀ j (h1 : j < xs.length) (h2 : j < ys.length), RnV R xs[j] ys[j]) : RnV R (.agg xs) (.agg ys)
  | tup {xs ys : List AV} (hl : xs.length = ys.length) (h : ∀ j (h1 : j < xs.length) (h2 : j < ys.length), RnV R xs[j] ys[j]) : RnV R (.tup xs) (.tup ys)
  | iface {t x y} (h : RnV R x y) : RnV R (.iface t x) (.iface t y)
  | fn {f} {xs ys xs' ys' : List AV} (hl : xs.length = ys.length) (h : ∀ j (h1 : j < xs.length) (h2 : j < ys.length), RnV R xs[j] ys[j])
      (hl' : xs'.length = ys'.length) (h' : ∀ j (h1 : j < xs'.length) (h2 : j < ys'.length), RnV R xs'[j] ys'[j]) : RnV R (.fn f xs xs') (.fn f ys ys')

structure RnOK (R : Rn) (pm pm' : Pm) (L L' : Nat → Loc) (σ σ' : Hp) : Prop where
  pm : ∀ b o v, pm b o = some v → pm' b o = some v
  p : ∀ o ver off o' ver' off' a, R.qp o ver off o' ver' off' → PtrOK L σ o ver off a → PtrOK L' σ' o' ver' off' a
  r : ∀ o ver off n e o' ver' off' a cap, R.qr o ver off n e o' ver' off' → RefOK L σ o ver off n (szOf e) a cap → RefOK L' σ' o' ver' off' n (szOf e) a cap
  rn : ∀ o ver off e o' ver' off', R.qr o ver off 0 e o' ver' off' → VerOK σ' o' ver'
  n : ∀ o' ver', R.qn o' ver' → VerOK σ' o' ver'

theorem VR.pmle {pm pm' : Pm} {L σ} (h : ∀ b o v, pm b o = some v → pm' b o = some v) {x u} (k : VR pm L σ x u) : VR pm' L σ x u :=
  k.mono ⟨h, fun _ => ObExt.refl _ _⟩

theorem VR.rn {R : Rn} {pm pm' L L' σ σ'} (ok : RnOK R pm pm' L L' σ σ') {x y : AV} {u : Value} (k : RnV R x y) (h : VR pm L σ x u) : VR pm' L' σ' y u := by
  induction k generalizing u with
  | base hb hw => exact ((h.agree hb (fun o ho => by omega)).pmle ok.pm).w hw
  | junk => exact .junk
  | ptr hq => cases h with | ptr hp => exact .ptr (ok.p _ _ _ _ _ _ _ hq hp)
  | ref hq =>
    cases h with
    | ref hn hs hr => exact .ref hn hs (ok.r _ _ _ _ _ _ _ _ _ _ hq hr)
    | refnil _ => exact .refnil (ok.rn _ _ _ _ _ _ _ hq)
  | nil hq => cases h; exact .refnil (ok.n _ _ hq)
  | ex hq =>
    cases h with
    | slnil => exact .refnil (ok.n _ _ hq)
    | slz => exact .refnil (ok.n _ _ hq)
    | sl us hc hex hz hp hv =>
      have := hex rfl
      simp at this
      subst this
      exact .refnil (ok.n _ _ hq)
  | agg hl _ ih => cases h with | agg a b => exact .agg (by omega) (fun j h1 h2 => ih j (by omega) h1 (b j (by omega) h2))
  | tup hl _ ih => cases h with | tup a b => exact .tup (by omega) (fun j h1 h2 => ih j (by omega) h1 (b j (by omega) h2))
  | iface _ ih => cases h with | iface h => exact .iface (ih h)
  | fn hl _ hl' _ ih ih' => cases h with | fn a b c d => exact .fn (by omega) (by omega) (fun j h1 h2 => ih j (by omega) h1 (c j (by omega) h2)) (fun j h1 h2 => ih' j (by omega) h1 (d j (by omega) h2))

/-- Cells from a place on, renamed. -/
def RnL (R : Rn) (k : Nat) (cs cs' : List AV) : Prop := k + cs'.length ≤ cs.length ∧ ∀ j (h : k + j < cs.length) (h' : j < cs'.length), RnV R cs[k + j] cs'[j]

theorem RnL.refl {R} {cs : List AV} (h : blwL 0 cs = true) : RnL R 0 cs cs := ⟨by simp, fun j h1 h2 => by
  simp only [Nat.zero_add]
  exact .base (blwL_get h j h2) (.refl _)⟩
theorem RnL.nil {R} {cs : List AV} {k} (h : k ≤ cs.length) : RnL R k cs [] := ⟨by simpa using h, fun j h1 h2 => by simp at h2⟩
theorem RnL.cons {R} {x y : AV} {xs ys : List AV} (h : RnV R x y) (k : RnL R 0 xs ys) : RnL R 0 (x :: xs) (y :: ys) :=
  ⟨by have := k.1; simp at this ⊢; omega, fun j h1 h2 => by
    cases j with
    | zero => simpa using h
    | succ j =>
      have := k.2 j (by simp at h1; omega) (by simpa using h2)
      simpa [show 0 + (j + 1) = (0 + j) + 1 by omega] using this⟩
theorem RnL.mid {R} {cs cs' : List AV} {k : Nat} (hb : blwL 0 cs = true) (h : k + cs'.length ≤ cs.length) (e : cs' = (cs.drop k).take cs'.length) : RnL R k cs cs' :=
  ⟨h, fun j h1 h2 => by
    have : cs'[j] = cs[k + j] := by
      have h3 : cs'[j]? = ((cs.drop k).take cs'.length)[j]? := by rw [← e]
      rw [List.getElem?_eq_getElem h2, List.getElem?_take, if_pos h2, List.getElem?_drop, List.getElem?_eq_getElem h1] at h3
      exact Option.some.inj h3
    rw [this]
    exact .base (blwL_get hb _ h1) (.refl _)⟩

/-- Which old object a new one is, and from where on; none: a new one without cells. -/
abbrev RMap := List (Option (Nat × Nat))
def rmAt (M : RMap) (o : Nat) : Option (Nat × Nat) := match M[o]? with | some x => x | none => none

def wkR (M : RMap) (S S' : List Ob) : Rn where
  qp o ver off o' ver' off' := ∃ k cs cs', rmAt M o' = some (o, k) ∧ hp S o = .arr ver cs ∧ hp S' o' = .arr ver' cs' ∧ off = k + off'
  qr o ver off n e o' ver' off' := ∃ k cs cs', rmAt M o' = some (o, k) ∧ hp S o = .arr ver cs ∧ hp S' o' = .arr ver' cs' ∧ off = k + off' ∧ off' + n * szOf e ≤ cs'.length
  qn o' ver' := ∃ cs', hp S' o' = .arr ver' cs'

def rnAll (Q : Nat → Ob → Prop) : Nat → List Ob → Prop
  | _, [] => True
  | i, x :: r => Q i x ∧ rnAll Q (i + 1) r

theorem rnAll_get {Q : Nat → Ob → Prop} : ∀ {l : List Ob} {i : Nat}, rnAll Q i l → ∀ j (h : j < l.length), Q (i + j) l[j]
  | [], _, _, j, h => by simp at h
  | x :: r, i, h, 0, _ => h.1
  | x :: r, i, h, j + 1, hj => by
    have := rnAll_get h.2 j (by simpa using hj)
    simpa [show i + (j + 1) = i + 1 + j by omega] using this

/-- What a new object must be. `m`: how many objects were there at the call. -/
def RnOb (M : RMap) (S0 S S' : List Ob) (o' : Nat) (x : Ob) : Prop :=
  match x with
  | .arr v' cs' => match rmAt M o' with
    | some (o, k) => (∃ v cs, hp S o = .arr v cs ∧ RnL (wkR M S S') k cs cs' ∧ (o' < S0.length → (o = o' ∧ (v < v' ∨ (v = v' ∧ k = 0 ∧ cs'.length = cs.length))) ∨ ∃ v0 c0, hp S0 o' = .arr v0 c0 ∧ v0 < v'))
    | none => cs' = [] ∧ S0.length ≤ o'
  | .dead v' => o' < S0.length → ∃ v, v ≤ v' ∧ ((∃ cs, hp S o' = .arr v cs) ∨ hp S o' = .dead v)
  | .virgin => o' < S0.length → hp S o' = .virgin

def rnInj (M : RMap) : Bool := ((M.filterMap id).map (·.1)).Nodup

theorem rnInj_at : ∀ {M : RMap}, rnInj M = true → ∀ {i j o k k'}, rmAt M i = some (o, k) → rmAt M j = some (o, k') → i = j := by
  intro M h
  simp only [rnInj, decide_eq_true_eq] at h
  induction M with
  | nil => intro i j o k k' h1; simp [rmAt] at h1
  | cons x M ih =>
    have hmem : ∀ {i o k}, rmAt M i = some (o, k) → o ∈ (M.filterMap id).map (·.1) := by
      intro i o k h1
      simp only [rmAt] at h1
      split at h1
      · rename_i y hy
        subst h1
        exact List.mem_map.2 ⟨(o, k), List.mem_filterMap.2 ⟨some (o, k), List.mem_of_getElem? hy, rfl⟩, rfl⟩
      · cases h1
    have hM : ((M.filterMap id).map (·.1)).Nodup := by
      cases x with
      | none => simpa using h
      | some p => simp only [List.filterMap_cons, id, List.map_cons, List.nodup_cons] at h; exact h.2
    intro i j o k k' h1 h2
    have hs : ∀ i, rmAt (x :: M) (i + 1) = rmAt M i := fun i => by simp [rmAt]
    have h0 : rmAt (x :: M) 0 = x := by simp [rmAt]
    cases i with
    | zero =>
      cases j with
      | zero => rfl
      | succ j =>
        rw [h0] at h1; rw [hs] at h2
        subst h1
        simp only [List.filterMap_cons, id, List.map_cons, List.nodup_cons] at h
        exact (h.1 (hmem h2)).elim
    | succ i =>
      cases j with
      | zero =>
        rw [h0] at h2; rw [hs] at h1
        subst h2
        simp only [List.filterMap_cons, id, List.map_cons, List.nodup_cons] at h
        exact (h.1 (hmem h1)).elim
      | succ j =>
        rw [hs] at h1 h2
        exact congrArg _ (ih hM h1 h2)

def rnF (R : Rn) (fr : Fr) : Fr → Prop
  | [] => True
  | (t, v) :: r => RnV R (Fr.get fr t) v ∧ rnF R fr r

theorem rnF_get {R} {fr : Fr} : ∀ {fr' : Fr}, rnF R fr fr' → ∀ t, RnV R (Fr.get fr t) (Fr.get fr' t)
  | [], _, t => .junk _
  | (t', v) :: r, h, t => by
    rw [get_cons]
    split
    · rename_i e; subst e; exact h.1
    · exact rnF_get h.2 t

theorem hp_lt {S : List Ob} {o ver cs} (h : hp S o = .arr ver cs) : o < S.length := by
  rcases Nat.lt_or_ge o S.length with h' | h'
  · exact h'
  · rw [hp_ge h'] at h; cases h

theorem hp_get {S : List Ob} {o : Nat} (h : o < S.length) : hp S o = S[o] := by
  simp [hp, List.getD_eq_getElem?_getD, h]

/-- One heap for another, with what becomes of values. -/
def GWk (S0 S S' : List Ob) (R : AV → AV → Prop) : Prop :=
  ∀ g0 g w, Gh.le g0 (hp S0) g (hp S) → WRel g (hp S) w → ∃ g', Gh.le g0 (hp S0) g' (hp S') ∧ WRel g' (hp S') w ∧ ∀ x y u, R x y → VR g.pm g.L (hp S) x u → VR g'.pm g'.L (hp S') y u

theorem GWk.wk {S0 S S' : List Ob} {R : AV → AV → Prop} {fr fr' : Fr} (h : GWk S0 S S' R) (hf : ∀ t, R (Fr.get fr t) (Fr.get fr' t)) : Wk S0 fr S fr' S' := by
  intro g0 n a w hat
  obtain ⟨h0, g, h1, h2, h3⟩ := hat
  obtain ⟨g', k1, k2, k3⟩ := h g0 g w h1 h2
  exact ⟨h0, g', k1, k2, h3.size, fun t => k3 _ _ _ (hf t) (h3.get t)⟩

theorem GWk.trans {S0 S S' S'' : List Ob} {R R' : AV → AV → Prop} (h : GWk S0 S S' R) (k : GWk S0 S' S'' R') : GWk S0 S S'' (fun x z => ∃ y, R x y ∧ R' y z) := by
  intro g0 g w h1 h2
  obtain ⟨g', a, b, c⟩ := h g0 g w h1 h2
  obtain ⟨g'', a', b', c'⟩ := k g0 g' w a b
  exact ⟨g'', a', b', fun x z u ⟨y, r, r'⟩ hv => c' _ _ _ r' (c _ _ _ r hv)⟩

theorem GWk.refl {S0 S : List Ob} : GWk S0 S S AVw := fun g0 g w h1 h2 => ⟨g, h1, h2, fun x y u r hv => hv.w r⟩

theorem gwk_rn {S0 S S' : List Ob} (M : RMap) (hi : rnInj M = true) (hm : S0.length ≤ S'.length) (hob : rnAll (RnOb M S0 S S') 0 S') : GWk S0 S S' (RnV (wkR M S S')) := by
  intro g0 g w h1 h2
  have hO : ∀ o' v' cs', hp S' o' = .arr v' cs' → RnOb M S0 S S' o' (.arr v' cs') := fun o' v' cs' e => by
    have hlt := hp_lt e
    have := rnAll_get hob o' hlt
    rw [hp_get hlt] at e
    rw [e, Nat.zero_add] at this
    exact this
  let L' : Nat → Loc := fun o' => match rmAt M o' with | some (o, k) => ⟨(g.L o).b, (g.L o).off + k, (g.L o).cap - k⟩ | none => ⟨g.B0, 0, 0⟩
  have hL : ∀ o' o k, rmAt M o' = some (o, k) → L' o' = ⟨(g.L o).b, (g.L o).off + k, (g.L o).cap - k⟩ := fun o' o k e => by simp only [L', e]
  have hLn : ∀ o', rmAt M o' = none → L' o' = ⟨g.B0, 0, 0⟩ := fun o' e => by simp only [L', e]
  have ok : RnOK (wkR M S S') g.pm g.pm g.L L' (hp S) (hp S') := by
    refine ⟨fun _ _ _ h => h, ?_, ?_, ?_, ?_⟩
    · rintro o ver off o' ver' off' a ⟨k, cs, cs', e1, e2, e3, rfl⟩ hp
      unfold PtrOK at hp ⊢
      rw [e2] at hp; rw [e3, hL _ _ _ e1]
      have := hp.2 rfl
      exact ⟨Nat.le_refl _, fun _ => by rw [this]; simp only [Nat.add_assoc]⟩
    · rintro o ver off n e o' ver' off' a cap ⟨k, cs, cs', e1, e2, e3, rfl, e5⟩ hr
      unfold RefOK at hr ⊢
      rw [e2] at hr; rw [e3, hL _ _ _ e1]
      obtain ⟨r1, r2, r3, r4⟩ := hr.2 rfl
      exact ⟨Nat.le_refl _, fun _ => ⟨by rw [r1]; simp only [Nat.add_assoc], e5, r3, by simp only; omega⟩⟩
    · rintro o ver off e o' ver' off' ⟨k, cs, cs', e1, e2, e3, _⟩
      unfold VerOK; rw [e3]; exact Nat.le_refl _
    · rintro o' ver' ⟨cs', e⟩
      unfold VerOK; rw [e]; exact Nat.le_refl _
  refine ⟨{ g with L := L' }, ⟨⟨h1.ext.pm, fun o => ?_⟩, h1.tm, h1.B0, h1.w0⟩, ⟨h2.pm, h2.tm, h2.tmf, h2.disj, h2.low, h2.B0, fun o' v' cs' e => ?_, fun i j v1 v2 c1 c2 e1 e2 hne => ?_⟩, fun x y u r hv => hv.rn ok r⟩
  · by_cases ho : o < S0.length
    · have hx := rnAll_get hob o (by omega)
      rw [Nat.zero_add] at hx
      rw [hp_get (S := S') (by omega)]
      have tr : ObExt (hp S o) (g.L o) S'[o] (L' o) → ObExt (hp S0 o) (g0.L o) S'[o] (L' o) := (h1.ext.ob o).trans
      generalize S'[o] = x at hx tr
      cases x with
      | virgin => refine tr ?_; rw [hx ho]; exact trivial
      | dead v' =>
        refine tr ?_
        obtain ⟨v, hv, ⟨cs, e⟩ | e⟩ := hx ho <;> rw [e] <;> exact hv
      | arr v' cs' =>
        simp only [RnOb] at hx
        split at hx
        · rename_i o1 k1 e1
          obtain ⟨v, cs, e2, e3, e4⟩ := hx
          rcases e4 ho with ⟨e6, e5⟩ | ⟨v0, c0, e7, e8⟩
          case inr => rw [e7]; exact .inl e8
          clear e4
          refine tr ?_
          subst e6
          rw [e2, hL _ _ _ e1]
          rcases e5 with e4 | ⟨rfl, rfl, e5⟩
          · exact .inl e4
          · exact .inr ⟨rfl, by simp, e5⟩
        · omega
    · rw [hp_ge (S := S0) (by omega)]; exact trivial
  · have hx := hO _ _ _ e
    simp only [RnOb] at hx
    show ObOK _ _ _ _ _
    split at hx
    · rename_i o k e1
      obtain ⟨v, cs, e2, e3, _⟩ := hx
      have q := h2.ob o v cs e2
      have ql := q.len
      have e31 := e3.1
      refine ⟨?_, ?_, fun j hj => ?_, fun j hj => ?_, fun j hj => ?_, fun j hj => ?_⟩ <;> simp only [hL _ _ _ e1] at *
      · exact q.low
      · omega
      · obtain ⟨u, hu, hv⟩ := q.there (k + j) (by omega)
        refine ⟨u, by rw [Nat.add_assoc]; exact hu, fun hj' => ?_⟩
        exact (hv (by omega)).rn ok (e3.2 j (by omega) hj')
      · rw [Nat.add_assoc]; exact q.free _ (by omega)
      · rw [Nat.add_assoc]; exact q.pm _ (by omega)
      · rw [Nat.add_assoc]; exact q.tm _ (by omega)
    · rename_i e1
      obtain ⟨rfl, _⟩ := hx
      refine ⟨?_, ?_, fun j hj => ?_, fun j hj => ?_, fun j hj => ?_, fun j hj => ?_⟩ <;> simp only [hLn _ e1] at *
      · exact Nat.le_refl _
      · simp
      all_goals omega
  · show Apart (L' i) (L' j)
    have hxi := hO _ _ _ e1
    have hxj := hO _ _ _ e2
    simp only [RnOb] at hxi hxj
    split at hxi
    · rename_i o k m1
      obtain ⟨v, cs, a2, a3, _⟩ := hxi
      split at hxj
      · rename_i o2 k2 m2
        obtain ⟨v2, cs2, b2, b3, _⟩ := hxj
        have hno : o ≠ o2 := fun h => by subst h; exact hne (rnInj_at hi m1 m2)
        rw [hL _ _ _ m1, hL _ _ _ m2]
        intro hb x y hx hy he
        simp only at hb hx hy he
        exact h2.sep o o2 _ _ _ _ a2 b2 hno hb (k + x) (k2 + y) (by omega) (by omega) (by omega)
      · rename_i m2
        rw [hLn _ m2]
        intro _ x y _ hy; simp at hy
    · rename_i m1
      rw [hLn _ m1]
      intro _ x y hx; simp at hx

theorem wk_rn {S0 S S' : List Ob} {fr fr' : Fr} (M : RMap) (hi : rnInj M = true) (hm : S0.length ≤ S'.length) (hob : rnAll (RnOb M S0 S S') 0 S') (hfr : rnF (wkR M S S') fr fr') : Wk S0 fr S fr' S' :=
  (gwk_rn M hi hm hob).wk (rnF_get hfr)
end Go.Ab
