/- Objects of the caller: the terms of the frame rule; freezing between two statements. -/
import Derived.Test.YtiocagilhbomgaaWlF6
namespace Go.Ab
open Go.RowKit
set_option linter.unusedVariables false
set_option linter.unusedSimpArgs false

section
variable {M : List Nat} {T T' S S' : List Ob} {α : Type} {f : α → AV} {e : Option Nat}
theorem fi_ptr {o v O V off CS cs} (h1 : Nat.blt o T.length = true) (h2 : M.getD o 0 = O) (h3 : hp S O = .arr V CS) (h4 : hp T o = .arr v cs) : RnV (frI M T S) (.ptr O V off) (.ptr o v off) :=
  .ptr ⟨by simpa [Nat.blt_eq] using h1, h2, ⟨_, h3⟩, ⟨_, h4⟩, rfl⟩
theorem fi_ref {o v O V off n CS cs} (h1 : Nat.blt o T.length = true) (h2 : M.getD o 0 = O) (h3 : hp S O = .arr V CS) (h4 : hp T o = .arr v cs) : RnV (frI M T S) (.ref O V off n e) (.ref o v off n e) :=
  .ref ⟨by simpa [Nat.blt_eq] using h1, h2, ⟨_, h3⟩, ⟨_, h4⟩, rfl⟩
theorem fo_ptr {o v O V off CS cs} (h1 : Nat.blt o T'.length = true) (h2 : frN M T S o = O) (h3 : hp T' o = .arr v cs) (h4 : hp S' O = .arr V CS) : RnV (frO M T T' S S') (.ptr o v off) (.ptr O V off) :=
  .ptr ⟨by simpa [Nat.blt_eq] using h1, h2, ⟨_, h3⟩, ⟨_, h4⟩, rfl⟩
theorem fo_ref {o v O V off n CS cs} (h1 : Nat.blt o T'.length = true) (h2 : frN M T S o = O) (h3 : hp T' o = .arr v cs) (h4 : hp S' O = .arr V CS) : RnV (frO M T T' S S') (.ref o v off n e) (.ref O V off n e) :=
  .ref ⟨by simpa [Nat.blt_eq] using h1, h2, ⟨_, h3⟩, ⟨_, h4⟩, rfl⟩
theorem fr_in {o v cs V CS} (h : hp S (M.getD o 0) = .arr V CS) (hl : CS.length = cs.length) (hr : RnL (frI M T S) 0 CS cs) : FrIn M T S o (.arr v cs) := ⟨v, cs, V, CS, rfl, h, hl, hr⟩
/-- The object's version goes on. -/
theorem fr_out {o v' cs' V' CS' V CS} (h : hp S' (frN M T S o) = .arr V' CS') (hl : CS'.length = cs'.length) (hr : RnL (frO M T T' S S') 0 cs' CS') (hs : hp S (M.getD o 0) = .arr V CS) (hv : Nat.blt V V' = true) : FrOut M T T' S S' o (.arr v' cs') :=
  ⟨V', CS', h, hl, hr, fun _ v cs V2 CS2 _ h2 => by rw [hs] at h2; cases h2; exact .inr (by simpa [Nat.blt_eq] using hv)⟩
/-- The object keeps its version. -/
theorem fr_outS {o v cs0 cs' V CS' CS} (h : hp S' (frN M T S o) = .arr V CS') (hl : CS'.length = cs'.length) (hr : RnL (frO M T T' S S') 0 cs' CS') (hs : hp S (M.getD o 0) = .arr V CS) (ht : hp T o = .arr v cs0) : FrOut M T T' S S' o (.arr v cs') :=
  ⟨V, CS', h, hl, hr, fun _ v2 cs2 V2 CS2 h1 h2 => by rw [hs] at h2; rw [ht] at h1; cases h2; cases h1; exact .inl ⟨rfl, rfl⟩⟩
/-- A new object. -/
theorem fr_outN {o v' cs' V' CS'} (h : hp S' (frN M T S o) = .arr V' CS') (hl : CS'.length = cs'.length) (hr : RnL (frO M T T' S S') 0 cs' CS') (hn : Nat.ble T.length o = true) : FrOut M T T' S S' o (.arr v' cs') :=
  ⟨V', CS', h, hl, hr, fun ho => by have := Nat.le_of_ble_eq_true hn; omega⟩
end

theorem fr_outD {M : List Nat} {T T' S S' : List Ob} {o v' V' V CS} (h : hp S' (frN M T S o) = .dead V') (hs : hp S (M.getD o 0) = .arr V CS) (hv : Nat.ble V V' = true) : FrOut M T T' S S' o (.dead v') :=
  ⟨V', h, fun _ V2 CS2 h2 => by rw [hs] at h2; cases h2; exact Nat.le_of_ble_eq_true hv⟩
theorem rn_obDead {M : RMap} {S0 S S' : List Ob} {o' v v' cs} (h : hp S o' = .arr v cs) (hv : Nat.ble v v' = true) : RnOb M S0 S S' o' (.dead v') := fun _ => ⟨v, Nat.le_of_ble_eq_true hv, .inl ⟨cs, h⟩⟩
theorem rn_obDD {M : RMap} {S0 S S' : List Ob} {o' v v'} (h : hp S o' = .dead v) (hv : Nat.ble v v' = true) : RnOb M S0 S S' o' (.dead v') := fun _ => ⟨v, Nat.le_of_ble_eq_true hv, .inr h⟩

def othC (M : List Nat) : Nat → List Ob → List Ob → Prop
  | _, [], _ => True
  | i, x :: xs, y :: ys => (M.contains i = true ∨ y = x) ∧ othC M (i + 1) xs ys
  | _, _ :: _, [] => False
theorem othC_get {M : List Nat} : ∀ {S S' : List Ob} {i : Nat}, othC M i S S' → ∀ j, j < S.length → M.contains (i + j) = true ∨ hp S' j = hp S j
  | [], _, _, _, j, h => by simp at h
  | x :: xs, [], _, h, _, _ => h.elim
  | x :: xs, y :: ys, i, h, 0, _ => h.1
  | x :: xs, y :: ys, i, h, j + 1, hj => by
    have := othC_get h.2 j (by simpa using hj)
    rw [show i + 1 + j = i + (j + 1) by omega] at this
    exact this
theorem oth_of {M : List Nat} {S S' : List Ob} (h : othC M 0 S S') : ∀ i, i < S.length → i ∉ M → hp S' i = hp S i := fun i hi hm => by
  rcases othC_get h i hi with e | e
  · rw [Nat.zero_add] at e; exact (hm (by simpa using e)).elim
  · exact e

section
variable {P : Program} {S0 : List Ob} {ow : List Nat} {fr : Fr} {S : List Ob} {log : List LE}
theorem E_callF {d f args rs} {K : Fr → List Ob → List LE → Prop} {T T' S' : List Ob} {as as' : List AV} {r r' : AV} (c : Ev P f as (hp T) r (hp T')) (M : List Nat) (e : evL (Fr.get fr) args = as') (hM : M.length = T.length) (inj : M.Nodup) (hT : Nat.ble T.length T'.length = true) (hS : S'.length = S.length + (T'.length - T.length))
    (hin : rnAll (FrIn M T S) 0 T) (hout : rnAll (FrOut M T T' S S') 0 T') (hoth : othC M 0 S S') (hal : as'.length = as.length) (ha : RnL (frI M T S) 0 as' as) (hr : RnV (frO M T T' S S') r r')
    (h : VTops P ow rs ((d, r') :: fr) S' (.eff S S' :: log) K) : VTops P ow (⟨some d, none, .call f args⟩ :: rs) fr S log K :=
  E_callE (c.frame M hM inj (Nat.le_of_ble_eq_true hT) hS hin hout (oth_of hoth) hal ha hr) e h
theorem E_callF0 {f args rs} {K : Fr → List Ob → List LE → Prop} {T T' S' : List Ob} {as as' : List AV} {r r' : AV} (c : Ev P f as (hp T) r (hp T')) (M : List Nat) (e : evL (Fr.get fr) args = as') (hM : M.length = T.length) (inj : M.Nodup) (hT : Nat.ble T.length T'.length = true) (hS : S'.length = S.length + (T'.length - T.length))
    (hin : rnAll (FrIn M T S) 0 T) (hout : rnAll (FrOut M T T' S S') 0 T') (hoth : othC M 0 S S') (hal : as'.length = as.length) (ha : RnL (frI M T S) 0 as' as) (hr : RnV (frO M T T' S S') r r')
    (h : VTops P ow rs fr S' (.eff S S' :: log) K) : VTops P ow (⟨none, none, .call f args⟩ :: rs) fr S log K := by
  rw [VTops_call0, e]
  exact kCall_ev (c.frame M hM inj (Nat.le_of_ble_eq_true hT) hS hin hout (oth_of hoth) hal ha hr) h
end

/-! ### weaker cells; freezing -/
def wOb : Ob → Ob → Prop
  | .arr v cs, .arr v' cs' => v = v' ∧ awL cs cs'
  | .dead v, .dead v' => v = v'
  | .virgin, .virgin => True
  | _, _ => False
def wObs : List Ob → List Ob → Prop
  | [], [] => True
  | x :: xs, y :: ys => wOb x y ∧ wObs xs ys
  | _, _ => False
theorem wObs_get : ∀ {S S' : List Ob}, wObs S S' → ∀ o, wOb (hp S o) (hp S' o)
  | [], [], _, o => trivial
  | x :: xs, y :: ys, h, 0 => h.1
  | x :: xs, y :: ys, h, o + 1 => wObs_get h.2 o
theorem gwk_w {S0 S S' : List Ob} (h : wObs S S') : GWk S0 S S' AVw := by
  intro g0 g w h1 h2
  have hx : Ext g.pm g.L (hp S) g.pm g.L (hp S') := ⟨fun _ _ _ e => e, fun o => by
    have := wObs_get h o
    cases e1 : hp S o <;> cases e2 : hp S' o <;> rw [e1, e2] at this <;> simp only [wOb] at this <;> simp only [ObExt]
    · omega
    · exact .inr ⟨this.1, trivial, (awL_len this.2).symm⟩⟩
  have hin : ∀ o v cs, hp S' o = .arr v cs → ∃ cs0, hp S o = .arr v cs0 ∧ awL cs0 cs := fun o v cs e => by
    have := wObs_get h o
    cases e1 : hp S o with
    | virgin => rw [e1, e] at this; exact this.elim
    | dead v => rw [e1, e] at this; exact this.elim
    | arr v0 c0 =>
      rw [e1, e] at this
      obtain ⟨h4, h3⟩ := this
      exact ⟨c0, by rw [h4], h3⟩
  refine ⟨g, h1.trans ⟨hx, rfl, rfl, rfl⟩, ⟨h2.pm, h2.tm, h2.tmf, h2.disj, h2.low, h2.B0, fun o v cs e => ?_, fun o o' v v' c c' e e' hne => ?_⟩, fun x y u r hv => (hv.w r).mono hx⟩
  · obtain ⟨cs0, e1, e2⟩ := hin _ _ _ e
    have k := h2.ob o v cs0 e1
    have hl := awL_len e2
    refine ⟨k.low, by rw [← hl]; exact k.len, fun j hj => ?_, k.free, k.pm, k.tm⟩
    obtain ⟨u, hu, hr⟩ := k.there j hj
    exact ⟨u, hu, fun hj' => ((hr (by omega)).w (awL_get e2 j (by omega) hj')).mono hx⟩
  · obtain ⟨c1, e1, _⟩ := hin _ _ _ e
    obtain ⟨c2, e2, _⟩ := hin _ _ _ e'
    exact h2.sep o o' _ _ _ _ e1 e2 hne

/-- The heap when the objects from k0 on are frozen. -/
def fzOb (k0 k : Nat) (S : List Ob) : Ob → Ob → Prop
  | .arr v cs, .arr v' cs' => v = v' ∧ fzL k0 k S cs cs'
  | _, _ => False
def fzObs (k0 k : Nat) (S : List Ob) : List Ob → List Ob → Prop
  | [], [] => True
  | x :: xs, y :: ys => fzOb k0 k S x y ∧ fzObs k0 k S xs ys
  | _, _ => False
theorem fzObs_w {k0 k : Nat} {S : List Ob} : ∀ {A B : List Ob}, fzObs k0 k S A B → wObs (A.map (frzOb k0 S k)) B
  | [], [], _ => trivial
  | x :: xs, y :: ys, h => by
    refine ⟨?_, fzObs_w h.2⟩
    have h1 := h.1
    cases x <;> cases y <;> simp only [fzOb] at h1
    exact ⟨h1.1, fzL_aw h1.2⟩
theorem gwk_fz {S0 S S' : List Ob} (k0 k : Nat) (h0 : Nat.ble S0.length k0 = true) (h : fzObs k0 k S (S.take k0) S') : GWk S0 S S' (fun x z => ∃ y, y = frz k0 S k x ∧ AVw y z) :=
  (gwk_frz k0 k (Nat.le_of_ble_eq_true h0)).trans (gwk_w (fzObs_w h))
theorem fzL_id {k0 k : Nat} {S : List Ob} : ∀ {cs : List AV}, blwL k0 cs = true → fzL k0 k S cs cs
  | [], _ => trivial
  | x :: r, h => by
    simp only [blwL, Bool.and_eq_true] at h
    exact ⟨fz_b h.1 (.refl _), fzL_id h.2⟩
def fzF (k0 k : Nat) (S : List Ob) (fr : Fr) : Fr → Prop
  | [] => True
  | (t, v) :: r => AVw (frz k0 S k (Fr.get fr t)) v ∧ fzF k0 k S fr r
theorem fzF_get {k0 k : Nat} {S : List Ob} {fr : Fr} : ∀ {fr' : Fr}, fzF k0 k S fr fr' → ∀ t, AVw (frz k0 S k (Fr.get fr t)) (Fr.get fr' t)
  | [], _, t => .junk _
  | (t', v) :: r, h, t => by
    rw [get_cons]
    split
    · rename_i e; subst e; exact h.1
    · exact fzF_get h.2 t
theorem wk_fz {S0 S S' : List Ob} {fr fr' : Fr} (k0 k : Nat) (h0 : Nat.ble S0.length k0 = true) (h : fzObs k0 k S (S.take k0) S') (hf : fzF k0 k S fr fr') : Wk S0 fr S fr' S' :=
  (gwk_fz k0 k h0 h).wk (fun t => ⟨_, rfl, fzF_get hf t⟩)

/-! ### a list that is frozen for a call -/
def zL (fz : Option (Nat × Nat × List AV)) : List AV → List AV → Prop
  | [], [] => True
  | x :: xs, y :: ys => (∃ z, AVle fz x z ∧ AVw z y) ∧ zL fz xs ys
  | _, _ => False
theorem zL_len {fz} : ∀ {xs ys : List AV}, zL fz xs ys → xs.length = ys.length
  | [], [], _ => rfl
  | _ :: xs, _ :: ys, h => congrArg (· + 1) (zL_len h.2)
theorem zL_get {fz} : ∀ {xs ys : List AV}, zL fz xs ys → ∀ j (h1 : j < xs.length) (h2 : j < ys.length), ∃ z, AVle fz xs[j] z ∧ AVw z ys[j]
  | [], _, _, j, h1, _ => by simp at h1
  | x :: xs, y :: ys, h, 0, _, _ => h.1
  | x :: xs, y :: ys, h, j + 1, h1, h2 => zL_get h.2 j (by simpa using h1) (by simpa using h2)
theorem fzr_w {fz} {x y : AV} (h : AVw x y) : ∃ z, AVle fz x z ∧ AVw z y := ⟨x, .refl _, h⟩
theorem fzr_ref {α : Type} {f : α → AV} {esh : Option Nat} (he : Enc f esh) {o ver} {l : List α} : ∃ z, AVle (some (o, ver, flat f l)) (.ref o ver 0 l.length esh) z ∧ AVw z (.sl false (szOf esh) (l.map f)) :=
  ⟨_, .ref rfl (he.all l) (by rw [he.length]; omega), by rw [he.elems]; exact .refl _⟩

theorem Ev_dead {P f} {S S' : List Ob} {o ver : Nat} {cs : List AV} {as as' : List AV} {v : AV} (c : PureEv P f as v) (ho : hp S o = .arr ver cs) (hS : setAt S o (.dead ver) = S') (h1 : blwL 0 as = true) (h2 : v.blw 0 = true) (ha : zL (some (o, ver, cs)) as' as) : Ev P f as' (hp S) v (hp S') := by
  subst hS
  intro g w vals hw hv
  have hu : hp (setAt S o (.dead ver)) = upd (hp S) o (.dead ver) := hp_setAt _ _ _
  have hh : HpLe (some (o, ver, cs)) (hp S) (hp (setAt S o (.dead ver))) := fun i => by
    rw [hu]
    by_cases hi : i = o
    · subst hi; right; left; exact ⟨ver, cs, ho, by simp⟩
    · rw [upd_ne _ _ hi]
      cases e : hp S i with
      | virgin => exact .inr (.inr (.inr ⟨rfl, rfl⟩))
      | dead v => exact .inr (.inr (.inl ⟨v, rfl, rfl⟩))
      | arr v c => exact .inl ⟨v, c, c, rfl, rfl, rfl, (fun _ _ e => by cases e; exact hi rfl), fun j h h' => .refl _⟩
  obtain ⟨g', k1, k2, k3⟩ := hw.weaken hh (fun o' v c e => by cases e; exact ⟨ho, by rw [hu]; simp⟩)
  have hl := zL_len ha
  refine (c.frame h1 h2 _ g' w vals k1 ⟨by rw [hv.1, hl], fun j h1 h2 => ?_⟩).mono ?_
  · obtain ⟨z, z1, z2⟩ := zL_get ha j (by omega) h1
    exact (k3 _ _ _ (hv.2 j (by omega) h2) z1).w z2
  · rintro e w' ⟨u, g2, rfl, a, b, c⟩
    exact ⟨u, g2, rfl, k2.trans a, b, c⟩

theorem E_callZ {P : Program} {ow : List Nat} {fr : Fr} {S : List Ob} {log : List LE} {d f args rs} {K : Fr → List Ob → List LE → Prop} {o ver : Nat} {cs : List AV} {S' : List Ob} {as as' : List AV} {v : AV} (c : PureEv P f as v) (e : evL (Fr.get fr) args = as') (ho : hp S o = .arr ver cs) (hS : setAt S o (.dead ver) = S') (h1 : blwL 0 as = true) (h2 : v.blw 0 = true) (ha : zL (some (o, ver, cs)) as' as)
    (h : VTops P ow rs ((d, v) :: fr) S' (.eff S S' :: log) K) : VTops P ow (⟨some d, none, .call f args⟩ :: rs) fr S log K :=
  E_callE (Ev_dead c ho hS h1 h2 ha) e h
end Go.Ab
