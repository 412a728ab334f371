/- A contract on a small heap holds in a bigger one. -/
import Derived.Test.YtiocagilhbomgaaWlF1
namespace Go.Ab
open Go.RowKit
set_option linter.unusedVariables false
set_option linter.unusedSimpArgs false

def frI (M : List Nat) (T S : List Ob) : Rn where
  qp O V off o v off' := o < T.length ∧ M.getD o 0 = O ∧ (∃ CS, hp S O = .arr V CS) ∧ (∃ cs, hp T o = .arr v cs) ∧ off = off'
  qr O V off _ _ o v off' := o < T.length ∧ M.getD o 0 = O ∧ (∃ CS, hp S O = .arr V CS) ∧ (∃ cs, hp T o = .arr v cs) ∧ off = off'
  qn _ _ := False

def frN (M : List Nat) (T S : List Ob) (o : Nat) : Nat := if o < T.length then M.getD o 0 else S.length + (o - T.length)

def frO (M : List Nat) (T T' S S' : List Ob) : Rn where
  qp o v off O V off' := o < T'.length ∧ frN M T S o = O ∧ (∃ cs, hp T' o = .arr v cs) ∧ (∃ CS, hp S' O = .arr V CS) ∧ off = off'
  qr o v off _ _ O V off' := o < T'.length ∧ frN M T S o = O ∧ (∃ cs, hp T' o = .arr v cs) ∧ (∃ CS, hp S' O = .arr V CS) ∧ off = off'
  qn _ _ := False

def FrIn (M : List Nat) (T S : List Ob) (o : Nat) (x : Ob) : Prop :=
  ∃ v cs V CS, x = .arr v cs ∧ hp S (M.getD o 0) = .arr V CS ∧ CS.length = cs.length ∧ RnL (frI M T S) 0 CS cs

def FrOut (M : List Nat) (T T' S S' : List Ob) (o : Nat) (x : Ob) : Prop :=
  match x with
  | .arr v' cs' => ∃ V' CS', hp S' (frN M T S o) = .arr V' CS' ∧ CS'.length = cs'.length ∧ RnL (frO M T T' S S') 0 cs' CS' ∧
      (o < T.length → ∀ v cs V CS, hp T o = .arr v cs → hp S (M.getD o 0) = .arr V CS → (v' = v ∧ V' = V) ∨ V < V')
  | .dead _ => ∃ V', hp S' (frN M T S o) = .dead V' ∧ (o < T.length → ∀ V CS, hp S (M.getD o 0) = .arr V CS → V ≤ V')
  | .virgin => hp S' (frN M T S o) = .virgin

theorem Ev.frame {P f} {T T' S S' : List Ob} {as as' : List AV} {r r' : AV} (h : Ev P f as (hp T) r (hp T')) (M : List Nat) (hM : M.length = T.length) (inj : M.Nodup)
    (hT : T.length ≤ T'.length) (hS : S'.length = S.length + (T'.length - T.length)) (hin : rnAll (FrIn M T S) 0 T) (hout : rnAll (FrOut M T T' S S') 0 T')
    (hoth : ∀ i, i < S.length → i ∉ M → hp S' i = hp S i) (hal : as'.length = as.length) (ha : RnL (frI M T S) 0 as' as) (hr : RnV (frO M T T' S S') r r') : Ev P f as' (hp S) r' (hp S') := by
  intro g w vals hw hv
  classical
  have hMg : ∀ o, o < T.length → M.getD o 0 ∈ M := fun o ho => by
    rw [List.getD_eq_getElem?_getD, List.getElem?_eq_getElem (by omega)]; exact List.getElem_mem _
  have hI : ∀ o, o < T.length → ∃ v cs V CS, hp T o = .arr v cs ∧ hp S (M.getD o 0) = .arr V CS ∧ CS.length = cs.length ∧ RnL (frI M T S) 0 CS cs := fun o ho => by
    obtain ⟨v, cs, V, CS, e1, e2, e3, e4⟩ := rnAll_get hin o ho
    rw [Nat.zero_add] at e2
    exact ⟨v, cs, V, CS, by rw [hp_get ho]; exact e1, e2, e3, e4⟩
  have hO : ∀ o, o < T'.length → FrOut M T T' S S' o (hp T' o) := fun o ho => by
    have := rnAll_get hout o ho
    rw [hp_get ho]
    rw [Nat.zero_add] at this
    exact this
  have hMS : ∀ i ∈ M, i < S.length := fun i hi => by
    obtain ⟨o, ho, rfl⟩ := List.getElem_of_mem hi
    obtain ⟨v, cs, V, CS, _, e2, _⟩ := hI o (by omega)
    rw [List.getD_eq_getElem?_getD, List.getElem?_eq_getElem ho] at e2
    exact hp_lt e2
  have hMinj : ∀ o o', o < T.length → o' < T.length → M.getD o 0 = M.getD o' 0 → o = o' := fun o o' h1 h2 e => by
    simp only [List.getD_eq_getElem?_getD] at e
    rw [List.getElem?_eq_getElem (by omega), List.getElem?_eq_getElem (by omega)] at e
    simp only [Option.getD_some] at e
    have h1' := List.Nodup.idxOf_getElem inj o (by omega)
    have h2' := List.Nodup.idxOf_getElem inj o' (by omega)
    rw [e, h2'] at h1'
    exact h1'.symm
  let owned : Nat → Nat → Prop := fun b o => ∃ i ver cs, i ∉ M ∧ hp S i = .arr ver cs ∧ (g.L i).b = b ∧ ∃ j, j < (g.L i).cap ∧ (g.L i).off + j = o
  let gE : Gh := { g with tm := fun b o => if owned b o then w.cell? ⟨b, o, none⟩ else g.tm b o, L := fun o => g.L (M.getD o 0) }
  have okI : RnOK (frI M T S) g.pm gE.pm g.L gE.L (hp S) (hp T) := by
    refine ⟨fun _ _ _ h => h, ?_, ?_, ?_, fun _ _ h => h.elim⟩
    · rintro O V off o v off' a ⟨h1, rfl, ⟨CS, e1⟩, ⟨cs, e2⟩, rfl⟩ hp
      unfold PtrOK at hp ⊢
      rw [e1] at hp; rw [e2]
      exact ⟨Nat.le_refl _, fun _ => hp.2 rfl⟩
    · rintro O V off n e o v off' a cap ⟨h1, rfl, ⟨CS, e1⟩, ⟨cs, e2⟩, rfl⟩ hp
      unfold RefOK at hp ⊢
      rw [e1] at hp; rw [e2]
      obtain ⟨r1, r2, r3, r4⟩ := hp.2 rfl
      obtain ⟨v1, cs1, V1, CS1, q1, q2, q3, _⟩ := hI o h1
      rw [e1] at q2; cases q2
      rw [e2] at q1; cases q1
      exact ⟨Nat.le_refl _, fun _ => ⟨r1, by omega, r3, r4⟩⟩
    · rintro O V off e o v off' ⟨h1, rfl, ⟨CS, e1⟩, ⟨cs, e2⟩, rfl⟩
      unfold VerOK; rw [e2]; exact Nat.le_refl _
  have hnotown : ∀ i ver cs, i ∈ M → hp S i = .arr ver cs → ∀ j, j < (g.L i).cap → ¬ owned (g.L i).b ((g.L i).off + j) := by
    rintro i ver cs hi e j hj ⟨i', v', c', h1, h2, h3, j', hj', h4⟩
    exact hw.sep i' i _ _ _ _ h2 e (fun h => by subst h; exact h1 hi) h3 j' j hj' hj h4
  have hwE : WRel gE (hp T) w := by
    refine ⟨hw.pm, fun b o v e => ?_, fun b o v e => ?_, fun b o v e => ?_, hw.low, hw.B0, fun o ver cs e => ?_, fun o o' v v' c c' e e' hne => ?_⟩
    · by_cases ho : owned b o
      · simpa [gE, ho] using e
      · exact hw.tm _ _ _ (by simpa [gE, ho] using e)
    · by_cases ho : owned b o
      · obtain ⟨i, ver, cs, _, e1, rfl, j, hj, rfl⟩ := ho
        exact (hw.ob i ver cs e1).free j hj
      · exact hw.tmf _ _ _ (by simpa [gE, ho] using e)
    · have ho : ¬ owned b o := by
        rintro ⟨i, ver, cs, _, e1, rfl, j, hj, rfl⟩
        have := (hw.ob i ver cs e1).pm j hj
        rw [show gE.pm = g.pm from rfl] at e
        rw [this] at e; cases e
      simpa [gE, ho] using hw.disj b o v e
    · have ho := hp_lt e
      obtain ⟨v, cs1, V, CS, e1, e2, e3, e4⟩ := hI o ho
      rw [e] at e1; cases e1
      have k := hw.ob _ _ _ e2
      refine ⟨k.low, by have := k.len; show _ ≤ (g.L (M.getD o 0)).cap; omega, fun j hj => ?_, k.free, k.pm, fun j hj => ?_⟩
      · obtain ⟨u, hu, hvr⟩ := k.there j hj
        refine ⟨u, hu, fun hj' => ?_⟩
        have := e4.2 j (by omega) hj'
        simp only [Nat.zero_add] at this
        exact (hvr (by omega)).rn okI this
      · have := hnotown _ _ _ (hMg o ho) e2 j hj
        show (if owned _ _ then _ else _) = _
        rw [if_neg this]
        exact k.tm j hj
    · have ho := hp_lt e
      have ho' := hp_lt e'
      obtain ⟨_, _, _, _, _, e2, _⟩ := hI o ho
      obtain ⟨_, _, _, _, _, e4, _⟩ := hI o' ho'
      exact hw.sep _ _ _ _ _ _ e2 e4 (fun h => hne (hMinj _ _ ho ho' h))
  refine (h gE w vals hwE ⟨by rw [hv.1, hal], fun j a b => ?_⟩).mono ?_
  · have := ha.2 j (by omega) a
    simp only [Nat.zero_add] at this
    exact (hv.2 j (by omega) b).rn okI this
  rintro e w' ⟨u, g', rfl, hle, hw', hu⟩
  let L2 : Nat → Loc := fun i => if i ∈ M then g'.L (M.idxOf i) else if i < S.length then g.L i else g'.L (T.length + (i - S.length))
  have hL2 : ∀ o, L2 (frN M T S o) = g'.L o := fun o => by
    unfold frN
    split
    · rename_i ho
      simp only [L2]
      rw [if_pos (hMg o ho)]
      congr 1
      rw [List.getD_eq_getElem?_getD, List.getElem?_eq_getElem (by omega)]
      exact List.Nodup.idxOf_getElem inj o (by omega)
    · rename_i ho
      simp only [L2]
      rw [if_neg (fun hh => by have := hMS _ hh; omega), if_neg (by omega)]
      congr 1; omega
  have hN : ∀ i, i < S'.length → (∃ o, o < T'.length ∧ frN M T S o = i) ∨ (i ∉ M ∧ i < S.length) := fun i hi => by
    by_cases hm : i ∈ M
    · left
      obtain ⟨o, ho, rfl⟩ := List.getElem_of_mem hm
      refine ⟨o, by omega, ?_⟩
      unfold frN
      rw [if_pos (by omega), List.getD_eq_getElem?_getD, List.getElem?_eq_getElem ho]; rfl
    · by_cases hs : i < S.length
      · exact .inr ⟨hm, hs⟩
      · left
        refine ⟨T.length + (i - S.length), by omega, ?_⟩
        unfold frN
        rw [if_neg (by omega)]; omega
  let g2 : Gh := { g with pm := g'.pm, L := L2 }
  have hpm : ∀ b o v, g.pm b o = some v → g'.pm b o = some v := hle.ext.pm
  have htm : ∀ b o, g'.tm b o = gE.tm b o := fun b o => by rw [hle.tm]
  have okO : RnOK (frO M T T' S S') g'.pm g2.pm g'.L g2.L (hp T') (hp S') := by
    refine ⟨fun _ _ _ h => h, ?_, ?_, ?_, fun _ _ h => h.elim⟩
    · rintro o v off O V off' a ⟨h1, rfl, ⟨cs, e1⟩, ⟨CS, e2⟩, rfl⟩ hp
      unfold PtrOK at hp ⊢
      rw [e1] at hp; rw [e2, show g2.L = L2 from rfl, hL2]
      exact ⟨Nat.le_refl _, fun _ => hp.2 rfl⟩
    · rintro o v off n e O V off' a cap ⟨h1, rfl, ⟨cs, e1⟩, ⟨CS, e2⟩, rfl⟩ hp
      unfold RefOK at hp ⊢
      rw [e1] at hp; rw [e2, show g2.L = L2 from rfl, hL2]
      obtain ⟨r1, r2, r3, r4⟩ := hp.2 rfl
      have q := hO o h1
      rw [e1] at q
      obtain ⟨V', CS', q1, q2, _⟩ := q
      rw [e2] at q1; cases q1
      exact ⟨Nat.le_refl _, fun _ => ⟨r1, by omega, r3, r4⟩⟩
    · rintro o v off e O V off' ⟨h1, rfl, ⟨cs, e1⟩, ⟨CS, e2⟩, rfl⟩
      unfold VerOK; rw [e2]; exact Nat.le_refl _
  have hext : Ext g.pm g.L (hp S) g2.pm g2.L (hp S') := by
    refine ⟨hpm, fun i => ?_⟩
    by_cases hi : i < S.length
    · by_cases hm : i ∈ M
      · obtain ⟨o, ho, rfl⟩ := List.getElem_of_mem hm
        have hoT : o < T.length := by omega
        have hMo : M.getD o 0 = M[o] := by rw [List.getD_eq_getElem?_getD, List.getElem?_eq_getElem ho]; rfl
        have hfo : frN M T S o = M[o] := by unfold frN; rw [if_pos hoT, hMo]
        obtain ⟨v, cs, V, CS, e1, e2, e3, e4⟩ := hI o hoT
        have k := hle.ext.ob o
        rw [e1] at k
        have q := hO o (by omega)
        rw [← hfo, show g2.L = L2 from rfl, hL2, hfo]
        rw [hMo] at e2
        rw [e2]
        have hLe : gE.L o = g.L M[o] := by show g.L (M.getD o 0) = _; rw [hMo]
        rw [hLe] at k
        cases ht : hp T' o with
        | virgin => rw [ht] at k; exact k.elim
        | dead v' =>
          rw [ht] at q
          obtain ⟨V', q1, q2⟩ := q
          rw [hfo] at q1
          rw [q1]
          exact q2 hoT V CS (by rw [hMo]; exact e2)
        | arr v' cs' =>
          rw [ht] at q k
          obtain ⟨V', CS', q1, q2, q3, q4⟩ := q
          rw [hfo] at q1
          rw [q1]
          rcases q4 hoT v cs V CS e1 (by rw [hMo]; exact e2) with ⟨rfl, rfl⟩ | q5
          · rcases k with k | ⟨_, k2, k3⟩
            · omega
            · exact .inr ⟨rfl, k2, by omega⟩
          · exact .inl q5
      · rw [hoth i hi hm]
        have : g2.L i = g.L i := by show L2 i = _; simp only [L2]; rw [if_neg hm, if_pos hi]
        rw [this]
        exact ObExt.refl _ _
    · rw [hp_ge (S := S) (by omega)]; exact trivial
  have hobA : ∀ o, o < T'.length → ∀ V' CS', hp S' (frN M T S o) = .arr V' CS' → ∃ v' cs', hp T' o = .arr v' cs' ∧ CS'.length = cs'.length ∧ RnL (frO M T T' S S') 0 cs' CS' := fun o ho V' CS' e => by
    have q := hO o ho
    cases ht : hp T' o with
    | virgin => rw [ht] at q; rw [show hp S' (frN M T S o) = .virgin from q] at e; cases e
    | dead v' => rw [ht] at q; obtain ⟨V2, q1, _⟩ := q; rw [q1] at e; cases e
    | arr v' cs' =>
      rw [ht] at q
      obtain ⟨V2, CS2, q1, q2, q3, _⟩ := q
      rw [q1] at e; cases e
      exact ⟨v', cs', rfl, q2, q3⟩
  have htmA : ∀ o v' cs', hp T' o = .arr v' cs' → ∀ j, j < (g'.L o).cap → ¬ owned (g'.L o).b ((g'.L o).off + j) ∧ g.tm (g'.L o).b ((g'.L o).off + j) = none := fun o v' cs' e j hj => by
    have k := (hw'.ob o v' cs' e).tm j hj
    rw [htm] at k
    have k' : (if owned (g'.L o).b ((g'.L o).off + j) then w.cell? ⟨(g'.L o).b, (g'.L o).off + j, none⟩ else g.tm (g'.L o).b ((g'.L o).off + j)) = none := k
    by_cases ho : owned (g'.L o).b ((g'.L o).off + j)
    · rw [if_pos ho] at k'
      obtain ⟨i, ver, cs, _, e1, e2, j', hj', e3⟩ := ho
      obtain ⟨u, hu, _⟩ := (hw.ob i ver cs e1).there j' hj'
      rw [e2, e3, k'] at hu; cases hu
    · exact ⟨ho, by rw [if_neg ho] at k'; exact k'⟩
  have hownB : ∀ i ver cs, i ∉ M → hp S i = .arr ver cs → ∀ j, j < (g.L i).cap → owned (g.L i).b ((g.L i).off + j) := fun i ver cs hm e j hj => ⟨i, ver, cs, hm, e, rfl, j, hj, rfl⟩
  refine ⟨u, g2, rfl, ⟨hext, rfl, rfl, rfl⟩, ⟨hw'.pm, fun b o v e => ?_, fun b o v e => ?_, fun b o v e => ?_, ?_, ?_, fun i ver cs e => ?_, fun i j v1 v2 c1 c2 e1 e2 hne => ?_⟩, hu.rn okO hr⟩
  · have ho : ¬ owned b o := by
      rintro ⟨i, ver, cs, _, e1, rfl, j, hj, rfl⟩
      have := (hw.ob i ver cs e1).tm j hj
      rw [show g2.tm = g.tm from rfl, this] at e; cases e
    exact hw'.tm b o v (by rw [htm]; simpa [gE, ho] using e)
  · have ho : ¬ owned b o := by
      rintro ⟨i, ver, cs, _, e1, rfl, j, hj, rfl⟩
      have := (hw.ob i ver cs e1).tm j hj
      rw [show g2.tm = g.tm from rfl, this] at e; cases e
    exact hw'.tmf b o v (by rw [htm]; simpa [gE, ho] using e)
  · have hd := hw'.disj b o v e
    rw [htm] at hd
    by_cases ho : owned b o
    · obtain ⟨i, ver, cs, _, e1, rfl, j, hj, rfl⟩ := ho
      exact (hw.ob i ver cs e1).tm j hj
    · simpa [gE, ho] using hd
  · have := hw'.low
    rw [hle.B0, hle.w0] at this
    exact this
  · have := hw'.B0
    rw [hle.B0] at this
    exact this
  · rcases hN i (hp_lt e) with ⟨o, ho, rfl⟩ | ⟨hm, hi⟩
    · obtain ⟨v', cs', a1, a2, a3⟩ := hobA o ho _ _ e
      have k := hw'.ob o _ _ a1
      have hl : g2.L (frN M T S o) = g'.L o := hL2 o
      refine ⟨?_, ?_, fun j hj => ?_, fun j hj => ?_, fun j hj => ?_, fun j hj => ?_⟩ <;> simp only [hl] at *
      · have := k.low; rw [hle.B0] at this; exact this
      · have := k.len; omega
      · obtain ⟨u, hu, hvr⟩ := k.there j hj
        refine ⟨u, hu, fun hj' => ?_⟩
        have := a3.2 j (by omega) hj'
        simp only [Nat.zero_add] at this
        exact (hvr (by omega)).rn okO this
      · exact k.free j hj
      · exact k.pm j hj
      · exact (htmA o _ _ a1 j hj).2
    · have he := e
      rw [hoth i hi hm] at e
      have k := hw.ob i ver cs e
      have hl : g2.L i = g.L i := by show L2 i = _; simp only [L2]; rw [if_neg hm, if_pos hi]
      have hE : ∀ j, j < (g.L i).cap → gE.tm (g.L i).b ((g.L i).off + j) = w.cell? ⟨(g.L i).b, (g.L i).off + j, none⟩ := fun j hj => if_pos (hownB i ver cs hm e j hj)
      refine ⟨?_, ?_, fun j hj => ?_, fun j hj => ?_, fun j hj => ?_, fun j hj => ?_⟩ <;> rw [hl] at *
      · exact k.low
      · exact k.len
      · obtain ⟨v, hv, hr⟩ := k.there j hj
        refine ⟨v, hw'.tm _ _ v (by rw [htm]; exact (hE j hj).trans hv), fun hj' => (hr hj').mono hext⟩
      · obtain ⟨v, hv, hr⟩ := k.there j hj
        exact hw'.tmf _ _ v (by rw [htm]; exact (hE j hj).trans hv)
      · show g'.pm (g.L i).b ((g.L i).off + j) = none
        cases hq : g'.pm (g.L i).b ((g.L i).off + j) with
        | none => rfl
        | some v =>
          have := hw'.disj _ _ _ hq
          obtain ⟨v', hv', _⟩ := k.there j hj
          rw [htm, hE j hj, hv'] at this
          cases this
      · exact k.tm j hj
  · show Apart (g2.L i) (g2.L j)
    rcases hN i (hp_lt e1) with ⟨o, ho, rfl⟩ | ⟨hm, hi⟩
    · obtain ⟨v', cs', a1, a2, a3⟩ := hobA o ho _ _ e1
      have hl : g2.L (frN M T S o) = g'.L o := hL2 o
      rcases hN j (hp_lt e2) with ⟨o', ho', rfl⟩ | ⟨hm', hi'⟩
      · obtain ⟨v'', cs'', b1, b2, b3⟩ := hobA o' ho' _ _ e2
        have hl' : g2.L (frN M T S o') = g'.L o' := hL2 o'
        rw [hl, hl']
        exact hw'.sep o o' _ _ _ _ a1 b1 (fun h => hne (by rw [h]))
      · have hl' : g2.L j = g.L j := by show L2 j = _; simp only [L2]; rw [if_neg hm', if_pos hi']
        rw [hl, hl']
        rw [hoth j hi' hm'] at e2
        intro hb x y hx hy he
        have := (htmA o _ _ a1 x hx).1
        apply this
        rw [hb, he]
        exact hownB j _ _ hm' e2 y hy
    · have hl : g2.L i = g.L i := by show L2 i = _; simp only [L2]; rw [if_neg hm, if_pos hi]
      rw [hoth i hi hm] at e1
      rcases hN j (hp_lt e2) with ⟨o', ho', rfl⟩ | ⟨hm', hi'⟩
      · obtain ⟨v'', cs'', b1, b2, b3⟩ := hobA o' ho' _ _ e2
        have hl' : g2.L (frN M T S o') = g'.L o' := hL2 o'
        rw [hl, hl']
        intro hb x y hx hy he
        have := (htmA o' _ _ b1 y hy).1
        apply this
        rw [← hb, ← he]
        exact hownB i _ _ hm e1 x hx
      · have hl' : g2.L j = g.L j := by show L2 j = _; simp only [L2]; rw [if_neg hm', if_pos hi']
        rw [hl, hl']
        rw [hoth j hi' hm'] at e2
        exact hw.sep i j _ _ _ _ e1 e2 hne
end Go.Ab
