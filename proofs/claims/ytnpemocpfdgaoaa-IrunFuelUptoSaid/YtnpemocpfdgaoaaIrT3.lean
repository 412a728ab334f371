/- Runs of checked graphs: the whole run. -/
import Derived.Test.YtnpemocpfdgaoaaIrT2
set_option linter.unusedVariables false
set_option linter.unusedSimpArgs false
namespace Go.Proofs.Ytnpemocpfdgaoaa
open Go Go.Ab Go.RowKit
set_option maxRecDepth 20000
section
variable {p : GP} {n : Nat} {s b : AS} {z : ARow} {r : List ARow}
theorem a3R.okG {p : GP} (G : a3R p) {g : b9} (hg : g ∈ p.Funcs) : okG g := by
 have h := G.hf hg
 have h1 := h.kn; have h2 := h.pn; have h3 := h.cl
 exact ⟨by omega, by omega, by omega, G.al g hg⟩
theorem a1N.bd (G : a3R p) (T : a1N p n s) (hn : n ≤ 2097152) {k : Int} : Bd p { s with steps := k } := by
 have h1 := T.rn
 have h2 := T.pn
 have h3 := c2t s.rows
 have h4 := T.dep
 have h5 := T.lv
 have h6 := T.lv2
 have h7 := T.ev
 refine ⟨fun g hg => G.okG hg, by show s.rows.length < _; omega, by show s.pans.length < _; omega, ⟨h4.1, by show s.depth < _; omega⟩, ⟨by show 0 ≤ s.live; omega, by show s.live < _; omega⟩, fun z hz => ?_, by show s.evs.length < _; omega⟩
 replace hz : z ∈ s.rows := hz
 have hB := T.rt.mem hz
 have hd := c2u hz
 exact ⟨by show (z.df.length : Int) ≤ s.live; omega, G.okG hB.fr.mem⟩
theorem a6S {k : Int} (T : a1N p n s) : a1N p n { s with steps := k } := ⟨T.top, T.rt, T.pn, T.pv, T.lv, T.lv2, T.rn, T.dep, T.ev, T.tape⟩
theorem b2o (G : a3R p) : ∀ (k n : Nat) (s : AS), s.evs.length ≤ n → (s.ek = 0 → a1N p n s) → n + k ≤ 2097152 → c1O p k s ∧ ∃ s', a3c p k s = some s' ∧ s'.evs.length ≤ n + k
 | 0, n, s, he, h, hn => by
   refine ⟨trivial, ?_⟩
   unfold a3c
   by_cases hk : s.ek = 0
   ·rw [if_neg (by simpa using hk)]; exact ⟨_, rfl, he⟩
   ·rw [if_pos hk]; exact ⟨_, rfl, he⟩
 | k + 1, n, s, he, h, hn => by
   by_cases hk : s.ek = 0
   ·have T := h hk
    obtain ⟨b, h1, h2, h3⟩ := prog G (a6S (k := s.steps + 1) T) hk
    have ih := b2o G k (n + 1) b h2 h3 zO
    refine ⟨fun _ => ⟨T.bd G zO, fun s' hs' => ?_⟩, ?_⟩
    ·rw [h1] at hs'; cases hs'; exact ih.1
    ·unfold a3c
     rw [if_neg (by simpa using hk)]
     simp only [h1, Option.bind_some]
     obtain ⟨s', e1, e2⟩ := ih.2
     exact ⟨s', e1, by omega⟩
   ·refine ⟨fun h => absurd h hk, ?_⟩
    unfold a3c
    rw [if_pos hk]
    exact ⟨_, rfl, by omega⟩
theorem b1K (G : a3R p) {tape : List Int} (ht : ∀ v ∈ tape, WV v) : ∃ s1, as1 p tape = some s1 ∧ a1N p 0 s1 ∧ s1.steps = 0 ∧ s1.defers = 0 ∧ s1.panics = 0 := by
 obtain ⟨f, hf, hp0⟩ := G.main
 have hg : u3 p.Funcs 0 = some f := by
  have := a1l (l := p.Funcs) (i := 0)
  rw [hf] at this; exact this
 obtain ⟨f1, h1, h2⟩ := a5g G (ag := []) 1 hg (by rw [hp0]) nofun
 refine ⟨{ as0 tape with rows := [⟨f1, 0, [], 0⟩], depth := 1 }, by unfold as1; rw [h1]; rfl, ⟨by simp, ⟨⟨h2, nofun, .zero⟩, (fun _ y t e => (by cases e)), trivial⟩, rfl, nofun, rfl, Int.le_refl _, Nat.le_refl _, ⟨by show (0 : Int) ≤ 1; decide, by show (1 : Int) ≤ _; omega⟩, Nat.le_refl _, ht⟩, rfl, rfl, rfl⟩
theorem a3V {g : i7} (G : a3R ⟨g.Funcs, false⟩) {tape : List Int} {fl : Int} (hc : u9 g false = some 0) (ht : ∀ v ∈ tape, WV v) (htl : tape.length < 1000000000) (hfl : 0 ≤ fl ∧ fl ≤ 1048576) :
  ∃ s1 s2, as1 ⟨g.Funcs, false⟩ tape = some s1 ∧ a1N ⟨g.Funcs, false⟩ 0 s1 ∧ s1.steps = 0 ∧ a3c ⟨g.Funcs, false⟩ fl.toNat s1 = some s2 ∧ v3 1048577 g false tape fl = some (b7p s2, 0) ∧ s2.evs.length ≤ fl.toNat := by
 obtain ⟨s1, h1, h2, h3, _⟩ := b1K G ht
 obtain ⟨h4, s2, h5, h6⟩ := b2o G fl.toNat 0 s1 h2.ev (fun _ => h2) zO
 exact ⟨s1, s2, h1, h2, h3, h5, a3O hc (.run rfl hfl h1 h5 h4 (fun g hg => G.okG hg) zO htl), by omega⟩
theorem a4D {g : i7} (hi : ∀ f ∈ g.Funcs, ∀ n ∈ f.Nodes, WV n.Imm ∧ n.Args.length < 100000000) : (u9 g false = some 0 ∧ a3R ⟨g.Funcs, false⟩) ∨ u9 g false = some 70 := by
 rw [a7E]
 by_cases h : a4C g = true
 ·rw [if_pos h]
  obtain ⟨h1, h2, h3⟩ := a6Q h
  exact .inl ⟨rfl, rfl, h3, fun f hf n hn => (hi f hf n hn).1, fun f hf n hn => (hi f hf n hn).2, h2⟩
 ·rw [if_neg h]; exact .inr rfl
structure Ext (a b : AS) : Prop where
 evs : ∃ l, b.evs = a.evs ++ l
 depth : a.depth ≤ b.depth
 defers : a.defers ≤ b.defers
 panics : a.panics ≤ b.panics
theorem Ext.refl {a : AS} : Ext a a := ⟨⟨[], by simp⟩, Int.le_refl _, Int.le_refl _, Int.le_refl _⟩
theorem Ext.trans {a b c : AS} (h : Ext a b) (k : Ext b c) : Ext a c := by
 obtain ⟨l, h1⟩ := h.evs
 obtain ⟨m, k1⟩ := k.evs
 exact ⟨⟨l ++ m, by rw [k1, h1, List.append_assoc]⟩, Int.le_trans h.depth k.depth, Int.le_trans h.defers k.defers, Int.le_trans h.panics k.panics⟩
theorem b0w (h : a1Z p s = some b) : Ext s b := by
 obtain ⟨z, r, i, _, _, c⟩ := a2r h
 cases c with
 | go rows ps => exact ⟨⟨[], by simp⟩, Int.le_refl _, Int.le_refl _, Int.le_refl _⟩
 | pan v e =>
   obtain ⟨en, A, ps, _, rfl⟩ := a6N e
   exact ⟨⟨[], by simp⟩, by simp only; split <;> omega, Int.le_refl _, by simp only; omega⟩
 | inn rows t l => exact ⟨⟨_, rfl⟩, Int.le_refl _, Int.le_refl _, Int.le_refl _⟩
 | call rows d => exact ⟨⟨[], by simp⟩, by simp only; omega, Int.le_refl _, Int.le_refl _⟩
 | dfr rows => exact ⟨⟨[], by simp⟩, Int.le_refl _, by simp only; omega, Int.le_refl _⟩
 | ret v u h2 => exact ⟨⟨[], by simp⟩, by simp only; split <;> omega, Int.le_refl _, Int.le_refl _⟩
 | ext v => exact ⟨⟨[], by simp⟩, Int.le_refl _, Int.le_refl _, Int.le_refl _⟩
theorem a5h : ∀ {r : List ARow} {z : ARow} {ps : List s7} {u : RO}, a3s p z r ps = some u → ∀ e, u.en = some e → e.1 ≠ 3
 | r, z, ps, u, h => by
   cases hz : z.df with
   | cons x df => obtain ⟨f, _, rfl⟩ := a6b hz h; exact nofun
   | nil =>
     cases r with
     | nil => have := a7C hz h; subst this; intro e he; cases he; decide
     | cons y t =>
       rcases a6c hz h with ⟨_, f, _, rfl⟩ | ⟨_, a, l, rfl, h⟩ | ⟨_, _, h⟩
       ·exact nofun
       ·rcases h with ⟨_, v, _, h⟩ | ⟨_, w, _, rfl⟩
        ·exact a5h h
        ·intro e he
         simp only [Option.map_eq_some_iff] at he
         obtain ⟨v, _, rfl⟩ := he
         show (2 : Int) ≠ 3; decide
       ·exact a5h h
 termination_by r => r.length
theorem b0x (h : a1Z p s = some b) (h0 : s.ek = 0) : b.ek ≠ 3 := by
 obtain ⟨z, r, i, _, _, c⟩ := a2r h
 cases c with
 | pan v e =>
   obtain ⟨en, A, ps, _, rfl⟩ := a6N e
   simp only
   split
   ·decide
   ·rw [h0]; decide
 | ret v u h2 =>
   simp only
   cases hu : u.en with
   | none => simp only [Option.elim_none]; rw [h0]; decide
   | some e => exact a5h h2 e hu
 | ext v => simp only; decide
 | _ => simp only; rw [h0]; decide
theorem a6k : ∀ (k : Nat) (s x : AS), a3c p k s = some x → s.ek ≠ 3 → (x.ek ≠ 3 → ∀ m, a3c p (k + m) s = some x) ∧ (x.ek = 3 → x.steps = s.steps + k ∧ ∀ m y, a3c p (k + m) s = some y → Ext x y ∧ x.steps ≤ y.steps ∧ y.steps ≤ s.steps + (k + m : Nat))
 | k, s, x, h, h3 => by
   by_cases hk : s.ek = 0
   ·cases k with
    | zero =>
      have := a6h h hk
      subst this
      refine ⟨fun h => absurd rfl h, fun _ => ⟨by simp, fun m y hy => ?_⟩⟩
      have key : ∀ (m : Nat) (s y : AS), a3c p m s = some y → Ext s y ∧ s.steps ≤ y.steps ∧ y.steps ≤ s.steps + m := fun m => by
       induction m with
       | zero =>
         intro s y hy
         unfold a3c at hy
         split at hy
         ·cases hy; exact ⟨.refl, by omega, by omega⟩
         ·cases hy; exact ⟨⟨⟨[], by simp⟩, Int.le_refl _, Int.le_refl _, Int.le_refl _⟩, by simp, by simp⟩
       | succ m ih =>
         intro s y hy
         by_cases hk : s.ek = 0
         ·obtain ⟨s1, e1, e2⟩ := a6L hy hk
          obtain ⟨i1, i2, i3⟩ := ih s1 y e2
          have hst := a2s e1
          have hx := b0w e1
          simp only at hst
          exact ⟨(show Ext s s1 from ⟨hx.evs, hx.depth, hx.defers, hx.panics⟩).trans i1, by omega, by omega⟩
         ·have := a5e hy hk
          subst this
          exact ⟨.refl, by omega, by omega⟩
      obtain ⟨a1, a2, a3⟩ := key _ s y hy
      exact ⟨⟨a1.evs, a1.depth, a1.defers, a1.panics⟩, by simpa using a2, by simpa using a3⟩
    | succ k =>
      obtain ⟨s1, e1, e2⟩ := a6L h hk
      have hst := a2s e1
      simp only at hst
      obtain ⟨i1, i2⟩ := a6k k s1 x e2 (b0x e1 hk)
      have hgo : ∀ m, a3c p (k + 1 + m) s = a3c p (k + m) s1 := fun m => by
       rw [show k + 1 + m = (k + m) + 1 by omega]
       conv => lhs; unfold a3c
       rw [if_neg (by simpa using hk)]
       simp only [e1, Option.bind_some]
      refine ⟨fun hx m => by rw [hgo]; exact i1 hx m, fun hx => ?_⟩
      obtain ⟨j1, j2⟩ := i2 hx
      refine ⟨by omega, fun m y hy => ?_⟩
      rw [hgo] at hy
      obtain ⟨l1, l2, l3⟩ := j2 m y hy
      exact ⟨l1, l2, by omega⟩
   ·have := a5e h hk
    subst this
    refine ⟨fun _ m => ?_, fun hx => absurd hx h3⟩
    unfold a3c
    rw [if_pos hk]
end
end Go.Proofs.Ytnpemocpfdgaoaa

