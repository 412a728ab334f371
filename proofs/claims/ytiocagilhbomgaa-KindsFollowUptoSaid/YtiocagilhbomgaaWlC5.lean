/- Regions are sound: in the text's order, and in every order that the edges allow. -/
import Derived.Test.YtiocagilhbomgaaWlC4
namespace Go.Ab
open Go.RowKit
set_option linter.unusedVariables false
set_option linter.unusedSimpArgs false

/-- What holds of act and world at a place of a function, seen from the function's beginning. -/
structure At (g0 : Gh) (σ0 : Hp) (n : Nat) (F : Fm) (σ : Hp) (a : Act) (w : World) : Prop where
  df : a.defers = []
  ex : ∃ g, g0.le σ0 g σ ∧ WRel g σ w ∧ FRel g σ n F a

theorem At.skip {g0 σ0 n F σ a w d} (h : At g0 σ0 n F σ a w) (hd : ∀ d', d = some d' → d' < n) : At g0 σ0 n (putM F d (.tup [])) σ (a.put d undef) w := by
  obtain ⟨h0, g, h1, h2, h3⟩ := h
  exact ⟨by cases d <;> exact h0, g, h1, h2, h3.putM hd (.tup rfl (by simp))⟩

theorem At.step {P : Program} {o : Oper} {n : Nat} {ops : Array Oper} {ro : ROper} (hr : resOper P n ops o = some ro) {g0 σ0 F σ a w} (h : At g0 σ0 n F σ a w) {σ' : Hp} {v : AV} {le : LG} (hs : StepG P ro.c F σ v σ' le)
    {next : Act → World → Prop} {Q : Exit → Act → World → Prop} (hK : ∀ a' w', At g0 σ0 n (putM F ro.dst v) σ' a' w' → next a' w') : o.wp P a w next Q := by
  obtain ⟨h0, g, h1, h2, h3⟩ := h
  obtain ⟨hc, hdst, hdn, _⟩ := resOper_eq hr
  refine StepG_wp hc hs h2 h3 (fun u w' g' k1 k2 k3 => hK _ _ ⟨?_, g', h1.trans k1, k2, ?_⟩)
  · cases o.dst <;> exact h0
  · rw [hdst]
    exact (h3.mono k1).putM hdn k3

theorem VCops_wp {P : Program} {n : Nat} {ops : Array Oper} {g0 σ0} {Q : Exit → Act → World → Prop} {K : Fr → List Ob → List LE → Prop} : ∀ (l : List Oper) (rs : List ROper) (i : Nat) (fr : Fr) (S : List Ob) (log : List LE) (a : Act) (w : World),
    (∀ j (o : Oper), l[j]? = some o → ops[i + j]? = some o) → resOpers P n ops l = some rs → VCops P rs fr S log K → At g0 σ0 n (Fr.get fr) (hp S) a w →
    (∀ fr' S' log' a' w', K fr' S' log' → At g0 σ0 n (Fr.get fr') (hp S') a' w' → Q .normal a' w') → wpOps P ops Q (List.range' i l.length) a w
  | [], rs, i, fr, S, log, a, w, _, hr, h, hat, hQ => by
    simp [resOpers] at hr; subst hr
    exact hQ _ _ _ _ _ h hat
  | o :: l, rs, i, fr, S, log, a, w, hl, hr, h, hat, hQ => by
    simp only [resOpers] at hr
    split at hr
    · rename_i ro rs' h1 h2
      cases hr
      have hoi : ops[i]? = some o := by simpa using hl 0 o rfl
      have hl' : ∀ j (o' : Oper), l[j]? = some o' → ops[i + 1 + j]? = some o' := fun j o' hj => by
        have := hl (j + 1) o' (by simpa using hj)
        rwa [show i + (j + 1) = i + 1 + j by omega] at this
      have ih := fun fr S log a w => VCops_wp (Q := Q) (K := K) (g0 := g0) (σ0 := σ0) l rs' (i + 1) fr S log a w hl' h2
      simp only [List.length_cons, List.range'_succ, wpOps, hoi]
      obtain ⟨hc, hdst, hdn, _⟩ := resOper_eq h1
      have hstep : VC1 P ro.c (Fr.get fr) S (fun v S' le => VCops P rs' (putF fr ro.dst v) S' (le :: log) K) → o.wp P a w (wpOps P ops Q (List.range' (i + 1) l.length)) Q := fun hv => by
        obtain ⟨v, S', le, k1, _, k3⟩ := VC1_step hv
        exact At.step h1 hat k1 (fun a' w' hat' => ih _ _ _ _ _ k3 (by rw [get_putF]; exact hat') hQ)
      have hat0 := hat
      obtain ⟨_, g, _, _, hf⟩ := hat
      obtain ⟨w1, w2, w3⟩ := wanted_of h1 hf
      simp only [VCops] at h
      cases hg : ro.guard with
      | none =>
        simp only [hg] at h
        rw [if_pos (w1 hg)]
        exact .inl (hstep h)
      | some p =>
        obtain ⟨t, want⟩ := p
        simp only [hg] at h
        generalize hq : Fr.get fr t = q at h
        split at h
        case h_3 => exact h.elim
        case h_2 =>
          rw [w3 t want hg hq, if_neg (by simp)]
          refine ih _ _ _ _ _ h ?_ hQ
          rw [get_putF, hdst]
          exact At.skip hat0 hdn
        rename_i b
        obtain ⟨ha, hb⟩ := h
        rw [w2 t want b hg hq]
        by_cases e : b = want
        · subst e
          rw [if_pos (by simp)]
          exact .inl (hstep (ha rfl))
        · have e' : b = !want := by cases b <;> cases want <;> simp_all
          rw [if_neg (by simp [e])]
          refine ih _ _ _ _ _ (hb e') ?_ hQ
          rw [get_putF, hdst]
          exact At.skip hat0 hdn
    · cases hr

/-! ### any order -/
def nthL (log : List LE) (i : Nat) : LE := log.reverse.getD i (.acc [] none)

def okPair : LE → LE → Prop
  | .acc fp wr, .acc fp' wr' => (match wr with | none => True | some o => o ∉ fp') ∧ (match wr' with | none => True | some o => o ∉ fp)
  | .eff S S', .acc fp wr => wr = none ∧ ∀ o ∈ fp, hp S' o = hp S o
  | .acc fp wr, .eff S S' => wr = none ∧ ∀ o ∈ fp, hp S' o = hp S o
  | .eff _ _, .eff _ _ => False

def okLog : List (Nat × Nat) → List LE → Prop
  | [], _ => True
  | (i, j) :: ps, log => okPair (nthL log i) (nthL log j) ∧ okLog ps log

/-- Operations that touch no object, whatever they are given. -/
def RC.quiet : RC → Bool
  | .op (.mv _) | .op (.pick _ _ _) | .op (.build _ _) | .op (.nchk _) | .op (.bin _ _ _ _) | .op (.eqs _ _ _ _) | .op (.un _ _) | .op (.cint _ _) | .op (.cstr _) | .op (.mki _ _) | .op (.mkf _ _ _)
  | .op (.slc _ _ _ _ _) | .op (.sls _ _ _) | .op (.fad _ _) | .op (.iad _ _ _ _) | .op (.idxs _ _) | .op (.idxa _ _ _ _) | .op (.ext _ _) | .op (.fld _ _ _) | .op (.len _ _) | .op (.mn _ _ _) | .op (.s2b _) => true
  | _ => false
/-- Operations that write no object. -/
def RC.reads : RC → Bool
  | .op (.load _ _) | .op (.b2s _) => true
  | c => c.quiet

def namesOf (r : ROper) : List Nat :=
  r.c.slots ++ ((match r.guard with | none => [] | some (t, _) => [t]) ++ (match r.dst with | none => [] | some d => [d]))

/-- All that must be ordered is. -/
def drawOK (ops : List Oper) (rs : List ROper) (pairs : List (Nat × Nat)) : Bool :=
  let bs := befAll [] ops
  let n := ops.length
  (List.range n).all fun i =>
    ((ops[i]?).map fun o => o.after.toList.all fun e => !Region.binds .any e || decide (e.on < i)).getD true &&
    (List.range n).all fun j =>
      if i < j && !ordB bs i j then
        match rs[i]?, rs[j]? with
        | some x, some y =>
          (x.c.quiet || y.c.quiet || (x.c.reads && y.c.reads) || pairs.contains (i, j)) &&
          (match x.dst with | none => true | some d => !(namesOf y).contains d) &&
          (match y.dst with | none => true | some d => !(namesOf x).contains d)
        | _, _ => true
      else true
end Go.Ab
